/-
  The loud operations, all of them, over whatever calls are known.
-/
import Derived.Test.YtenfjdkeikjhlaaViP
set_option autoImplicit false
set_option linter.unusedVariables false
namespace Go.VI
open Go.RowKit

def OutE (β : Bt) (M : Mem) : Out → Ending → Prop
  | .ret v, e => ∃ v', e = .returned v' ∧ VR β M v v'
  | .pan v, e => ∃ v', e = .panicked [{ v := v', recovered := false }] ∧ VR β M v v'
def Enters (P : Program) (f : FuncId) : Prop := ∃ fn, P.funcs[f]? = some fn ∧ (fn.name == "runtime.NumGoroutine") = false ∧ fn.body.isNone = false
/-- What is known of calls holds in the model. -/
def CallSound (P : Program) (w0 : World) (call : CallF) : Prop :=
  ∀ f args H r H', call f args H = some (r, H') → Enters P f ∧ ∀ β w vs, Rel P w0 β H w → VRs β (memOf w0) args vs →
    Calls P f vs.toArray w fun e w' => ∃ β', Moves P w0 β β' H H' w' ∧ OutE β' (memOf w0) r e

section
variable {P : Program} {w w' w0 : World} {β β' : Bt} {H H' : AH} {nt : Nat} {e : Env} {a : Act} {M : Mem}

def DefR (β : Bt) (M : Mem) : ADef → Deferred → Prop
  | .fn f cap args, d => ∃ vs ws, d = { target := .fn (.func f) vs.toArray, args := ws.toArray } ∧ VRs β M cap vs ∧ VRs β M args ws
  | .del _ _ _, _ => False
/-- What an operation comes to, as the walk of the model's operations wants it. -/
def LoudR (P : Program) (w0 : World) (β : Bt) (H : AH) (w : World) (a : Act) (o : Oper) (next : Act → World → Prop) (Q : Exit → Act → World → Prop) : OpR → Prop
  | .val v h => ∀ v' w' β', Moves P w0 β β' H h w' → VR β' (memOf w0) v v' → next (a.put o.dst v') w'
  | .pan v h => ∀ v' w' β', Moves P w0 β β' H h w' → VR β' (memOf w0) v v' → Q (.panic [{ v := v', recovered := false }]) a w'
  | .dfr d => ∀ d' w', w' = w → DefR β (memOf w0) d d' → next ({ a with defers := d' :: a.defers }.put o.dst undef) w'

theorem unit_sound {o : Oper} {next : Act → World → Prop} {Q : Exit → Act → World → Prop} {s : Sem Unit} {h : Option AH} {r : OpR} (hu : unit h = some r) (hs : ∀ H', h = some H' → ∃ w', s.run P w = .ok () w' ∧ Moves P w0 β β H H' w')
    (he : execOp a.eval o = do s; pure .skip) (k : LoudR P w0 β H w a o next Q r) : o.wp P a w next Q := by
  unfold unit at hu
  split at hu
  · rename_i H'
    injection hu with hu; subst hu
    obtain ⟨w', h1, h2⟩ := hs H' rfl
    unfold Oper.wp
    rw [he]
    simp only [Sem.run_bind, h1, Result.andThen_ok, Sem.run_pure, Oper.upon_skip]
    exact k _ _ _ h2 undef_sound
  · cases hu
theorem store_sound (R : Rel P w0 β H w) {o : Oper} {next : Act → World → Prop} {Q : Exit → Act → World → Prop} {t : TypeId} {x y : Operand} {r : OpR} (E : ERel β (memOf w0) nt e a) (ho : o.op = .store t x y) (h : doStore P e H t x y = some r)
    (k : LoudR P w0 β H w a o next Q r) : o.wp P a w next Q := by
  unfold doStore at h
  split at h
  · rename_i l off v s hx hy hs
    split at h
    · rename_i hl
      have hl := Nat.eq_of_beq_eq_true hl
      refine unit_sound (s := Instr.storeAt t (a.eval x) (a.eval y)) h (fun H' hw => ?_) (by simp only [execOp, ho]) k
      have k1 := ev_sound E hx
      have k2 := ev_sound E hy
      generalize a.eval x = vx at *
      generalize a.eval y = vy at *
      cases k1 with | ptr _ _ c o' hloc =>
      obtain ⟨w', hr, hm⟩ := write_sound R hw hloc k2.cells
      refine ⟨w', ?_, hm⟩
      have hsz : vy.cells.size = s := by have := k2.cells.length; simp at this; omega
      simp only [Instr.storeAt, Instr.sureAddr, storeVar, Sem.run_bind, Sem.run_pure, Result.andThen_ok, run_csz hs, hsz, ne_eq, not_true_eq_false, if_false]
      exact hr
    · cases h
  · cases h
theorem mapUp_sound (R : Rel P w0 β H w) {o : Oper} {next : Act → World → Prop} {Q : Exit → Act → World → Prop} {t : TypeId} {m k x : Operand} {r : OpR} (E : ERel β (memOf w0) nt e a) (ho : o.op = .mapUpdate t m k x ∨ o.op = .insert t m k x) (h : doMapUpdate P e H t m k x = some r)
    (kk : LoudR P w0 β H w a o next Q r) : o.wp P a w next Q := by
  unfold doMapUpdate at h
  split at h
  · rename_i kt et b kv v hu hm hk hx
    split at h
    · rename_i hok
      refine unit_sound (s := Instr.mapUpdate t (a.eval m) (a.eval k) (a.eval x)) h (fun H' hw => ?_) (by rcases ho with ho | ho <;> simp only [execOp, ho]) kk
      exact mapUpdate_sound R hu (ev_sound E hm) (ev_sound E hk) (ev_sound E hx) hok hw
    · cases h
  · cases h
theorem leaves_wp {o : Oper} {next : Act → World → Prop} {Q : Exit → Act → World → Prop} {c : Call} {b : Builtin} {v : AV} (ho : o.op = .call c) (hc : c.callee = .builtin b) {s : Sem Value} (hb : ∀ cs, builtin b c.argTypes o.type cs (c.args.map a.eval) = (do pure (.value (← s))))
    (h : Leaves' P w0 β H H' w v s) (k : LoudR P w0 β H w a o next Q (.val v H')) : o.wp P a w next Q := by
  obtain ⟨v', w', β', h1, h2, h3⟩ := h
  unfold Oper.wp
  rw [run_builtin ho hc, hb]
  simp only [Sem.run_bind, h1, Result.andThen_ok, Sem.run_pure, Oper.upon_value]
  exact k _ _ _ h2 h3
theorem args_two {x y : Operand} {c : Call} (h : c.args.toList = [x, y]) : c.args.map a.eval = #[a.eval x, a.eval y] := by
  apply Array.ext'; simp [h]
theorem append_sound (R : Rel P w0 β H w) {o : Oper} {next : Act → World → Prop} {Q : Exit → Act → World → Prop} {c : Call} {r : OpR} (E : ERel β (memOf w0) nt e a) (ho : o.op = .call c) (hc : c.callee = .builtin .append) (h : doAppend P e H c.args.toList c.argTypes.toList = some r)
    (kk : LoudR P w0 β H w a o next Q r) : o.wp P a w next Q := by
  unfold doAppend at h
  split at h
  · rename_i x y t u ha ht
    split at h
    · rename_i el d s v hu hud hx hy
      split at h
      · rename_i hd
        unfold appendBy at h
        split at h
        · rename_i sz by_ z hs hby hz
          split at h
          · rename_i k new hzl hsrc
            split at h
            · rename_i hones
              unfold valH at h
              split at h
              · rename_i v' H' happ
                injection h with h; subst h
                have hzl := Nat.eq_of_beq_eq_true hzl
                obtain ⟨zv, hz1, hz2⟩ := zeroOf_sound (M := memOf w0) (β := β) hz
                obtain ⟨i, hi, hib⟩ := run_byt hby w
                have hzs : zv.cells.size = sz + 1 := by have := hz2.cells.length; simp at this; omega
                obtain ⟨ws, hv1, hv2, hv3, hv4⟩ := src_sound R hsrc (ev_sound E hy)
                have ks := ev_sound E hx
                have hat : c.argTypes = #[t, u] := by apply Array.ext'; simp [ht]
                refine leaves_wp (s := Builtin.append_ #[t, u] o.type #[a.eval x, a.eval y]) ho hc (fun _ => by simp only [builtin, hat, args_two ha]) ?_ kk
                generalize a.eval x = vx at *
                unfold appendA at happ
                split at happ
                · cases ks
                  exact appendNil_sound R hu hud hd hs (by omega) hi hib hz1 hzs hv3 hv2 hv1 hv4 happ
                · exact appendIm_sound R hu hud hd hs (by omega) hi hib hz1 hzs hv3 hv2 hv1 hv4 ks happ
                · exact appendMt_sound R hu hud hd hs (by omega) hi hib hz1 hzs hv3 hv2 hv1 hv4 hones ks happ
                · cases happ
              · cases h
            · cases h
          · cases h
        · cases h
      · cases h
    · cases h
  · cases h
theorem srcLen_sound {v : AV} {vx : Value} {n : Nat} (h : srcLen v = some n) (hv : VR β M v vx) (w : World) : (Builtin.lenOf vx).run P w = .ok n w := by
  unfold srcLen at h
  split at h
  · injection h with h; subst h; cases hv; rfl
  · rename_i s
    injection h with h; subst h
    generalize hq : AV.str s = q at hv
    cases hv <;> cases hq
    rw [str_len]; rfl
  · injection h with h; subst h; cases hv <;> rfl
  · cases h
theorem firstSrc_sound (R : Rel P w0 β H w) {e n : Nat} {v : AV} {vx : Value} {cs : List AV} (h : firstSrc H e n v = some cs) (hv : VR β (memOf w0) v vx) (hn : n = 0 ∨ ∀ q, srcLen v = some q → n ≤ q) (hq : ∃ q, srcLen v = some q ∧ n ≤ q) :
    ∃ ws, VRs β (memOf w0) cs ws ∧ Firsts P w e n vx ws := by
  unfold firstSrc at h
  split at h
  · injection h with h; subst h; cases hv
    exact ⟨[], .nil, fun w' _ => rfl⟩
  · rename_i s
    split at h
    · rename_i he
      injection h with h; subst h; subst he
      generalize hq : AV.str s = q at hv
      cases hv <;> cases hq
      refine ⟨_, bytes_take _ n, fun w' _ => ?_⟩
      simp only [Builtin.firstCells, Sem.run_pure]
    · cases h
  · rename_i l o len cap
    cases hv with
    | sl _ _ _ _ cap' c o' hl hc =>
      obtain ⟨ws, h1, h2, h3⟩ := firsts_sl (P := P) R hl h len cap'
      exact ⟨ws, h1, h3⟩
    | sl0 _ _ _ c o' ad hl hc =>
      obtain ⟨q, hq1, hq2⟩ := hq
      simp only [srcLen, Option.some.injEq] at hq1
      subst hq1
      have hn0 : n = 0 := by omega
      subst hn0
      obtain ⟨hlen, vs, hv', hc'⟩ := read_sound R hl h
      rw [Nat.zero_mul] at hlen
      have : cs = [] := List.eq_nil_of_length_eq_zero hlen
      subst this
      cases hv'
      exact ⟨[], .nil, fun w' _ => by simp [Builtin.firstCells, loadCells, loadCellsFrom]⟩
  · cases h
theorem copy_sound (R : Rel P w0 β H w) {o : Oper} {next : Act → World → Prop} {Q : Exit → Act → World → Prop} {c : Call} {r : OpR} (E : ERel β (memOf w0) nt e a) (ho : o.op = .call c) (hc : c.callee = .builtin .copy) (h : doCopy P e H c.args.toList c.argTypes.toList = some r)
    (kk : LoudR P w0 β H w a o next Q r) : o.wp P a w next Q := by
  unfold doCopy at h
  split at h
  · rename_i x y xs t ts ha ht
    split at h
    · rename_i el d v hu hx hy
      have k1 := ev_sound E hx
      have k2 := ev_sound E hy
      have hat : c.argTypes[0]? = some t := by rw [← Array.getElem?_toList, ht]; rfl
      have ha0 : (c.args.map a.eval)[0]? = some (a.eval x) := by rw [← Array.getElem?_toList]; simp [ha]
      have ha1 : (c.args.map a.eval)[1]? = some (a.eval y) := by rw [← Array.getElem?_toList]; simp [ha]
      have fin : ∀ v' w' , (Builtin.copy_ c.argTypes o.type (c.args.map a.eval)).run P w = .ok v' w' → ∀ H', r = .val (match v' with | .int k n => .int k n | _ => .nili) H' → Moves P w0 β β H H' w' → (∃ n, v' = .int .i64 n) → o.wp P a w next Q := by
        intro v' w' hrun H' hr hm ⟨n, hn⟩
        subst hn; subst hr
        exact leaves_wp (s := Builtin.copy_ c.argTypes o.type (c.args.map a.eval)) ho hc (fun _ => by simp only [builtin]) ⟨_, w', β, hrun, hm, .int _ _⟩ kk
      generalize a.eval x = vx at *
      generalize a.eval y = vy at *
      unfold copyBy at h
      split at h
      · rename_i sz m hs hm
        injection h with h; subst h
        cases k1
        have hl := fun w => srcLen_sound (P := P) hm k2 w
        obtain ⟨cells, hcells⟩ : ∃ cs, ∀ w, (Builtin.firstCells (sz + 1) (Nat.min m 0) vy).run P w = .ok cs w := by
          have hmz : Nat.min m 0 = 0 := Nat.min_zero m
          rw [hmz]
          cases k2 <;> simp [srcLen] at hm <;> first
            | exact ⟨_, fun w => by simp only [Builtin.firstCells, Sem.run_pure]; rfl⟩
            | exact ⟨_, fun w => by simp only [Builtin.firstCells, Nat.zero_mul, loadCells, loadCellsFrom, Sem.run_pure]; rfl⟩
        refine fin (.int .i64 0) w ?_ H rfl (.refl R) ⟨_, rfl⟩
        simp [Builtin.copy_, hat, ha0, ha1, run_underlying hu, hl, run_csz hs, goInt]
        have := hcells w
        have hmz : Nat.min m 0 = 0 := Nat.min_zero m
        rw [hmz] at this
        simp [this]
      · rename_i sz m l off n cap hs hm
        unfold copyTo at h
        split at h
        · rename_i cs hcs
          obtain ⟨ws, hv1, hv2⟩ := firstSrc_sound (P := P) R hcs k2 (.inr fun q hq => by rw [hm] at hq; injection hq with hq; subst hq; exact Nat.min_le_left _ _) ⟨m, hm, Nat.min_le_left _ _⟩
          have hl := fun w => srcLen_sound (P := P) hm k2 w
          have hfc := hv2 w rfl
          split at h
          · rename_i hz
            have hz := Nat.eq_of_beq_eq_true hz
            injection h with h; subst h
            rw [hz] at hcs hfc
            have hws : ws = [] := by
              have h0 : cs.length = 0 := by
                unfold firstSrc at hcs
                split at hcs
                · injection hcs with hcs; subst hcs; rfl
                · split at hcs
                  · injection hcs with hcs; subst hcs; simp [bytesA]
                  · cases hcs
                · rename_i l' o' n' c'
                  unfold AH.read at hcs
                  split at hcs
                  · split at hcs
                    · injection hcs with hcs; subst hcs; simp
                    · cases hcs
                  · cases hcs
                · cases hcs
              have := hv1.length
              exact List.eq_nil_of_length_eq_zero (by omega)
            subst hws
            refine fin (.int .i64 0) w ?_ H rfl (.refl R) ⟨_, rfl⟩
            cases k1 with
            | sl _ _ _ _ cap' c' o' hloc hcap =>
              simp [Builtin.copy_, hat, ha0, ha1, run_underlying hu, hl, run_csz hs, goInt, hz, hfc, storeCells]
            | sl0 _ _ _ c' o' ad hloc hcap =>
              simp [Builtin.copy_, hat, ha0, ha1, run_underlying hu, hl, run_csz hs, goInt, hfc, storeCells]
          · rename_i hz
            split at h
            · rename_i H' hw
              injection h with h; subst h
              cases k1 with
              | sl _ _ _ _ cap' c' o' hloc hcap =>
                obtain ⟨w', hst, hmv⟩ := write_sound R hw hloc hv1
                refine fin (.int .i64 (Nat.min m n)) w' ?_ H' rfl hmv ⟨_, rfl⟩
                simp [Builtin.copy_, hat, ha0, ha1, run_underlying hu, hl, run_csz hs, goInt, hfc, hst]
              | sl0 _ _ _ c' o' ad hloc hcap =>
                have hmz : Nat.min m 0 = 0 := Nat.min_zero m
                rw [hmz] at hz; cases hz
            · cases h
        · cases h
      · cases h
    · cases h
  · cases h
theorem delete_sound (R : Rel P w0 β H w) {o : Oper} {next : Act → World → Prop} {Q : Exit → Act → World → Prop} {c : Call} {r : OpR} (E : ERel β (memOf w0) nt e a) (ho : o.op = .call c) (hc : c.callee = .builtin .delete) (h : doDelete P e H c.args.toList c.argTypes.toList = some r)
    (kk : LoudR P w0 β H w a o next Q r) : o.wp P a w next Q := by
  unfold doDelete at h
  split at h
  · rename_i x y xs t ts ha ht
    split at h
    · rename_i kt et b kv hu hm hk
      split at h
      · rename_i hok
        unfold unit at h
        split at h
        · rename_i H' hw
          injection h with h; subst h
          obtain ⟨w', h1, h2⟩ := mapDelete_sound (u := 0) (ty := o.type) (r := xs.map a.eval) (ts := ts) R hu (ev_sound E hm) (ev_sound E hk) hok hw
          have e1 : c.argTypes = (t :: ts).toArray := by apply Array.ext'; simp [ht]
          have e2 : c.args.map a.eval = (a.eval x :: a.eval y :: xs.map a.eval).toArray := by apply Array.ext'; simp [ha]
          exact leaves_wp (s := Builtin.delete_ (t :: ts).toArray o.type (a.eval x :: a.eval y :: xs.map a.eval).toArray) ho hc (fun _ => by simp only [builtin, e1, e2]) ⟨_, w', β, h1, h2, .tup [] [] .nil⟩ kk
        · cases h
      · cases h
    · cases h
  · cases h
end
end Go.VI
