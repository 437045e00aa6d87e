/-
 Rules of what code does on the abstract machine; what arguments read as.
-/
import Derived.Test.YtehmhhlhlipbnaaVi2
import Derived.KernelRfl
import Derived.DataReads
import Derived.SizedLaws
set_option autoImplicit false
set_option linter.unusedVariables false
set_option linter.unusedSimpArgs false
namespace Go.VI

def CLe (c c' : CallF) : Prop := ∀ f a H r, c f a H = some r → c' f a H = some r
theorem CLe.refl (c : CallF) : CLe c c := fun _ _ _ _ h => h
theorem CLe.trans {a b c : CallF} (h : CLe a b) (k : CLe b c) : CLe a c := fun f x H r e => k f x H r (h f x H r e)

section
variable {P : Program} {nt : Nat} {call call' : CallF} {e : Env} {h : AH}

theorem ofOut_mono (hc : CLe call call') {g : FuncId} {vs : List AV} {r : OpR} (k : ofOut (call g vs h) = some r) : ofOut (call' g vs h) = some r := by
 cases hh : call g vs h with
 | none => rw [hh] at k; cases k
 | some x => rw [hc _ _ _ _ hh, ← hh]; exact k
theorem doCall_mono (hc : CLe call call') {c : Call} {r : OpR} (k : doCall P call e h c = some r) : doCall P call' e h c = some r := by
 unfold doCall at k ⊢
 split at k
 ·exact k
 ·unfold doCallV at k ⊢
  split at k
  ·exact ofOut_mono hc k
  ·cases k
 ·unfold doInvoke at k ⊢
  split at k
  ·split at k
   ·rename_i hg; (try simp only [hg]); exact ofOut_mono hc k
   ·cases k
  ·cases k
theorem loudOp_mono (hc : CLe call call') {op : Op} {r : OpR} (k : loudOp P call e h op = some r) : loudOp P call' e h op = some r := by
 unfold loudOp at k ⊢
 split at k <;> first | exact k | exact doCall_mono hc k
theorem opA_mono (hc : CLe call call') {op : Op} {r : OpR} (k : opA P call e h op = some r) : opA P call' e h op = some r := by
 unfold opA at k ⊢
 split at k
 ·rename_i hk; (try simp only [hk]); exact k
 ·rename_i hk; (try simp only [hk]); exact k
 ·rename_i hk; (try simp only [hk]); exact loudOp_mono hc k
theorem aops_mono (hc : CLe call call') {all : List Oper} : ∀ (l : List Oper) (s : St) (r : ORes), aops P nt call all l s = some r → aops P nt call' all l s = some r
 | [], s, r, k => by simpa only [aops] using k
 | o :: l, s, r, k => by
  simp only [aops] at k ⊢
  split at k
  ·rename_i hw
   rw [if_pos hw]
   cases ho : opA P call s.e s.h o.op with
   | none => rw [ho] at k; cases k
   | some x =>
    rw [opA_mono hc ho]; rw [ho] at k
    cases x with
    | val v h => 
     simp only at k ⊢
     split at k
     ·rename_i hp; (try simp only [hp]); exact aops_mono hc l _ r k
     ·cases k
    | pan v h => exact k
    | dfr d =>
     simp only at k ⊢
     split at k
     ·rename_i hp; (try simp only [hp]); exact aops_mono hc l _ r k
     ·cases k
  ·rename_i hw
   rw [if_neg hw]
   split at k
   ·rename_i hp; (try simp only [hp]); exact aops_mono hc l _ r k
   ·cases k
theorem adraw_mono (hc : CLe call call') {all : List Oper} {ms : List Nat} : ∀ (l : List Nat) (ls : List Look) (s : St) (r : St), adraw P nt call all ms l ls s = some r → adraw P nt call' all ms l ls s = some r
 | [], ls, s, r, k => by simpa only [adraw] using k
 | i :: l, ls, s, r, k => by
  simp only [adraw] at k ⊢
  cases ho : all[i]? with
  | none => rw [ho] at k; cases k
  | some o =>
   rw [ho] at k
   simp only at k ⊢
   split at k
   ·rename_i hw
    rw [if_pos hw]
    cases hk : kindOp P o.op with
    | read =>
     rw [hk] at k; simp only at k ⊢
     split at k
     ·rename_i hr
      split at k
      ·rename_i hp; (try simp only [hr, hp]); exact adraw_mono hc l _ _ r k
      ·cases k
     ·cases k
    | alloc =>
     rw [hk] at k; simp only at k ⊢
     split at k
     ·rename_i hr
      split at k
      ·rename_i hp
       split at k
       ·rename_i hq; (try simp only [hr, hp]); rw [if_pos hq]; exact adraw_mono hc l _ _ r k
       ·cases k
      ·cases k
     ·cases k
    | loud =>
     rw [hk] at k; simp only at k ⊢
     split at k
     ·rename_i hr
      split at k
      ·rename_i hp
       split at k
       ·rename_i hq; simp only [loudOp_mono hc hr, hp]; rw [if_pos hq]; exact adraw_mono hc l _ _ r k
       ·cases k
      ·cases k
     ·cases k
   ·rename_i hw
    rw [if_neg hw]
    split at k
    ·rename_i hp; (try simp only [hp]); exact adraw_mono hc l _ _ r k
    ·cases k
theorem regionA_mono (hc : CLe call call') {ops : Array Oper} {draw : Bool} {s : St} {r : ORes} (k : regionA P nt call ops draw s = some r) : regionA P nt call' ops draw s = some r := by
 unfold regionA at k ⊢
 split at k
 ·rename_i hd
  rw [if_pos hd]
  simp only at k ⊢
  split at k
  ·rename_i hp
   rw [if_pos hp]
   obtain ⟨s1, h1, rfl⟩ := Option.map_eq_some_iff.1 k
   rw [adraw_mono hc _ _ _ _ h1]; rfl
  ·rename_i hp
   rw [if_neg hp]
   split at k
   ·rename_i hp2
    rw [if_pos hp2]
    split at k
    ·rename_i s1 h1
     rw [adraw_mono hc _ _ _ _ h1]; exact k
    ·cases k
   ·cases k
 ·rename_i hd
  rw [if_neg hd]
  exact aops_mono hc _ _ _ k
theorem iter_mono {b b' : St → Option (AExit × St)} (hb : ∀ s r, b s = some r → b' s = some r) : ∀ (n m : Nat) (s : St) (r : AExit × St), n ≤ m → iter b n s = some r → iter b' m s = some r
 | 0, _, _, _, _, k => by cases k
 | n + 1, 0, _, _, hl, _ => absurd hl (by omega)
 | n + 1, m + 1, s, r, hl, k => by
  simp only [iter] at k ⊢
  cases hh : b s with
  | none => rw [hh] at k; cases k
  | some x =>
   rw [hb _ _ hh]; rw [hh] at k
   obtain ⟨x, s'⟩ := x
   cases x <;> simp only at k ⊢ <;> first | exact iter_mono hb n m s' r (by omega) k | exact k
theorem jumps_mono {has : Nat → Bool} {b b' : Option Nat → St → Option (AExit × St)} (hb : ∀ l s r, b l s = some r → b' l s = some r) : ∀ (n m : Nat) (l : Option Nat) (s : St) (r : AExit × St), n ≤ m → jumps has b n l s = some r → jumps has b' m l s = some r
 | 0, _, _, _, _, _, k => by cases k
 | n + 1, 0, _, _, _, hl, _ => absurd hl (by omega)
 | n + 1, m + 1, l, s, r, hl, k => by
  simp only [jumps] at k ⊢
  cases hh : b l s with
  | none => rw [hh] at k; cases k
  | some x =>
   rw [hb _ _ _ hh]; rw [hh] at k
   obtain ⟨x, s'⟩ := x
   cases x with
   | goto l' =>
    simp only at k ⊢
    cases hq : has l' with
    | true => rw [hq] at k; simp only at k ⊢; exact jumps_mono hb n m _ _ r (by omega) k
    | false => rw [hq] at k; exact k
   | normal => exact k
   | exit _ => exact k
   | ret => exact k
   | pan _ => exact k
mutual
theorem aexec_mono (hc : CLe call call') {n m : Nat} (hn : n ≤ m) : ∀ (c : Code) (s : St) (r : AExit × St), aexec P nt call n c s = some r → aexec P nt call' m c s = some r
 | .skip, s, r, k => by simpa only [aexec] using k
 | .label _, s, r, k => by simpa only [aexec] using k
 | .region _ ops draw, s, r, k => by
  simp only [aexec] at k ⊢
  cases hr : regionA P nt call ops draw s with
  | none => rw [hr] at k; cases k
  | some x => rw [regionA_mono hc hr]; rw [hr] at k; exact k
 | .seq a b, s, r, k => by
  simp only [aexec] at k ⊢
  cases h1 : aexec P nt call n a s with
  | none => rw [h1] at k; cases k
  | some x =>
   rw [aexec_mono hc hn a _ _ h1]; rw [h1] at k
   obtain ⟨x, s'⟩ := x
   cases x <;> simp only at k ⊢ <;> first | exact aexec_mono hc hn b s' r k | exact k
 | .cond c a b, s, r, k => by
  simp only [aexec] at k ⊢
  split at k
  ·rename_i hh; (try simp only [hh]); exact aexec_mono hc hn a s r k
  ·rename_i hh; (try simp only [hh]); exact aexec_mono hc hn b s r k
  ·cases k
 | .block id b, s, r, k => by
  simp only [aexec] at k ⊢
  cases h1 : aexec P nt call n b s with
  | none => rw [h1] at k; cases k
  | some x => rw [aexec_mono hc hn b _ _ h1]; rw [h1] at k; exact k
 | .loop b, s, r, k => by
  simp only [aexec] at k ⊢
  exact iter_mono (fun s r => aexec_mono hc hn b s r) _ _ _ _ hn k
 | .scope c, s, r, k => by
  simp only [aexec] at k ⊢
  exact jumps_mono (fun l s r hh => by
   cases l with
   | none => exact aexec_mono hc hn c s r hh
   | some l => exact aexecL_mono hc hn l c s r hh) _ _ _ _ _ hn k
 | .exit id, s, r, k => by simpa only [aexec] using k
 | .ret, s, r, k => by simpa only [aexec] using k
 | .rangeFunc .., s, r, k => by simp only [aexec] at k; cases k
 | .goto _, s, r, k => by simpa only [aexec] using k
 | .refuse _, s, r, k => by simp only [aexec] at k; cases k
theorem aexecL_mono (hc : CLe call call') {n m : Nat} (hn : n ≤ m) (l : Nat) : ∀ (c : Code) (s : St) (r : AExit × St), aexecL P nt call n l c s = some r → aexecL P nt call' m l c s = some r
 | .seq a b, s, r, k => by
  simp only [aexecL] at k ⊢
  cases hl : hasLabel a l with
  | true =>
   rw [hl] at k; simp only at k ⊢
   cases h1 : aexecL P nt call n l a s with
   | none => rw [h1] at k; cases k
   | some x =>
    rw [aexecL_mono hc hn l a _ _ h1]; rw [h1] at k
    obtain ⟨x, s'⟩ := x
    cases x <;> simp only at k ⊢ <;> first | exact aexec_mono hc hn b s' r k | exact k
  | false => rw [hl] at k; exact aexecL_mono hc hn l b s r k
 | .label l', s, r, k => by simpa only [aexecL] using k
 | .skip, s, r, k => by simp only [aexecL] at k; cases k
 | .region .., s, r, k => by simp only [aexecL] at k; cases k
 | .cond .., s, r, k => by simp only [aexecL] at k; cases k
 | .block .., s, r, k => by simp only [aexecL] at k; cases k
 | .loop _, s, r, k => by simp only [aexecL] at k; cases k
 | .scope _, s, r, k => by simp only [aexecL] at k; cases k
 | .exit _, s, r, k => by simp only [aexecL] at k; cases k
 | .ret, s, r, k => by simp only [aexecL] at k; cases k
 | .goto _, s, r, k => by simp only [aexecL] at k; cases k
 | .rangeFunc .., s, r, k => by simp only [aexecL] at k; cases k
 | .refuse _, s, r, k => by simp only [aexecL] at k; cases k
end
theorem bindN_mono {f g : St → Option (List (AExit × St))} (h : ∀ s r, f s = some r → g s = some r) : ∀ (l r : List (AExit × St)), bindN f l = some r → bindN g l = some r
 | [], r, k => k
 | (x, s) :: l, r, k => by
  cases x <;> simp only [bindN] at k ⊢
  ·split at k
   ·rename_i a b ha hb
    rw [h _ _ ha, bindN_mono h l b hb]; exact k
   ·cases k
  all_goals
   split at k
   ·rename_i b hb
    rw [bindN_mono h l b hb]; exact k
   ·cases k
theorem iterN_mono {f g : St → Option (List (AExit × St))} (h : ∀ s r, f s = some r → g s = some r) : ∀ (n m : Nat) (s : St) (r : List (AExit × St)), n ≤ m → iterN f n s = some r → iterN g m s = some r
 | 0, _, _, _, _, k => by cases k
 | n + 1, 0, _, _, hn, _ => by omega
 | n + 1, m + 1, s, r, hn, k => by
  simp only [iterN] at k ⊢
  split at k
  ·rename_i l hl
   rw [h _ _ hl]
   exact bindN_mono (fun s r hr => iterN_mono h n m s r (by omega) hr) l r k
  ·cases k
theorem outsA_mono (hc : CLe call call') {all : List Oper} {d : Nat} {s : St} : ∀ (o : List (AV × AH)) (r : List (AExit × St)), outsA P nt call all d s o = some r → outsA P nt call' all d s o = some r
 | [], r, k => k
 | (v, h) :: o, r, k => by
  simp only [outsA] at k ⊢
  split at k
  ·rename_i s' l h1 h2
   rw [aops_mono hc _ _ _ h1, outsA_mono hc o l h2]; exact k
  ·cases k
theorem regionN_mono (hc : CLe call call') {ops : Array Oper} {s : St} {x : Nat × Operand} {r : List (AExit × St)} (k : regionN P nt call ops s x = some r) : regionN P nt call' ops s x = some r := by
 obtain ⟨d, it⟩ := x
 unfold regionN at k ⊢
 dsimp only at k ⊢
 split at k
 ·split at k
  ·exact outsA_mono hc _ _ k
  ·cases k
 ·cases k
theorem oneN_mono {a b : Option (AExit × St)} (h : ∀ r, a = some r → b = some r) {l : List (AExit × St)} (k : oneN a = some l) : oneN b = some l := by
 obtain ⟨x, h1, h2⟩ := Option.map_eq_some_iff.1 k
 simp only [oneN, h x h1, Option.map_some, h2]
theorem aexecN_mono (hc : CLe call call') {n m : Nat} (hn : n ≤ m) : ∀ (c : Code) (s : St) (r : List (AExit × St)), aexecN P nt call n c s = some r → aexecN P nt call' m c s = some r
 | .region id ops draw, s, r, k => by
  simp only [aexecN] at k ⊢
  split at k
  ·exact regionN_mono hc k
  ·exact oneN_mono (fun r => aexec_mono hc hn _ s r) k
 | .seq a b, s, r, k => by
  simp only [aexecN] at k ⊢
  split at k
  ·rename_i l hl
   rw [aexecN_mono hc hn a _ _ hl]
   exact bindN_mono (fun s r => aexecN_mono hc hn b s r) l r k
  ·cases k
 | .cond c a b, s, r, k => by
  simp only [aexecN] at k ⊢
  split at k
  ·rename_i hh; (try simp only [hh]); exact aexecN_mono hc hn a s r k
  ·rename_i hh; (try simp only [hh]); exact aexecN_mono hc hn b s r k
  ·cases k
 | .block id b, s, r, k => by
  simp only [aexecN] at k ⊢
  obtain ⟨l, h1, h2⟩ := Option.map_eq_some_iff.1 k
  rw [aexecN_mono hc hn b _ _ h1, Option.map_some, h2]
 | .loop b, s, r, k => by
  simp only [aexecN] at k ⊢
  exact iterN_mono (fun s r => aexecN_mono hc hn b s r) _ _ _ _ hn k
 | .skip, s, r, k => by simp only [aexecN] at k ⊢; exact oneN_mono (fun r => aexec_mono hc hn _ s r) k
 | .label _, s, r, k => by simp only [aexecN] at k ⊢; exact oneN_mono (fun r => aexec_mono hc hn _ s r) k
 | .exit _, s, r, k => by simp only [aexecN] at k ⊢; exact oneN_mono (fun r => aexec_mono hc hn _ s r) k
 | .ret, s, r, k => by simp only [aexecN] at k ⊢; exact oneN_mono (fun r => aexec_mono hc hn _ s r) k
 | .rangeFunc .., s, r, k => by simp only [aexecN] at k ⊢; exact oneN_mono (fun r => aexec_mono hc hn _ s r) k
 | .scope _, s, r, k => by simp only [aexecN] at k ⊢; exact oneN_mono (fun r => aexec_mono hc hn _ s r) k
 | .goto _, s, r, k => by simp only [aexecN] at k ⊢; exact oneN_mono (fun r => aexec_mono hc hn _ s r) k
 | .refuse _, s, r, k => by simp only [aexecN] at k ⊢; exact oneN_mono (fun r => aexec_mono hc hn _ s r) k
theorem abody_mono (hc : CLe call call') {n m : Nat} (hn : n ≤ m) : CLe (abody P call n) (abody P call' m) := by
 intro f args H r k
 unfold abody at k ⊢
 split at k
 ·rename_i fn hf
  (try simp only [hf])
  split at k
  ·rename_i c hb
   (try simp only [hb])
   split at k
   ·rename_i hl
    rw [if_pos hl]
    split at k
    ·rename_i hh
     (try simp only [hh])
     unfold bodyN at k ⊢
     split at k
     ·rename_i l hx
      rw [aexecN_mono hc hn c _ _ hx]; exact k
     ·cases k
    ·rename_i hh
     (try simp only [hh])
     cases hx : aexec P fn.ntmps call n c ⟨envOf 0 args .lf, H, []⟩ with
     | none => rw [hx] at k; cases k
     | some x => rw [aexec_mono hc hn c _ _ hx]; rw [hx] at k; exact k
   ·cases k
  ·cases k
 ·cases k
end

section
variable {P : Program} {orc : CallF}
theorem acall_le_succ : ∀ n, CLe (acall P orc n) (acall P orc (n + 1))
 | 0 => fun f args H r k => by
  have k : orc f args H = some r := k
  simp only [acall, k, orElseA]
 | n + 1 => fun f args H r k => by
  simp only [acall] at k ⊢
  cases ho : orc f args H with
  | some x => rw [ho] at k; exact k
  | none =>
   rw [ho] at k
   exact abody_mono (acall_le_succ n) (Nat.le_succ n) f args H r k
theorem acall_le {n m : Nat} (h : n ≤ m) : CLe (acall P orc n) (acall P orc m) := by
 induction h with
 | refl => exact CLe.refl _
 | step _ ih => exact ih.trans (acall_le_succ _)
end
end Go.VI
namespace Go.VI

section
variable (P : Program) (orc : CallF) (nt : Nat)
def Does (c : Code) (s : St) (x : AExit) (s' : St) : Prop := ∃ n, aexec P nt (acall P orc n) n c s = some (x, s')
/-- What code comes to. -/
def WP (c : Code) (Q : AExit → St → Prop) (s : St) : Prop := ∃ x s', Does P orc nt c s x s' ∧ Q x s'
/-- What a call answers. -/
def Fin (f : FuncId) (args : List AV) (H : AH) (Q : AV → AH → Prop) : Prop := ∃ v H', (∃ n, acall P orc n f args H = some (.ret v, H')) ∧ Q v H'
/-- What the operations of a region in the text's order come to. -/
def WO (all l : List Oper) (K : St → Prop) (s : St) : Prop := ∃ s', (∃ n, aops P nt (acall P orc n) all l s = some (.ok s')) ∧ K s'
/-- Those of a region in an open order. -/
def WD (all : List Oper) (ms l : List Nat) (ls : List Look) (K : St → Prop) (s : St) : Prop := ∃ s', (∃ n, adraw P nt (acall P orc n) all ms l ls s = some s') ∧ K s'
end

def thenQ (k : St → Prop) (Q : AExit → St → Prop) (x : AExit) (s : St) : Prop := match x with | .normal => k s | x => Q x s
def blockQ (id : Nat) (Q : AExit → St → Prop) (x : AExit) (s : St) : Prop := match x with | .exit j => (j = id → Q .normal s) ∧ (j ≠ id → Q (.exit j) s) | x => Q x s

section
variable {P : Program} {orc : CallF} {nt : Nat} {Q Q' : AExit → St → Prop} {s : St}
theorem WP.mono {c : Code} (h : WP P orc nt c Q s) (k : ∀ x s', Q x s' → Q' x s') : WP P orc nt c Q' s := by
 obtain ⟨x, s', h1, h2⟩ := h; exact ⟨x, s', h1, k _ _ h2⟩
theorem Fin.mono {f : FuncId} {args : List AV} {H : AH} {R R' : AV → AH → Prop} (h : Fin P orc f args H R) (k : ∀ v H', R v H' → R' v H') : Fin P orc f args H R' := by
 obtain ⟨x, s', h1, h2⟩ := h; exact ⟨x, s', h1, k _ _ h2⟩
theorem w_skip (h : Q .normal s) : WP P orc nt .skip Q s := ⟨_, _, ⟨0, by simp only [aexec]⟩, h⟩
theorem w_exit {id : Nat} (h : Q (.exit id) s) : WP P orc nt (.exit id) Q s := ⟨_, _, ⟨0, by simp only [aexec]⟩, h⟩
theorem w_ret (h : Q .ret s) : WP P orc nt .ret Q s := ⟨_, _, ⟨0, by simp only [aexec]⟩, h⟩
theorem w_seq {a b : Code} (h : WP P orc nt a (thenQ (WP P orc nt b Q) Q) s) : WP P orc nt (.seq a b) Q s := by
 obtain ⟨x, s', ⟨n, h1⟩, h2⟩ := h
 by_cases hx : x = .normal
 ·subst hx
  obtain ⟨y, s2, ⟨m, h3⟩, h4⟩ := (h2 : WP P orc nt b Q s')
  refine ⟨y, s2, ⟨max n m, ?_⟩, h4⟩
  simp only [aexec]
  rw [aexec_mono (acall_le (Nat.le_max_left n m)) (Nat.le_max_left n m) a _ _ h1]
  exact aexec_mono (acall_le (Nat.le_max_right n m)) (Nat.le_max_right n m) b _ _ h3
 ·refine ⟨x, s', ⟨n, ?_⟩, ?_⟩
  ·simp only [aexec, h1]; cases x <;> first | exact absurd rfl hx | rfl
  ·cases x <;> first | exact absurd rfl hx | exact h2
theorem w_cond {c : Operand} {a b : Code} {t : Bool} (he : ev s.e c = some (.bool t)) (ht : t = true → WP P orc nt a Q s) (hf : t = false → WP P orc nt b Q s) : WP P orc nt (.cond c a b) Q s := by
 cases t
 ·obtain ⟨x, s', ⟨n, h1⟩, h2⟩ := hf rfl; exact ⟨x, s', ⟨n, by simp only [aexec, he]; exact h1⟩, h2⟩
 ·obtain ⟨x, s', ⟨n, h1⟩, h2⟩ := ht rfl; exact ⟨x, s', ⟨n, by simp only [aexec, he]; exact h1⟩, h2⟩
theorem w_block {id : Nat} {b : Code} (h : WP P orc nt b (blockQ id Q) s) : WP P orc nt (.block id b) Q s := by
 obtain ⟨x, s', ⟨n, h1⟩, h2⟩ := h
 cases x with
 | normal => exact ⟨.normal, s', ⟨n, by simp only [aexec, h1]⟩, h2⟩
 | ret => exact ⟨.ret, s', ⟨n, by simp only [aexec, h1]⟩, h2⟩
 | goto l => exact ⟨.goto l, s', ⟨n, by simp only [aexec, h1]⟩, h2⟩
 | pan v => exact ⟨.pan v, s', ⟨n, by simp only [aexec, h1]⟩, h2⟩
 | exit j =>
  by_cases hj : j = id
  ·exact ⟨.normal, s', ⟨n, by simp only [aexec, h1, hj, if_true]⟩, h2.1 hj⟩
  ·exact ⟨.exit j, s', ⟨n, by simp only [aexec, h1, hj, if_false]⟩, h2.2 hj⟩
/-- A loop: what is left falls. -/
theorem w_loop {b : Code} (Inv : Nat → St → Prop) (m : Nat) (h0 : Inv m s)
  (hr : ∀ m s, Inv m s → WP P orc nt b (thenQ (fun s' => ∃ m', m' < m ∧ Inv m' s') Q) s) : WP P orc nt (.loop b) Q s := by
 suffices H : ∀ (m : Nat) (s : St), Inv m s → ∃ x s', (∃ n, iter (aexec P nt (acall P orc n) n b) n s = some (x, s')) ∧ Q x s' by
  obtain ⟨x, s', ⟨n, h1⟩, h2⟩ := H m s h0
  exact ⟨x, s', ⟨n, by simp only [aexec]; exact h1⟩, h2⟩
 intro m
 induction m using Nat.strongRecOn with
 | ind m ih =>
  intro s hi
  obtain ⟨x, s', ⟨n, h1⟩, h2⟩ := hr m s hi
  by_cases hx : x = .normal
  ·subst hx
   obtain ⟨m', hlt, hi'⟩ := (h2 : ∃ m', m' < m ∧ Inv m' s')
   obtain ⟨y, s2, ⟨k, h3⟩, h4⟩ := ih m' hlt s' hi'
   refine ⟨y, s2, ⟨max n k + 1, ?_⟩, h4⟩
   simp only [iter]
   rw [aexec_mono (acall_le (show n ≤ max n k + 1 by omega)) (show n ≤ max n k + 1 by omega) b _ _ h1]
   exact iter_mono (fun s r => aexec_mono (acall_le (show k ≤ max n k + 1 by omega)) (show k ≤ max n k + 1 by omega) b s r) k _ _ _ (by omega) h3
  ·refine ⟨x, s', ⟨n + 1, ?_⟩, by cases x <;> first | exact absurd rfl hx | exact h2⟩
   simp only [iter]
   rw [aexec_mono (acall_le (Nat.le_succ n)) (Nat.le_succ n) b _ _ h1]
   cases x <;> first | exact absurd rfl hx | rfl
theorem w_region {id : Nat} {ops : Array Oper} (h : WO P orc nt ops.toList ops.toList (Q .normal) s) : WP P orc nt (.region id ops false) Q s := by
 obtain ⟨s', ⟨n, h1⟩, h2⟩ := h
 exact ⟨.normal, s', ⟨n, by simp only [aexec, regionA, Bool.false_eq_true, if_false, h1]⟩, h2⟩
theorem w_draw {id : Nat} {ops : Array Oper} {ms ord : List Nat} (hm : masks ops.toList [] = ms) (ho : order P ops.toList ms ops.toList.length 0 = ord) (hp : planOk P ops.toList ms ord = true)
  (h : WD P orc nt ops.toList ms ord [] (Q .normal) s) : WP P orc nt (.region id ops true) Q s := by
 obtain ⟨s', ⟨n, h1⟩, h2⟩ := h
 subst hm; subst ho
 exact ⟨.normal, s', ⟨n, by simp only [aexec, regionA, if_true, hp, h1, Option.map_some]⟩, h2⟩

/-! operations in the text's order -/
variable {all l : List Oper} {K : St → Prop} {o : Oper} {e : Env} {h : AH} {ds : List ADef}
theorem o_nil (k : K s) : WO P orc nt all [] K s := ⟨s, ⟨0, by simp only [aops]⟩, k⟩
def readK (P : Program) (nt : Nat) (o : Oper) : Bool := (match kindOp P o.op with | .read => true | _ => false) && (match o.dst with | some d => Nat.blt d nt | none => true)
def allocK (P : Program) (nt : Nat) (o : Oper) : Bool := (match kindOp P o.op with | .alloc => true | _ => false) && (match o.dst with | some d => Nat.blt d nt | none => true)
def loudK (P : Program) (nt : Nat) (o : Oper) : Bool := (match kindOp P o.op with | .loud => true | _ => false) && (match o.dst with | some d => Nat.blt d nt | none => true)
def setO (e : Env) : Option Nat → AV → Env
 | none, _ => e
 | some d, v => e.set d v
theorem putE_of {o : Oper} (hd : (match o.dst with | some d => Nat.blt d nt | none => true) = true) (e : Env) (v : AV) : putE nt e o.dst v = some (setO e o.dst v) := by
 cases hq : o.dst with
 | none => rfl
 | some d => rw [hq] at hd; simp only at hd; simp only [putE, hd, setO]
theorem o_read {v : AV} (hs : readK P nt o = true) (hw : wantedA all e o = true) (hv : readOp P e h o.op = some v) (k : WO P orc nt all l K ⟨setO e o.dst v, h, ds⟩) : WO P orc nt all (o :: l) K ⟨e, h, ds⟩ := by
 obtain ⟨s', ⟨n, h1⟩, h2⟩ := k
 unfold readK at hs
 rw [Bool.and_eq_true] at hs
 refine ⟨s', ⟨n, ?_⟩, h2⟩
 have hk : kindOp P o.op = .read := by generalize kindOp P o.op = q at hs; cases q <;> first | rfl | cases hs.1
 simp only [aops, hw, if_true, opA, hk, hv, Option.map_some, putE_of hs.2]
 exact h1
theorem o_skip (hd : (match o.dst with | some d => Nat.blt d nt | none => true) = true) (hw : wantedA all e o = false) (k : WO P orc nt all l K ⟨setO e o.dst (.tup []), h, ds⟩) : WO P orc nt all (o :: l) K ⟨e, h, ds⟩ := by
 obtain ⟨s', ⟨n, h1⟩, h2⟩ := k
 refine ⟨s', ⟨n, ?_⟩, h2⟩
 simp only [aops, hw, Bool.false_eq_true, if_false, putE_of hd]
 exact h1
theorem o_alloc {x : AObj} {f : Nat → AV} (hs : allocK P nt o = true) (hw : wantedA all e o = true) (hv : allocOp P e o.op = some (x, f)) (k : WO P orc nt all l K ⟨setO e o.dst (f h.n), h.push x, ds⟩) : WO P orc nt all (o :: l) K ⟨e, h, ds⟩ := by
 obtain ⟨s', ⟨n, h1⟩, h2⟩ := k
 unfold allocK at hs
 rw [Bool.and_eq_true] at hs
 refine ⟨s', ⟨n, ?_⟩, h2⟩
 have hk : kindOp P o.op = .alloc := by generalize kindOp P o.op = q at hs; cases q <;> first | rfl | cases hs.1
 simp only [aops, hw, if_true, opA, hk, hv, Option.map_some, putE_of hs.2]
 exact h1
/-- What makes no call. -/
theorem o_loud {v : AV} {h' : AH} (hs : loudK P nt o = true) (hw : wantedA all e o = true) (hv : loudOp P noOrc e h o.op = some (.val v h')) (k : WO P orc nt all l K ⟨setO e o.dst v, h', ds⟩) : WO P orc nt all (o :: l) K ⟨e, h, ds⟩ := by
 obtain ⟨s', ⟨n, h1⟩, h2⟩ := k
 unfold loudK at hs
 rw [Bool.and_eq_true] at hs
 refine ⟨s', ⟨n, ?_⟩, h2⟩
 have hk : kindOp P o.op = .loud := by generalize kindOp P o.op = q at hs; cases q <;> first | rfl | cases hs.1
 have hv := loudOp_mono (call' := acall P orc n) (fun _ _ _ _ e => by cases e) hv
 simp only [aops, hw, if_true, opA, hk, hv, putE_of hs.2]
 exact h1
theorem o_call {g : FuncId} {first cap vs args : List AV} {c : Call} {f : Operand} {R : AV → AH → Prop} (ho : o.op = .call c) (hf : c.callee = .value f) (hs : loudK P nt o = true) (hw : wantedA all e o = true)
  (he : ev e f = some (.fn (.func g) first cap)) (hv : evs e c.args.toList = some vs) (ha : first ++ vs ++ cap = args)
  (hc : Fin P orc g args h R) (k : ∀ v h', R v h' → WO P orc nt all l K ⟨setO e o.dst v, h', ds⟩) : WO P orc nt all (o :: l) K ⟨e, h, ds⟩ := by
 obtain ⟨v, h', ⟨m, hc⟩, hr⟩ := hc
 obtain ⟨s', ⟨n, h1⟩, h2⟩ := k v h' hr
 unfold loudK at hs
 rw [Bool.and_eq_true] at hs
 refine ⟨s', ⟨max n m, ?_⟩, h2⟩
 have hk : kindOp P o.op = .loud := by generalize kindOp P o.op = q at hs; cases q <;> first | rfl | cases hs.1
 have hl : loudOp P (acall P orc (max n m)) e h o.op = some (.val v h') := by
  subst ha
  simp only [ho, loudOp, doCall, hf, doCallV, he, hv, acall_le (Nat.le_max_right n m) _ _ _ _ hc, ofOut]
 simp only [aops, hw, if_true, opA, hk, hl, putE_of hs.2]
 exact aops_mono (acall_le (Nat.le_max_left n m)) _ _ _ h1

/-! operations in an open order -/
variable {ms : List Nat} {ls : List Look} {il : List Nat} {i : Nat}
theorem d_nil (k : K s) : WD P orc nt all ms [] ls K s := ⟨s, ⟨0, by simp only [adraw]⟩, k⟩
theorem d_read {v : AV} (hi : all[i]? = some o) (hs : readK P nt o = true) (hw : wantedA all e o = true) (hv : readOp P (only e (operandTmps o.op)) h o.op = some v)
  (k : WD P orc nt all ms il (⟨i, only e (operandTmps o.op), o.op, v⟩ :: ls) K ⟨setO e o.dst v, h, ds⟩) : WD P orc nt all ms (i :: il) ls K ⟨e, h, ds⟩ := by
 obtain ⟨s', ⟨n, h1⟩, h2⟩ := k
 unfold readK at hs
 rw [Bool.and_eq_true] at hs
 refine ⟨s', ⟨n, ?_⟩, h2⟩
 have hk : kindOp P o.op = .read := by generalize kindOp P o.op = q at hs; cases q <;> first | rfl | cases hs.1
 simp only [adraw, hi, hw, if_true, hk, hv, putE_of hs.2]
 exact h1
theorem d_alloc {x : AObj} {f : Nat → AV} (hi : all[i]? = some o) (hs : allocK P nt o = true) (hw : wantedA all e o = true) (hv : allocOp P (only e (operandTmps o.op)) o.op = some (x, f))
  (hq : recheck P 0 (h.push x) ls = true) (k : WD P orc nt all ms il ls K ⟨setO e o.dst (f h.n), h.push x, ds⟩) : WD P orc nt all ms (i :: il) ls K ⟨e, h, ds⟩ := by
 obtain ⟨s', ⟨n, h1⟩, h2⟩ := k
 unfold allocK at hs
 rw [Bool.and_eq_true] at hs
 refine ⟨s', ⟨n, ?_⟩, h2⟩
 have hk : kindOp P o.op = .alloc := by generalize kindOp P o.op = q at hs; cases q <;> first | rfl | cases hs.1
 simp only [adraw, hi, hw, if_true, hk, hv, putE_of hs.2, hq]
 exact h1
theorem d_loud {v : AV} {h' : AH} (hi : all[i]? = some o) (hs : loudK P nt o = true) (hw : wantedA all e o = true) (hv : loudOp P noOrc (only e (operandTmps o.op)) h o.op = some (.val v h'))
  (hq : recheck P (ms.getD i 0) h' ls = true) (k : WD P orc nt all ms il ls K ⟨setO e o.dst v, h', ds⟩) : WD P orc nt all ms (i :: il) ls K ⟨e, h, ds⟩ := by
 obtain ⟨s', ⟨n, h1⟩, h2⟩ := k
 unfold loudK at hs
 rw [Bool.and_eq_true] at hs
 refine ⟨s', ⟨n, ?_⟩, h2⟩
 have hk : kindOp P o.op = .loud := by generalize kindOp P o.op = q at hs; cases q <;> first | rfl | cases hs.1
 have hv := loudOp_mono (call' := acall P orc n) (fun _ _ _ _ e => by cases e) hv
 simp only [adraw, hi, hw, if_true, hk, hv, putE_of hs.2, hq]
 exact h1
/-! calls -/
theorem fin_of {f : FuncId} {fn : Func} {c : Code} {args : List AV} {H : AH} {R : AV → AH → Prop} (hf : P.funcs[f]? = some fn) (hb : fn.body = some c) (hl : args.length ≤ fn.ntmps) (ho : orc f args H = none)
  (k : WP P orc fn.ntmps c (fun x s => (x = .normal ∨ x = .ret) ∧ s.d = [] ∧ ∃ v, resultA P fn.results.toList s = some v ∧ R v s.h) ⟨envOf 0 args .lf, H, []⟩) (hx : hasNext c = false := by kernel_rfl) : Fin P orc f args H R := by
 obtain ⟨x, s', ⟨n, h1⟩, hy, hd, v, hv, hr⟩ := k
 refine ⟨v, s'.h, ⟨n + 1, ?_⟩, hr⟩
 simp only [acall, ho, orElseA, abody, hf, hb, hl, hx, if_true, h1]
 rcases hy with rfl | rfl <;> simp only [hd, hv, Option.map_some]
end
end Go.VI
namespace Go.VI

theorem bleT {a b : Nat} (h : a ≤ b) : Nat.ble a b = true := by rw [Nat.ble_eq]; exact h
structure Wf (H : AH) : Prop where
 o : ∀ b, H.n ≤ b → H.o.get b = none
 f : ∀ f, H.n ≤ f → H.f.get f = none
 fam : ∀ b x f q, H.o.get b = some x → isRowFam x = some (f, q) → f < H.n
def famid (x : AObj) : Option Nat := (isRowFam x).map (·.1)
theorem Wf.empty : Wf AH.empty := ⟨fun _ _ => Tr.get_lf _, fun _ _ => Tr.get_lf _, fun _ _ _ _ h => by simp [AH.empty, Tr.get_lf] at h⟩

section
variable {H H' H'' : AH}
theorem Wf.lt (W : Wf H) {b : Nat} {x : AObj} (h : H.at b = some x) : b < H.n := by
 rw [at_spec] at h
 apply Classical.byContradiction; intro hn
 rw [W.o b (by omega)] at h; exact absurd h.1 (by simp)
theorem Wf.famlt (W : Wf H) {b f : Nat} {x : AObj} (h : H.at b = some x) (k : famid x = some f) : f < H.n := by
 rw [at_spec] at h
 unfold famid at k
 cases hx : isRowFam x with
 | none => rw [hx] at k; cases k
 | some fq => rw [hx] at k; injection k with k; exact W.fam b x f fq.2 h.1 (by rw [hx, ← k])

/-- What could be read can be read, and is as it was. -/
structure Ext (H H' : AH) : Prop where
 n : H.n ≤ H'.n
 wf : Wf H'
 keep : ∀ c x, H.at c = some x → H'.at c = some x
theorem Ext.refl (W : Wf H) : Ext H H := ⟨Nat.le_refl _, W, fun _ _ h => h⟩
theorem Ext.trans (h : Ext H H') (k : Ext H' H'') : Ext H H'' := ⟨Nat.le_trans h.n k.n, k.wf, fun c x e => k.keep c x (h.keep c x e)⟩
theorem Ext.push (W : Wf H) {x : AObj} (hf : isRowFam x = none) : Ext H (H.push x) where
 n := Nat.le_succ _
 wf := ⟨fun b h => by simp only [AH.push] at h ⊢; rw [Tr.get_set_ne _ _ (by omega)]; exact W.o b (by omega), fun b h => by simp only [AH.push] at h ⊢; exact W.f b (by omega), fun b y f q h k => by
  simp only [AH.push] at h ⊢
  by_cases hb : b = H.n
  ·subst hb; rw [Tr.get_set_eq] at h; injection h with h; subst h; rw [hf] at k; cases k
  ·rw [Tr.get_set_ne _ _ hb] at h; have := W.fam b y f q h k; omega⟩
 keep := fun c y h => by rw [at_push_ne (Nat.ne_of_lt (W.lt h))]; exact h
/-- A block of one's own is written. -/
theorem put_wf (W : Wf H) {b : Nat} {x : AObj} (hb : b < H.n) (hf : isRowFam x = none) : Wf (H.put b x) where
 o := fun c h => by simp only [AH.put] at h ⊢; rw [Tr.get_set_ne _ _ (by omega)]; exact W.o c h
 f := fun c h => W.f c h
 fam := fun c y f q h k => by
  simp only [AH.put] at h ⊢
  by_cases hc : c = b
  ·subst hc; rw [Tr.get_set_eq] at h; injection h with h; subst h; rw [hf] at k; cases k
  ·rw [Tr.get_set_ne _ _ hc] at h; exact W.fam c y f q h k
theorem put_eq {b : Nat} {x : AObj} (hf : isRowFam x = none) (hd : x ≠ .dead) : (H.put b x).at b = some x := at_of_none (by simp [AH.put, Tr.get_set]) hf hd
theorem put_ne {b c : Nat} {x : AObj} (h : c ≠ b) : (H.put b x).at c = H.at c := by
 unfold AH.at AH.put
 rw [Tr.get_set_ne _ _ h]

/-! reading -/
theorem read_mt {b off n : Nat} {cells : List AV} {el : TypeId} {op : Bool} {fam : Option (Nat × Nat)} (h : H.at b = some (.row cells el op fam)) (hl : off + n ≤ cells.length) : H.read (.mt b) off n = some ((cells.drop off).take n) := by
 simp only [AH.read, AH.cellsOf, h, bleT hl]
theorem read_im {cells : List AV} {off n : Nat} (hl : off + n ≤ cells.length) : H.read (.im cells) off n = some ((cells.drop off).take n) := by
 simp only [AH.read, AH.cellsOf, bleT hl]
theorem read_some {l : Loc} {off n : Nat} {cs : List AV} (h : H.read l off n = some cs) : ∃ cells, H.cellsOf l = some cells ∧ off + n ≤ cells.length ∧ cs = (cells.drop off).take n := by
 unfold AH.read at h
 split at h
 ·rename_i cells hc
  split at h
  ·rename_i hb; injection h with h; exact ⟨cells, hc, Nat.le_of_ble_eq_true hb, h.symm⟩
  ·cases h
 ·cases h
theorem read_of {l : Loc} {off n : Nat} {cells : List AV} (h : H.cellsOf l = some cells) (hl : off + n ≤ cells.length) : H.read l off n = some ((cells.drop off).take n) := by
 simp only [AH.read, h, bleT hl]
/-- A part of what was read. -/
theorem read_part {l : Loc} {off n o m : Nat} {cs : List AV} (h : H.read l off n = some cs) (ho : o + m ≤ n) : H.read l (off + o) m = some ((cs.drop o).take m) := by
 obtain ⟨cells, h1, h2, rfl⟩ := read_some h
 rw [read_of h1 (by omega)]
 congr 1
 rw [List.drop_take, List.drop_drop, List.take_take]
 congr 1; omega
theorem Ext.read (E : Ext H H') {l : Loc} {off n : Nat} {cs : List AV} (h : H.read l off n = some cs) : H'.read l off n = some cs := by
 cases l with
 | im cells => simpa only [AH.read, AH.cellsOf] using h
 | mt b =>
  unfold AH.read AH.cellsOf at h ⊢
  simp only at h ⊢
  cases ha : H.at b with
  | none => rw [ha] at h; cases h
  | some x => rw [E.keep _ _ ha]; rw [ha] at h; exact h

/-! ### Slices of one's own -/
/-- A slice of n elements of e cells each, of which nobody else knows: its cells, its block, the block's family. -/
def Own (H : AH) (el : TypeId) (e : Nat) (s : AV) (n : Nat) (cs : List AV) (b : Nat) (fm : Option Nat) : Prop :=
 ∃ off cap cells op fam, s = .sl (.mt b) off n cap ∧ H.at b = some (.row cells el op fam) ∧ fam.map (·.1) = fm ∧ off + n * e ≤ cells.length ∧ (cells.drop off).take (n * e) = cs ∧ n ≤ cap ∧ off + cap * e ≤ cells.length
variable {el : TypeId} {e : Nat} {s : AV} {n : Nat} {cs : List AV} {b : Nat} {fm : Option Nat}
theorem Own.len (O : Own H el e s n cs b fm) : cs.length = n * e := by
 obtain ⟨off, cap, cells, op, fam, rfl, h1, h2, h3, rfl, h5, h6⟩ := O; simp; omega
theorem Own.keep (O : Own H el e s n cs b fm) (h : ∀ x, H.at b = some x → famid x = fm → H'.at b = some x) : Own H' el e s n cs b fm := by
 obtain ⟨off, cap, cells, op, fam, h0, h1, h2, h3⟩ := O
 exact ⟨off, cap, cells, op, fam, h0, h _ h1 (by rw [← h2]; rfl), h2, h3⟩
theorem Own.ext (O : Own H el e s n cs b fm) (E : Ext H H') : Own H' el e s n cs b fm := O.keep fun x h _ => E.keep _ _ h
theorem Own.lt (O : Own H el e s n cs b fm) (W : Wf H) : b < H.n := by
 obtain ⟨off, cap, cells, op, fam, h0, h1, h2, h3⟩ := O; exact W.lt h1
theorem Own.famlt (O : Own H el e s n cs b fm) (W : Wf H) {f : Nat} (h : fm = some f) : f < H.n := by
 obtain ⟨off, cap, cells, op, fam, h0, h1, h2, h3⟩ := O; exact W.famlt h1 (by rw [← h, ← h2]; rfl)
theorem Own.cut (O : Own H el e s n cs b fm) {m : Nat} (hm : m ≤ n) : ∃ off cap, s = .sl (.mt b) off n cap ∧ n ≤ cap ∧ Own H el e (.sl (.mt b) off m cap) m (cs.take (m * e)) b fm := by
 obtain ⟨off, cap, cells, op, fam, h0, h1, h2, h3, h4, h5, h6⟩ := O
 have hme : m * e ≤ n * e := Nat.mul_le_mul_right e hm
 exact ⟨off, cap, h0, h5, off, cap, cells, op, fam, rfl, h1, h2, by omega, by rw [← h4, List.take_take, Nat.min_eq_left hme], by omega, h6⟩
theorem Own.read (O : Own H el e s n cs b fm) : ∃ off cap, s = .sl (.mt b) off n cap ∧ n ≤ cap ∧ H.read (.mt b) off (n * e) = some cs := by
 obtain ⟨off, cap, cells, op, fam, h0, h1, h2, h3, h4, h5, h6⟩ := O
 exact ⟨off, cap, h0, h5, by rw [read_mt h1 h3, h4]⟩

/-- the bound of what is kept when a block and its family are touched -/
def Keeps (H H' : AH) (b : Nat) (fm : Option Nat) : Prop := ∀ c x, H.at c = some x → c ≠ b → (famid x = none ∨ famid x ≠ fm) → H'.at c = some x

theorem fam_ne {x : AObj} {f q F q' : Nat} (hx : isRowFam x = some (F, q')) (h : famid x = none ∨ famid x ≠ some f) : F ≠ f := by
 unfold famid at h; rw [hx] at h
 rcases h with h | h
 ·cases h
 ·intro c; subst c; exact h rfl
theorem keeps_of {b f : Nat} {fam : Option (Nat × Nat)} {y : AObj} {z : Option Nat × Nat} (hfam : fam.map (·.1) = some f) (hb : H'.o.get = fun c => if c = b then some y else H.o.get c) (hff : ∀ g, g ≠ f → H'.f.get g = H.f.get g) : Keeps H H' b (some f) := by
 intro c x h hc hk
 rw [at_spec] at h ⊢
 obtain ⟨h1, h2⟩ := h
 refine ⟨by rw [hb]; simp only [hc, if_false]; exact h1, ?_⟩
 rw [okAt_fam] at h2 ⊢
 exact ⟨h2.1, fun F q hF => by rw [hff F (fam_ne (q := 0) hF hk)]; exact h2.2 F q hF⟩

theorem write_own (W : Wf H) {off : Nat} {cells vs : List AV} {op : Bool} {fam : Option (Nat × Nat)} (h : H.at b = some (.row cells el op fam)) (hl : off + vs.length ≤ cells.length) (ho : ones vs = true) :
  ∃ H', H.write (.mt b) off vs = some H' ∧ H'.n = H.n ∧ Wf H' ∧ H'.at b = some (.row (splice cells off vs) el op fam) ∧ Keeps H H' b (fam.map (·.1)) := by
 have hlt := W.lt h
 have hg := at_get h
 cases fam with
 | none =>
  refine ⟨H.put b (.row (splice cells off vs) el op none), by simp only [AH.write, h, bleT hl, ho, Bool.and_self], rfl, put_wf W hlt rfl, put_eq rfl (by simp), fun c x hx hc _ => by rw [put_ne hc]; exact hx⟩
 | some fp =>
  obtain ⟨f, p⟩ := fp
  refine ⟨⟨H.n, H.o.set b (.row (splice cells off vs) el op (some (f, p))), H.f.set f (some b, b)⟩, by simp only [AH.write, h, bleT hl, ho, Bool.and_self], rfl, ⟨fun c hc => ?_, fun g hg' => ?_, fun c x g q hx hq => ?_⟩, ?_, ?_⟩
  ·simp only at hc ⊢; rw [Tr.get_set_ne _ _ (by omega)]; exact W.o c hc
  ·have := W.fam b _ f p hg rfl
   simp only at hg' ⊢; rw [Tr.get_set_ne _ _ (by omega)]; exact W.f g hg'
  ·simp only at hx ⊢
   by_cases hc : c = b
   ·subst hc; rw [Tr.get_set_eq] at hx; injection hx with hx; subst hx
    exact W.fam c _ g q hg (by simpa [isRowFam] using hq)
   ·rw [Tr.get_set_ne _ _ hc] at hx; exact W.fam c x g q hx hq
  ·rw [at_spec]; exact ⟨by simp only [Tr.get_set_eq], by simp only [okAt, Tr.get_set_eq, decide_true]⟩
  ·exact keeps_of (fam := some (f, p)) (z := (none, 0)) rfl (by funext c; rw [Tr.get_set]) (fun g hg' => by simp only; rw [Tr.get_set_ne _ _ hg'])

theorem splice_take {cells vs : List AV} {off k : Nat} (h : off + vs.length ≤ cells.length) (hk : off = k) : (splice cells off vs).take (k + vs.length) = cells.take off ++ vs := by
 subst hk
 unfold splice
 rw [List.take_append_of_le_length (by simp; omega), List.take_of_length_le (by simp; omega)]
theorem splice_win {cells vs cs : List AV} {off m : Nat} (h : off + m + vs.length ≤ cells.length) (hc : (cells.drop off).take m = cs) : ((splice cells (off + m) vs).drop off).take (m + vs.length) = cs ++ vs := by
 subst hc
 have e : ((splice cells (off + m) vs).drop off).take (m + vs.length) = ((splice cells (off + m) vs).take (off + m + vs.length)).drop off := by
  rw [List.drop_take]; congr 1; omega
 rw [e, splice_take h rfl, List.drop_append_of_le_length (by simp; omega), List.drop_take]
 congr 2; omega

/-- append onto a slice of one's own -/
theorem append_own (W : Wf H) (O : Own H el e s n cs b fm) {by_ k : Nat} {new : List AV} (he : 1 ≤ e) (hroom : room (n + k) by_ = true) (hnew : new.length = k * e) (ho : ones new = true) :
  ∃ s' H' b' fm', appendA H el e by_ s k new = some (s', H') ∧ Own H' el e s' (n + k) (cs ++ new) b' fm' ∧ Wf H' ∧ H.n ≤ H'.n ∧ H'.n ≤ H.n + 1 ∧ (b' = b ∨ b' = H.n) ∧ (fm' = none ∨ fm' = fm ∨ fm' = some H.n) ∧ Keeps H H' b fm := by
 obtain ⟨off, cap, cells, op, fam, rfl, h1, h2, h3, h4, h5, h6⟩ := O
 have hlt := W.lt h1
 have hg := at_get h1
 have hmul : (n + k) * e = n * e + k * e := Nat.add_mul _ _ _
 by_cases hk : k = 0
 ·subst hk
  have hn : new = [] := List.eq_nil_of_length_eq_zero (by omega)
  subst hn
  refine ⟨.sl (.mt b) off n cap, H, b, fm, ?_, ⟨off, cap, cells, op, fam, rfl, h1, h2, by simpa using h3, by simpa using h4, by simpa using h5, h6⟩, W, Nat.le_refl _, Nat.le_succ _, .inl rfl, .inr (.inl rfl), fun c x h _ _ => h⟩
  simp only [appendA, appendMt, h1, Nat.add_zero, bleT h5, Nat.beq_refl]
 ·have hk0 : Nat.beq k 0 = false := by cases k with | zero => exact absurd rfl hk | succ _ => rfl
  by_cases hc : n + k ≤ cap
  ·-- in place
   have hce : (n + k) * e ≤ cap * e := Nat.mul_le_mul_right e hc
   obtain ⟨H', w1, w2, w3, w4, w5⟩ := write_own W h1 (off := off + n * e) (vs := new) (by omega) ho
   refine ⟨.sl (.mt b) off (n + k) cap, H', b, fm, ?_, ⟨off, cap, splice cells (off + n * e) new, op, fam, rfl, w4, h2, ?_, ?_, hc, ?_⟩, w3, by omega, by omega, .inl rfl, .inr (.inl rfl), h2 ▸ w5⟩
   ·simp only [appendA, appendMt, h1, bleT hc, hk0, w1, Option.map_some]
   ·rw [splice_length (by omega)]; omega
   ·rw [hmul, ← hnew, splice_win (by omega) h4]
   ·rw [splice_length (by omega)]; exact h6
  ·have hc' : Nat.ble (n + k) cap = false := by
    cases hq : Nat.ble (n + k) cap with
    | false => rfl
    | true => exact absurd (Nat.le_of_ble_eq_true hq) hc
   have happ : appendA H el e by_ (.sl (.mt b) off n cap) k new = some (growRow H el e (n + k) b cells el op fam off n cap (cs ++ new)) := by
    simp only [appendA, appendMt, h1, hc', hroom, bleT h3, Nat.beq_refl, Bool.or_true, Bool.and_self, h4]
   have hcl : cs.length = n * e := by rw [← h4]; simp; omega
   have hall : (cs ++ new).length = (n + k) * e := by simp [hcl, hnew, hmul]
   have hown : ∀ (H' : AH) (opn : Bool) (fam' : Option (Nat × Nat)), H'.at H.n = some (.row (cs ++ new) el opn fam') → Own H' el e (freshSl H.n (n + k) (n + k)) (n + k) (cs ++ new) H.n (fam'.map (·.1)) := fun H' opn fam' hh =>
    ⟨0, n + k, cs ++ new, opn, fam', rfl, hh, rfl, by omega, by rw [List.drop_zero, List.take_of_length_le (by omega)], Nat.le_refl _, by omega⟩
   rw [happ]
   unfold growRow
   split
   ·-- a row of its own
    refine ⟨_, _, H.n, none, rfl, hown _ true none (at_push_eq rfl (by simp)), (Ext.push W rfl).wf, Nat.le_succ _, Nat.le_refl _, .inr rfl, .inl rfl, fun c x h _ _ => (Ext.push W rfl).keep c x h⟩
   ·-- at its end: a family
    have key : ∀ (f' p : Nat) (fs : Tr (Option Nat × Nat)), f' ≤ H.n → (∀ g, H.n ≤ g → fs.get g = none ∨ g = f') → (∀ g, fm ≠ some g → g ≠ f' → fs.get g = H.f.get g) → (fm = some f' ∨ f' = H.n) →
      ∃ fm', Own (growFam H el b cells el op p off f' (cs ++ new) fs) el e (freshSl H.n (n + k) (n + k)) (n + k) (cs ++ new) H.n fm' ∧ Wf (growFam H el b cells el op p off f' (cs ++ new) fs) ∧ (fm' = none ∨ fm' = fm ∨ fm' = some H.n) ∧ Keeps H (growFam H el b cells el op p off f' (cs ++ new) fs) b fm := by
     intro f' p fs hf' hwf hff hfm
     refine ⟨some f', hown _ true (some (f', p + off)) ?_, ⟨fun c hcn => ?_, fun g hgn => ?_, fun c x g q hx hq => ?_⟩, ?_, fun c x h hcb hcf => ?_⟩
     ·rw [at_spec]; exact ⟨by simp only [growFam, Tr.get_set_eq], by simp only [growFam, okAt, Tr.get_set_eq]⟩
     ·simp only [growFam] at hcn ⊢; rw [Tr.get_set_ne _ _ (by omega), Tr.get_set_ne _ _ (by omega)]; exact W.o c (by omega)
     ·simp only [growFam] at hgn ⊢; rw [Tr.get_set_ne _ _ (by omega)]
      rcases hwf g (by omega) with h | h
      ·exact h
      ·omega
     ·simp only [growFam] at hx ⊢
      by_cases c1 : c = H.n
      ·subst c1; rw [Tr.get_set_eq] at hx; injection hx with hx; subst hx; simp only [isRowFam, Option.some.injEq, Prod.mk.injEq] at hq; omega
      ·rw [Tr.get_set_ne _ _ c1] at hx
       by_cases c2 : c = b
       ·subst c2; rw [Tr.get_set_eq] at hx; injection hx with hx; subst hx; simp only [isRowFam, Option.some.injEq, Prod.mk.injEq] at hq; omega
       ·rw [Tr.get_set_ne _ _ c2] at hx; have := W.fam c x g q hx hq; omega
     ·rcases hfm with h | h
      ·exact .inr (.inl h.symm)
      ·exact .inr (.inr (by rw [h]))
     ·have hcn := W.lt h
      rw [at_spec] at h ⊢
      obtain ⟨k1, k2⟩ := h
      refine ⟨by simp only [growFam]; rw [Tr.get_set_ne _ _ (by omega), Tr.get_set_ne _ _ hcb]; exact k1, ?_⟩
      rw [okAt_fam] at k2 ⊢
      refine ⟨k2.1, fun F q hF => ?_⟩
      have hFn := W.fam c x F q k1 hF
      have hne : fm ≠ some F := fun c => by
       rw [c] at hcf; exact fam_ne (q := 0) hF hcf rfl
      have hne' : F ≠ f' := by
       rcases hfm with h | h
       ·rw [h] at hne; exact fun c => hne (by rw [c])
       ·omega
      simp only [growFam]
      rw [Tr.get_set_ne _ _ hne', hff F hne hne']
      exact k2.2 F q hF
    have done : ∀ (f' p : Nat) (fs : Tr (Option Nat × Nat)), f' ≤ H.n → (∀ g, H.n ≤ g → fs.get g = none ∨ g = f') → (∀ g, fm ≠ some g → g ≠ f' → fs.get g = H.f.get g) → (fm = some f' ∨ f' = H.n) → growEnd H el b cells el op fam off (cs ++ new) = growFam H el b cells el op p off f' (cs ++ new) fs →
      ∃ s' H' b' fm', some (freshSl H.n (n + k) (n + k), growEnd H el b cells el op fam off (cs ++ new)) = some (s', H') ∧ Own H' el e s' (n + k) (cs ++ new) b' fm' ∧ Wf H' ∧ H.n ≤ H'.n ∧ H'.n ≤ H.n + 1 ∧ (b' = b ∨ b' = H.n) ∧ (fm' = none ∨ fm' = fm ∨ fm' = some H.n) ∧ Keeps H H' b fm := by
     intro f' p fs a1 a2 a3 a4 a5
     obtain ⟨fm', q1, q2, q3, q4⟩ := key f' p fs a1 a2 a3 a4
     rw [a5]
     exact ⟨_, _, H.n, fm', rfl, q1, q2, Nat.le_succ _, Nat.le_refl _, .inr rfl, q3, q4⟩
    cases fam with
    | none => exact done H.n 0 H.f (Nat.le_refl _) (fun g hg' => .inl (W.f g hg')) (fun g _ _ => rfl) (.inr rfl) rfl
    | some fp =>
     obtain ⟨f, p⟩ := fp
     have hfn := W.fam b _ f p hg rfl
     have hfm : fm = some f := h2.symm
     cases hq : H.f.get f with
     | none => exact done H.n p (H.f.set f (some H.n, H.n)) (Nat.le_refl _) (fun g hg' => .inl (by rw [Tr.get_set_ne _ _ (by omega)]; exact W.f g hg')) (fun g hg' _ => Tr.get_set_ne _ _ (fun c => hg' (by rw [hfm, c]))) (.inr rfl) (by simp only [growEnd, hq])
     | some z =>
      obtain ⟨o, tip⟩ := z
      cases o with
      | some j => exact done H.n p (H.f.set f (some H.n, H.n)) (Nat.le_refl _) (fun g hg' => .inl (by rw [Tr.get_set_ne _ _ (by omega)]; exact W.f g hg')) (fun g hg' _ => Tr.get_set_ne _ _ (fun c => hg' (by rw [hfm, c]))) (.inr rfl) (by simp only [growEnd, hq])
      | none =>
       cases ht : Nat.beq tip b with
       | true => exact done f p H.f (by omega) (fun g hg' => .inl (W.f g hg')) (fun g _ _ => rfl) (.inl hfm) (by simp only [growEnd, hq, ht])
       | false => exact done H.n p (H.f.set f (some H.n, H.n)) (Nat.le_refl _) (fun g hg' => .inl (by rw [Tr.get_set_ne _ _ (by omega)]; exact W.f g hg')) (fun g hg' _ => Tr.get_set_ne _ _ (fun c => hg' (by rw [hfm, c]))) (.inr rfl) (by simp only [growEnd, hq, ht])
   ·-- elsewhere than at its end
    refine ⟨_, _, H.n, none, rfl, hown _ true none ?_, ?_, Nat.le_succ _, Nat.le_refl _, .inr rfl, .inl rfl, fun c x h hcb hcf => ?_⟩
    ·rw [at_spec]; exact ⟨by simp only [growIn, Tr.get_set_eq], by simp only [okAt]⟩
    ·refine ⟨fun c hcn => ?_, fun g hgn => ?_, fun c x g q hx hq => ?_⟩
     ·simp only [growIn] at hcn ⊢; rw [Tr.get_set_ne _ _ (by omega), Tr.get_set_ne _ _ (by omega)]; exact W.o c (by omega)
     ·simp only [growIn] at hgn ⊢
      cases fam with
      | none => exact W.f g (by omega)
      | some fp => have := W.fam b _ fp.1 fp.2 hg rfl; simp only; rw [Tr.get_set_ne _ _ (by omega)]; exact W.f g (by omega)
     ·simp only [growIn] at hx ⊢
      by_cases c1 : c = H.n
      ·subst c1; rw [Tr.get_set_eq] at hx; injection hx with hx; subst hx; cases hq
      ·rw [Tr.get_set_ne _ _ c1] at hx
       by_cases c2 : c = b
       ·subst c2; rw [Tr.get_set_eq] at hx; injection hx with hx; subst hx; cases hq
       ·rw [Tr.get_set_ne _ _ c2] at hx; have := W.fam c x g q hx hq; omega
    ·have hcn := W.lt h
     rw [at_spec] at h ⊢
     obtain ⟨k1, k2⟩ := h
     refine ⟨by simp only [growIn]; rw [Tr.get_set_ne _ _ (by omega), Tr.get_set_ne _ _ hcb]; exact k1, ?_⟩
     rw [okAt_fam] at k2 ⊢
     refine ⟨k2.1, fun F q hF => ?_⟩
     simp only [growIn]
     cases fam with
     | none => exact k2.2 F q hF
     | some fp =>
      have hne : F ≠ fp.1 := fam_ne (q := 0) hF (by rw [← h2] at hcf; exact hcf)
      simp only; rw [Tr.get_set_ne _ _ hne]; exact k2.2 F q hF
end
end Go.VI
namespace Go.VI

section
variable {P : Program} {e : Env} {h : AH} {x y : Operand} {t : TypeId} {a b : Int} {v : AV} {l : Loc} {o n c : Nat} {k : IntKind}

theorem wrapA_in (hl : -9223372036854775808 ≤ a) (hu : a < 9223372036854775808) : wrapA .i64 a = a := by rw [wrapA_eq, wrap_in a hl hu]
theorem r_move (hx : ev e x = some v) : readOp P e h (.move x) = some v := hx
theorem r_assign (hx : ev e x = some v) : readOp P e h (.assign x) = some v := hx
theorem r_pick {c p q : Operand} {t : Bool} (hc : ev e c = some (.bool t)) (h1 : t = true → ev e p = some v) (h2 : t = false → ev e q = some v) : readOp P e h (.pick c p q) = some v := by
 cases t
 ·simp only [readOp, doPick, hc]; exact h2 rfl
 ·simp only [readOp, doPick, hc]; exact h1 rfl
theorem r_bin {op : BinOp} {t' : TypeId} {w : AV} (hx : ev e x = some (.int k a)) (hy : ev e y = some (.int k b)) (hs : op ≠ .shl ∧ op ≠ .shr) (hw : intOp op k a b = some w) : readOp P e h (.binOp op t x y t') = some w := by
 simp only [readOp, doBin, hx, hy]
 unfold binA
 cases op <;> first | exact absurd rfl hs.1 | exact absurd rfl hs.2 | (simp only [if_true]; exact hw)
theorem r_add {t' : TypeId} (hx : ev e x = some (.int .i64 a)) (hy : ev e y = some (.int .i64 b)) (hl : -9223372036854775808 ≤ a + b) (hu : a + b < 9223372036854775808) : readOp P e h (.binOp .add t x y t') = some (.int .i64 (a + b)) :=
 r_bin hx hy (by simp) (by simp only [intOp, wrapA_in hl hu])
theorem r_sub {t' : TypeId} (hx : ev e x = some (.int .i64 a)) (hy : ev e y = some (.int .i64 b)) (hl : -9223372036854775808 ≤ a - b) (hu : a - b < 9223372036854775808) : readOp P e h (.binOp .sub t x y t') = some (.int .i64 (a - b)) :=
 r_bin hx hy (by simp) (by simp only [intOp, wrapA_in hl hu])
theorem r_lt {t' : TypeId} (hx : ev e x = some (.int k a)) (hy : ev e y = some (.int k b)) : readOp P e h (.binOp .lss t x y t') = some (.bool (decide (a < b))) :=
 r_bin hx hy (by simp) (by simp only [intOp, ltI_eq])
theorem r_gt {t' : TypeId} (hx : ev e x = some (.int k a)) (hy : ev e y = some (.int k b)) : readOp P e h (.binOp .gtr t x y t') = some (.bool (decide (b < a))) :=
 r_bin hx hy (by simp) (by simp only [intOp, ltI_eq])
theorem not_lt_dec (a b : Int) : (!decide (a < b)) = decide (b ≤ a) := by
 by_cases hh : a < b
 ·rw [decide_eq_true hh, decide_eq_false (by omega)]; rfl
 ·rw [decide_eq_false hh, decide_eq_true (by omega)]; rfl
theorem r_le {t' : TypeId} (hx : ev e x = some (.int k a)) (hy : ev e y = some (.int k b)) : readOp P e h (.binOp .leq t x y t') = some (.bool (decide (a ≤ b))) :=
 r_bin hx hy (by simp) (by simp only [intOp, ltI_eq, not_lt_dec])
theorem r_ge {t' : TypeId} (hx : ev e x = some (.int k a)) (hy : ev e y = some (.int k b)) : readOp P e h (.binOp .geq t x y t') = some (.bool (decide (b ≤ a))) :=
 r_bin hx hy (by simp) (by simp only [intOp, ltI_eq, not_lt_dec])
theorem r_eq {t' : TypeId} (hx : ev e x = some (.int k a)) (hy : ev e y = some (.int k b)) : readOp P e h (.binOp .eql t x y t') = some (.bool (decide (a = b))) :=
 r_bin hx hy (by simp) (by simp only [intOp, eqI_eq])
theorem r_ne {t' : TypeId} (hx : ev e x = some (.int k a)) (hy : ev e y = some (.int k b)) : readOp P e h (.binOp .neq t x y t') = some (.bool (decide (a ≠ b))) :=
 r_bin hx hy (by simp) (by simp only [intOp, eqI_eq, decide_not])
theorem r_not {b : Bool} (hx : ev e x = some (.bool b)) : readOp P e h (.unOp .not t x) = some (.bool (!b)) := by
 simp only [readOp, doUn, hx, unA]
/-- how long a slice is -/
def lenOf : AV → Option Nat
 | .nils => some 0
 | .sl _ _ n _ => some n
 | _ => none
theorem r_len {el : TypeId} (ht : P.underlying t = some (.slice el)) (hx : ev e x = some v) (hl : lenOf v = some n) : readOp P e h (.call ⟨.builtin .len, #[x], #[t]⟩) = some (.int .i64 (n : Int)) := by
 simp only [readOp, readCall, readBuiltin, doLen, ht, hx]
 unfold lenOf at hl
 split at hl <;> first | (injection hl with hl; subst hl; rfl) | cases hl
theorem r_lenStr {s : List UInt8} (ht : P.underlying t = some .string) (hx : ev e x = some (.str s)) : readOp P e h (.call ⟨.builtin .len, #[x], #[t]⟩) = some (.int .i64 (s.length : Int)) := by
 simp only [readOp, readCall, readBuiltin, doLen, ht, hx, lenBy]
/-- where a field lies -/
def fieldOff (P : Program) (s : TypeId) (f : Nat) : Option Nat :=
 match P.underlying s with
 | some (.struct fields) => match fields[f]? with
  | some fd => match csz P fd.type with
   | some (_ + 1) => some fd.offset
   | _ => none
  | none => none
 | _ => none
theorem r_fieldAddr {f off : Nat} (ht : fieldOff P t f = some off) (hx : ev e x = some (.ptr l o)) : readOp P e h (.fieldAddr t x f) = some (.ptr l (o + off)) := by
 simp only [readOp, doFieldAddr, hx]
 unfold fieldOff at ht
 split at ht
 ·rename_i hu
  split at ht
  ·rename_i hf
   split at ht
   ·rename_i hc; injection ht with ht; subst ht; simp only [hu, hf, hc]
   ·cases ht
  ·cases ht
 ·cases ht
theorem r_load1 (ha : isAggB P t = some false) (hx : ev e x = some (.ptr l o)) (hr : h.read l o 1 = some [v]) : readOp P e h (.load t x) = some v := by
 simp only [readOp, doLoad, hx, ha, hr]
theorem r_loadN {s : Nat} {cs : List AV} (ha : isAggB P t = some true) (hs : csz P t = some s) (hx : ev e x = some (.ptr l o)) (hr : h.read l o s = some cs) : readOp P e h (.load t x) = some (.agg cs) := by
 simp only [readOp, doLoad, hx, ha, hs, hr, Option.map_some]
theorem r_indexAddr {el : TypeId} {s j : Nat} (ht : P.underlying t = some (.slice el)) (hs : csz P el = some s) (hx : ev e x = some (.sl l o n c)) (hy : ev e y = some (.int k (j : Int))) (hj : j < n) : readOp P e h (.indexAddr t x y) = some (.ptr l (o + j * s)) := by
 have : Nat.blt j n = true := by rw [Nat.blt_eq]; exact hj
 simp only [readOp, doIndexAddr, ht, hx, hy, idxAddr, hs]
 show (match some s, inB (Int.ofNat j) n with | some s, some k => some (AV.ptr l (o + k * s)) | _, _ => none) = _
 simp only [inB, this]
/-- s[:n] within the capacity -/
theorem r_sliceTo {el : TypeId} {s j : Nat} {m : Operand} (ht : P.underlying t = some (.slice el)) (hs : csz P el = some (s + 1)) (hx : ev e x = some (.sl l o n c)) (hy : ev e m = some (.int k (j : Int))) (hj : j ≤ c) (hc : cutOk h el l = true) : readOp P e h (.slice t x none (some m) none) = some (.sl l o j c) := by
 have e1 : bound (.int k (Int.ofNat j)) c = some j := by simp only [bound, bleT hj]
 have e2 : Nat.ble 0 c = true := bleT (Nat.zero_le _)
 simp only [readOp, doSlice, ht, hx, hy, optEv, Option.map_some, sliceBy, hs, sliceSl, optBound, hc, Option.isSome_none, Bool.false_and, highOf]
 show (match bound (AV.int k (Int.ofNat j)) c with | none => none | some b => match Nat.ble 0 c with | true => some (AV.sl l (o + 0 * (s + 1)) (b - 0) (c - 0)) | false => none) = _
 simp only [e1, e2, Nat.zero_mul, Nat.add_zero, Nat.sub_zero]
theorem r_extract {i : Nat} {vs : List AV} (hx : ev e x = some (.tup vs)) (hi : vs[i]? = some v) : readOp P e h (.extract x i) = some v := by
 simp only [readOp, doExtract, hx, hi]

/-! what makes memory -/
theorem a_box (hx : ev e x = some v) : allocOp P e (.box t x) = some (.row v.cells t false none, fun b => .ptr (.mt b) 0) := by
 simp only [allocOp, doBox, hx, mkRow]
theorem a_alloc {z : AV} (hz : zeroOf P t = some z) : allocOp P e (.alloc t) = some (.row z.cells t false none, fun b => .ptr (.mt b) 0) := by
 simp only [allocOp, doAlloc, hz, mkRow]
theorem a_build1 {el : TypeId} {s : Nat} {z : AV} {x : Operand} (ht : P.underlying t = some (.slice el)) (hs : csz P el = some (s + 1)) (hz : zeroOf P el = some z) (hzl : z.cells.length = s + 1) (hx : ev e x = some v) (hv : v.cells.length = s + 1) (hb : s < 16777216) :
  allocOp P e (.buildSlice t 1 #[(0, x)]) = some (.row v.cells el false none, fun b => freshSl b 1 1) := by
 have h1 : Nat.ble (1 * (s + 1)) 16777216 = true := bleT (by omega)
 have h2 : Nat.beq z.cells.length (s + 1) = true := by rw [hzl]; exact Nat.beq_refl _
 have h3 : reps 1 z.cells = z.cells := by simp [reps]
 have h4 : splice z.cells 0 v.cells = v.cells := by unfold splice; rw [List.take_zero, List.nil_append, List.drop_of_length_le (by omega), List.append_nil]
 simp only [allocOp, doBuildSlice, ht, evParts, hx, buildSl1, hs, hz, buildSl, h1, h2, h3, fillA, hv, hzl, Nat.beq_refl, Nat.zero_mul, Nat.zero_add, Nat.le_refl, and_self, if_true, h4]
end

section
variable {P : Program} {orc : CallF} {nt : Nat} {all l : List Oper} {K : St → Prop} {o : Oper} {e : Env} {h : AH} {ds : List ADef}
/-- A new block. -/
theorem o_new {x : AObj} {f : Nat → AV} (W : Wf h) (hs : allocK P nt o = true) (hw : wantedA all e o = true) (hv : allocOp P e o.op = some (x, f)) (hf : isRowFam x = none) (hd : x ≠ .dead)
  (k : ∀ H', H'.n = h.n + 1 → Wf H' → Ext h H' → H'.at h.n = some x → WO P orc nt all l K ⟨setO e o.dst (f h.n), H', ds⟩) : WO P orc nt all (o :: l) K ⟨e, h, ds⟩ :=
 o_alloc hs hw hv (k _ rfl (Ext.push W hf).wf (Ext.push W hf) (at_push_eq hf hd))
/-- A store. -/
theorem o_store {x y : Operand} {t : TypeId} {b off : Nat} {v : AV} {cells : List AV} {el : TypeId} {op : Bool} {fam : Option (Nat × Nat)} (W : Wf h) (ho : o.op = .store t x y) (hs : loudK P nt o = true) (hw : wantedA all e o = true)
  (hx : ev e x = some (.ptr (.mt b) off)) (hy : ev e y = some v) (hc : csz P t = some v.cells.length) (ha : h.at b = some (.row cells el op fam)) (hl : off + v.cells.length ≤ cells.length) (h1 : ones v.cells = true)
  (k : ∀ H', H'.n = h.n → Wf H' → H'.at b = some (.row (splice cells off v.cells) el op fam) → Keeps h H' b (fam.map (·.1)) → WO P orc nt all l K ⟨setO e o.dst (.tup []), H', ds⟩) : WO P orc nt all (o :: l) K ⟨e, h, ds⟩ := by
 obtain ⟨H', w1, w2, w3, w4, w5⟩ := write_own W ha hl h1
 refine o_loud hs hw ?_ (k H' w2 w3 w4 w5)
 simp only [ho, loudOp, doStore, hx, hy, hc, Nat.beq_refl, w1, unit]
/-- An append onto a slice of one's own. -/
theorem o_append {x y : Operand} {t u : TypeId} {d : TypeDesc} {el : TypeId} {e' by_ n m : Nat} {z s v : AV} {cs new : List AV} {b : Nat} {fm : Option Nat} (W : Wf h) (ho : o.op = .call ⟨.builtin .append, #[x, y], #[t, u]⟩) (hs : loudK P nt o = true) (hw : wantedA all e o = true)
  (ht : P.underlying t = some (.slice el)) (hu : P.underlying u = some d) (hd : isIntT d = false) (hc : csz P el = some (e' + 1)) (hb : byt P el = some by_) (hz : zeroOf P el = some z) (hzl : z.cells.length = e' + 1)
  (hx : ev e x = some s) (hy : ev e y = some v) (O : Own h el (e' + 1) s n cs b fm) (hsrc : srcCells h (e' + 1) v = some (m, new)) (hnl : new.length = m * (e' + 1)) (h1 : ones new = true) (hr : (n + m) * (by_ + 1) ≤ 70368744177664)
  (k : ∀ s' H' b' fm', Own H' el (e' + 1) s' (n + m) (cs ++ new) b' fm' → Wf H' → h.n ≤ H'.n → H'.n ≤ h.n + 1 → (b' = b ∨ b' = h.n) → (fm' = none ∨ fm' = fm ∨ fm' = some h.n) → Keeps h H' b fm → WO P orc nt all l K ⟨setO e o.dst s', H', ds⟩) : WO P orc nt all (o :: l) K ⟨e, h, ds⟩ := by
 obtain ⟨s', H', b', fm', a1, a2, a3, a4, a5, a6, a7, a8⟩ := append_own (by_ := by_) W O (Nat.le_add_left 1 e') (room_of hr) hnl h1
 refine o_loud hs hw ?_ (k s' H' b' fm' a2 a3 a4 a5 a6 a7 a8)
 have h3 : Nat.beq z.cells.length (e' + 1) = true := by rw [hzl]; exact Nat.beq_refl _
 simp only [ho, loudOp, doCall, doBuiltin, doAppend, ht, hu, hx, hy, hd, appendBy, hc, hb, hz, h3, hsrc, h1, a1, valH]
end
end Go.VI
namespace Go.VI
section
variable {H0 H H' : AH} {b b' c : Nat} {fm fm' fc : Option Nat}
/-- Nothing of what was there at the beginning. -/
def New (H0 : AH) (b : Nat) (fm : Option Nat) : Prop := H0.n ≤ b ∧ ∀ f, fm = some f → H0.n ≤ f
def Apart (b : Nat) (fm : Option Nat) (c : Nat) (fc : Option Nat) : Prop := b ≠ c ∧ (fm = none ∨ fm ≠ fc)
theorem Apart.symm (h : Apart b fm c fc) : Apart c fc b fm := ⟨fun e => h.1 e.symm, by
 rcases h.2 with h2 | h2
 ·cases fc with
  | none => exact .inl rfl
  | some f => exact .inr (by rw [h2]; simp)
 ·exact .inr (fun e => h2 e.symm)⟩
theorem Ext.keeps (W0 : Wf H0) (E : Ext H0 H) (N : New H0 b fm) (K : Keeps H H' b fm) (hn : H.n ≤ H'.n) (W' : Wf H') : Ext H0 H' where
 n := Nat.le_trans E.n hn
 wf := W'
 keep := fun c x h => K c x (E.keep c x h) (by have := W0.lt h; have := N.1; omega) (by
  cases hf : famid x with
  | none => exact .inl rfl
  | some f =>
   refine .inr fun e => ?_
   have h1 := W0.famlt h hf
   have h2 := N.2 f e.symm
   omega)
theorem New.step (N : New H0 b fm) (hn : H0.n ≤ H.n) (h1 : b' = b ∨ b' = H.n) (h2 : fm' = none ∨ fm' = fm ∨ fm' = some H.n) : New H0 b' fm' := by
 refine ⟨?_, fun f hf => ?_⟩
 ·have := N.1; rcases h1 with rfl | rfl <;> omega
 ·rcases h2 with h | h | h
  ·rw [h] at hf; cases hf
  ·exact N.2 f (h ▸ hf)
  ·rw [h] at hf; injection hf with hf; omega
theorem Apart.step (A : Apart b fm c fc) (hc : c < H.n) (hfc : ∀ f, fc = some f → f < H.n) (h1 : b' = b ∨ b' = H.n) (h2 : fm' = none ∨ fm' = fm ∨ fm' = some H.n) : Apart b' fm' c fc := by
 refine ⟨?_, ?_⟩
 ·rcases h1 with rfl | rfl
  ·exact A.1
  ·omega
 ·rcases h2 with h | h | h
  ·exact .inl h
  ·rw [h]; exact A.2
  ·refine .inr fun e => ?_
   have := hfc H.n (by rw [← e, h]); omega
variable {el : TypeId} {e n : Nat} {s : AV} {cs : List AV}
theorem Own.other (O : Own H el e s n cs c fc) (K : Keeps H H' b fm) (A : Apart c fc b fm) : Own H' el e s n cs c fc :=
 O.keep fun x hx hf => K _ _ hx A.1 (by rw [hf]; exact A.2)
theorem Keeps.at (K : Keeps H H' b fm) {x : AObj} (h : H.at c = some x) (hne : c ≠ b) (hf : famid x = none) : H'.at c = some x := K _ _ h hne (.inl hf)
theorem Keeps.own (K : Keeps H H' b none) {x : AObj} (h : H.at c = some x) (hne : c ≠ b) : H'.at c = some x := K _ _ h hne (Classical.em _)
theorem Ext.put (W0 : Wf H0) (X : Ext H0 H) (hb : H0.n ≤ b) (K : Keeps H H' b none) (hn : H'.n = H.n) (W : Wf H') : Ext H0 H' := Ext.keeps W0 X ⟨hb, fun f h => by cases h⟩ K (by omega) W
theorem own_fresh {cells : List AV} {op : Bool} {fam : Option (Nat × Nat)} (h : H.at b = some (.row cells el op fam)) (hl : cells.length = n * e) : Own H el e (freshSl b n n) n cells b (fam.map (·.1)) :=
 ⟨0, n, cells, op, fam, rfl, h, rfl, by omega, by rw [List.drop_zero, List.take_of_length_le (by omega)], Nat.le_refl _, by omega⟩
theorem src_fresh {cells : List AV} {op : Bool} {fam : Option (Nat × Nat)} (h : H.at b = some (.row cells el op fam)) (hl : cells.length = n * e) : srcCells H e (freshSl b n n) = some (n, cells) := by
 have hr : H.read (.mt b) 0 (n * e) = some cells := by rw [read_mt h (by omega), List.drop_zero, List.take_of_length_le (by omega)]
 simp only [freshSl, srcCells, hr]
theorem Own.cutOk (O : Own H el e s n cs b fm) : VI.cutOk H el (.mt b) = true := by
 obtain ⟨off, cap, cells, op, fam, h0, h1, _⟩ := O
 simp only [VI.cutOk, h1, Nat.beq_refl, Bool.or_true]
theorem flat_get {α : Type} (f : α → AV) (l : List α) {i : Nat} (hi : i < l.length) : ((l.map f).drop (i * 1)).take 1 = [f l[i]] := by
 rw [Nat.mul_one, ← List.map_drop, ← List.map_take, List.drop_eq_getElem_cons hi]; rfl
end
end Go.VI
namespace Go.VI
section
variable {P : Program} {orc : CallF} {nt : Nat} {all l : List Oper} {K : St → Prop} {e : Env} {h : AH} {ds : List ADef}
variable {d : Nat} {op : Op} {ty : TypeId} {pos : String} {aft : Array Edge} {g : Option (Nat × Bool)}
theorem o_rd {v : AV} (hv : readOp P e h op = some v) (hs : readK P nt ⟨some d, op, ty, pos, aft, g⟩ = true) (hw : wantedA all e ⟨some d, op, ty, pos, aft, g⟩ = true)
  (k : WO P orc nt all l K ⟨e.set d v, h, ds⟩) : WO P orc nt all (⟨some d, op, ty, pos, aft, g⟩ :: l) K ⟨e, h, ds⟩ := o_read hs hw hv k
theorem o_sk (hs : Nat.blt d nt = true) (hw : wantedA all e ⟨some d, op, ty, pos, aft, g⟩ = false)
  (k : WO P orc nt all l K ⟨e.set d (.tup []), h, ds⟩) : WO P orc nt all (⟨some d, op, ty, pos, aft, g⟩ :: l) K ⟨e, h, ds⟩ := o_skip (o := ⟨some d, op, ty, pos, aft, g⟩) hs hw k
theorem o_nw {x : AObj} {f : Nat → AV} (W : Wf h) (hv : allocOp P e op = some (x, f)) (hs : allocK P nt ⟨some d, op, ty, pos, aft, g⟩ = true) (hw : wantedA all e ⟨some d, op, ty, pos, aft, g⟩ = true) (hf : isRowFam x = none) (hd : x ≠ .dead)
  (k : ∀ H', H'.n = h.n + 1 → Wf H' → Ext h H' → H'.at h.n = some x → WO P orc nt all l K ⟨e.set d (f h.n), H', ds⟩) : WO P orc nt all (⟨some d, op, ty, pos, aft, g⟩ :: l) K ⟨e, h, ds⟩ := o_new W hs hw hv hf hd k
theorem o_st {x y : Operand} {t : TypeId} {b off : Nat} {v : AV} {cells : List AV} {el : TypeId} {opn : Bool} {fam : Option (Nat × Nat)} {m : Nat} (W : Wf h)
  (hx : ev e x = some (.ptr (.mt b) off)) (hy : ev e y = some v) (ha : h.at b = some (.row cells el opn fam)) (hc : csz P t = some m) (hm : v.cells.length = m) (hl : off + m ≤ cells.length) (h1 : ones v.cells = true)
  (hs : loudK P nt ⟨none, .store t x y, ty, pos, aft, g⟩ = true) (hw : wantedA all e ⟨none, .store t x y, ty, pos, aft, g⟩ = true)
  (k : ∀ H', H'.n = h.n → Wf H' → H'.at b = some (.row (splice cells off v.cells) el opn fam) → Keeps h H' b (fam.map (·.1)) → WO P orc nt all l K ⟨e, H', ds⟩) : WO P orc nt all (⟨none, .store t x y, ty, pos, aft, g⟩ :: l) K ⟨e, h, ds⟩ :=
 o_store W rfl hs hw hx hy (by rw [hm]; exact hc) ha (by rw [hm]; exact hl) h1 k
theorem o_ap {x y : Operand} {t u : TypeId} {dd : TypeDesc} {el : TypeId} {e' by_ n m : Nat} {z s v : AV} {cs new : List AV} {b : Nat} {fm : Option Nat} (W : Wf h)
  (ht : P.underlying t = some (.slice el)) (hu : P.underlying u = some dd) (hd : isIntT dd = false) (hc : csz P el = some (e' + 1)) (hb : byt P el = some by_) (hz : zeroOf P el = some z) (hzl : z.cells.length = e' + 1)
  (hx : ev e x = some s) (hy : ev e y = some v) (O : Own h el (e' + 1) s n cs b fm) (hsrc : srcCells h (e' + 1) v = some (m, new)) (hnl : new.length = m * (e' + 1)) (h1 : ones new = true) (hr : (n + m) * (by_ + 1) ≤ 70368744177664)
  (hs : loudK P nt ⟨some d, .call ⟨.builtin .append, #[x, y], #[t, u]⟩, ty, pos, aft, g⟩ = true) (hw : wantedA all e ⟨some d, .call ⟨.builtin .append, #[x, y], #[t, u]⟩, ty, pos, aft, g⟩ = true)
  (k : ∀ s' H' b' fm', Own H' el (e' + 1) s' (n + m) (cs ++ new) b' fm' → Wf H' → h.n ≤ H'.n → H'.n ≤ h.n + 1 → (b' = b ∨ b' = h.n) → (fm' = none ∨ fm' = fm ∨ fm' = some h.n) → Keeps h H' b fm → WO P orc nt all l K ⟨e.set d s', H', ds⟩) :
  WO P orc nt all (⟨some d, .call ⟨.builtin .append, #[x, y], #[t, u]⟩, ty, pos, aft, g⟩ :: l) K ⟨e, h, ds⟩ :=
 o_append (o := ⟨some d, .call ⟨.builtin .append, #[x, y], #[t, u]⟩, ty, pos, aft, g⟩) W rfl hs hw ht hu hd hc hb hz hzl hx hy O hsrc hnl h1 hr k
theorem o_cl {c : Call} {fo : Operand} {f : FuncId} {first cap vs args : List AV} {R : AV → AH → Prop} (hf : c.callee = .value fo) (he : ev e fo = some (.fn (.func f) first cap)) (hv : evs e c.args.toList = some vs) (ha : first ++ vs ++ cap = args)
  (hc : Fin P orc f args h R) (hs : loudK P nt ⟨some d, .call c, ty, pos, aft, g⟩ = true) (hw : wantedA all e ⟨some d, .call c, ty, pos, aft, g⟩ = true)
  (k : ∀ v h', R v h' → WO P orc nt all l K ⟨e.set d v, h', ds⟩) : WO P orc nt all (⟨some d, .call c, ty, pos, aft, g⟩ :: l) K ⟨e, h, ds⟩ :=
 o_call (o := ⟨some d, .call c, ty, pos, aft, g⟩) rfl hf hs hw he hv ha hc k
theorem wanted_of {o p : Oper} {j dd : Nat} {want b : Bool} (hg : o.guard = some (j, want)) (hj : all[j]? = some p) (hd : p.dst = some dd) (hv : e.val dd = .bool b) : wantedA all e o = (b == want) := by
 simp only [wantedA, hg, hj, hd, hv]
theorem wanted_no {o p : Oper} {j dd : Nat} {want : Bool} (hg : o.guard = some (j, want)) (hj : all[j]? = some p) (hd : p.dst = some dd) (hv : e.val dd = .tup []) : wantedA all e o = false := by
 simp only [wantedA, hg, hj, hd, hv]
theorem fin_orc {f : FuncId} {args : List AV} {H : AH} {v : AV} (hs : ∀ H, orc f args H = some (.ret v, H)) (W : Wf H) : Fin P orc f args H (fun r H' => r = v ∧ Ext H H') := ⟨v, H, ⟨0, hs H⟩, rfl, Ext.refl W⟩
theorem r_addE {x y : Operand} {t t' : TypeId} {a b c : Int} (hx : ev e x = some (.int .i64 a)) (hy : ev e y = some (.int .i64 b)) (hc : a + b = c) (hl : -9223372036854775808 ≤ c) (hu : c < 9223372036854775808) : readOp P e h (.binOp .add t x y t') = some (.int .i64 c) := by
 subst hc; exact r_add hx hy hl hu
theorem r_subE {x y : Operand} {t t' : TypeId} {a b c : Int} (hx : ev e x = some (.int .i64 a)) (hy : ev e y = some (.int .i64 b)) (hc : a - b = c) (hl : -9223372036854775808 ≤ c) (hu : c < 9223372036854775808) : readOp P e h (.binOp .sub t x y t') = some (.int .i64 c) := by
 subst hc; exact r_sub hx hy hl hu
theorem r_addW {x y : Operand} {t t' : TypeId} {a b : Int} (hx : ev e x = some (.int .i64 a)) (hy : ev e y = some (.int .i64 b)) : readOp P e h (.binOp .add t x y t') = some (.int .i64 (wrapA .i64 (a + b))) := r_bin hx hy (by simp) (by simp only [intOp])
theorem r_subW {x y : Operand} {t t' : TypeId} {a b : Int} (hx : ev e x = some (.int .i64 a)) (hy : ev e y = some (.int .i64 b)) : readOp P e h (.binOp .sub t x y t') = some (.int .i64 (wrapA .i64 (a - b))) := r_bin hx hy (by simp) (by simp only [intOp])
theorem r_mulW {x y : Operand} {t t' : TypeId} {a b : Int} (hx : ev e x = some (.int .i64 a)) (hy : ev e y = some (.int .i64 b)) : readOp P e h (.binOp .mul t x y t') = some (.int .i64 (wrapA .i64 (a * b))) := r_bin hx hy (by simp) (by simp only [intOp])
theorem r_quoW {x y : Operand} {t t' : TypeId} {a b : Int} (hb : ¬ b = 0) (hx : ev e x = some (.int .i64 a)) (hy : ev e y = some (.int .i64 b)) : readOp P e h (.binOp .quo t x y t') = some (.int .i64 (wrapA .i64 (a.tdiv b))) := r_bin hx hy (by simp) (by simp only [intOp, eqI_eq, decide_eq_false hb])
/-- where the fields of a struct lie -/
def placesOf (P : Program) (t : TypeId) : Option (List (Nat × Nat)) :=
 match P.underlying t with
 | some (.struct fields) => fieldPlaces P fields.toList
 | _ => none
theorem r_build {t : TypeId} {parts : Array (Nat × Operand)} {z : AV} {pl : List (Nat × Nat)} {ps : List (Nat × AV)} {cs : List AV} (hz : zeroOf P t = some z) (hp : placesOf P t = some pl) (he : evParts e parts.toList = some ps) (hf : fillA (pl[·]?) z.cells ps = some cs) : readOp P e h (.build t parts) = some (.agg cs) := by
 simp only [readOp, doBuild, hz, he]
 unfold placesOf at hp
 split at hp
 ·rename_i hu; simp only [hu, buildStruct, hp, hf, Option.map_some]
 ·cases hp
theorem blk_exit {id : Nat} {Q : AExit → St → Prop} {s : St} (h : Q .normal s) : blockQ id Q (.exit id) s := ⟨fun _ => h, fun c => absurd rfl c⟩
theorem blk_pass {id j : Nat} {Q : AExit → St → Prop} {s : St} (hj : j ≠ id) (h : Q (.exit j) s) : blockQ id Q (.exit j) s := ⟨fun c => absurd c hj, fun _ => h⟩
theorem dec_t {p : Prop} [Decidable p] (h : decide p = true) : p := of_decide_eq_true h
theorem dec_fn {a b : Int} (h : decide (a ≠ b) = false) : a = b := by have := of_decide_eq_false h; omega
theorem dec_f {p : Prop} [Decidable p] (h : decide p = false) : ¬ p := of_decide_eq_false h
/-- The oracle knows of no function but those of a list. -/
def NoOrcBut (fs : List Nat) (orc : CallF) : Prop := ∀ f, fs.contains f = false → ∀ a H, orc f a H = none
end
end Go.VI
namespace Go.VI
section
variable {P : Program} {orc : CallF} {nt : Nat} {all : List Oper} {K : St → Prop} {e : Env} {h : AH} {ds : List ADef}
variable {d : Nat} {op : Op} {ty : TypeId} {pos : String} {aft : Array Edge} {g : Option (Nat × Bool)}
theorem ev_only {ts : List Nat} {x : Operand} (h : ∀ t, x = .tmp t → t ∈ ts) : ev (only e ts) x = ev e x := by
 cases x with
 | tmp t => simp only [ev, only_val, h t rfl, if_true]
 | const v => rfl
 | global _ => rfl
 | func _ => rfl
theorem evs_only {ts : List Nat} : ∀ {l : List Operand}, (∀ t, Operand.tmp t ∈ l → t ∈ ts) → evs (only e ts) l = evs e l
 | [], _ => rfl
 | x :: r, h => by
  simp only [evs]
  rw [ev_only (fun t ht => h t (by rw [ht]; exact List.mem_cons_self)), evs_only (fun t ht => h t (List.mem_cons_of_mem _ ht))]
theorem evParts_only {ts : List Nat} : ∀ {l : List (Nat × Operand)}, (∀ t, Operand.tmp t ∈ l.map (·.2) → t ∈ ts) → evParts (only e ts) l = evParts e l
 | [], _ => rfl
 | (i, x) :: r, h => by
  simp only [evParts]
  rw [ev_only (fun t ht => h t (by rw [ht]; simp)), evParts_only (fun t ht => h t (by simp only [List.map_cons]; exact List.mem_cons_of_mem _ ht))]
theorem mem_operandTmps {op : Op} {t : Nat} (h : Operand.tmp t ∈ op.operands.toList) : t ∈ operandTmps op := by
 unfold operandTmps
 rw [List.mem_filterMap]
 exact ⟨_, h, rfl⟩
theorem optEv_only {ts : List Nat} {o : Option Operand} (h : ∀ t, o = some (.tmp t) → t ∈ ts) : optEv (only e ts) o = optEv e o := by
 cases o with
 | none => rfl
 | some x => simp only [optEv]; rw [ev_only (fun t ht => h t (by rw [ht]))]
theorem readOp_only (op : Op) : readOp P (only e (operandTmps op)) h op = readOp P e h op := by
 have hx : ∀ x, x ∈ op.operands.toList → ev (only e (operandTmps op)) x = ev e x := fun x hm => ev_only (fun t ht => mem_operandTmps (ht ▸ hm))
 cases op <;> try rfl
 case move x => exact hx _ (by simp [Op.operands])
 case assign x => exact hx _ (by simp [Op.operands])
 case pick c a b => simp only [readOp, doPick]; rw [hx c (by simp [Op.operands]), hx a (by simp [Op.operands]), hx b (by simp [Op.operands])]
 case build t ps => simp only [readOp, doBuild]; rw [evParts_only (fun t ht => mem_operandTmps (by simpa [Op.operands] using ht))]
 case nilCheck x => simp only [readOp, doNil]; rw [hx x (by simp [Op.operands])]
 case binOp o t x y u => simp only [readOp, doBin]; rw [hx x (by simp [Op.operands]), hx y (by simp [Op.operands])]
 case unOp o t x => simp only [readOp, doUn]; rw [hx x (by simp [Op.operands])]
 case makeInterface t x => simp only [readOp, doIfc]; rw [hx x (by simp [Op.operands])]
 case makeFunc f a b =>
  simp only [readOp, doFunc]
  rw [evs_only (fun t ht => mem_operandTmps (by simp only [Op.operands, Array.toList_append, List.mem_append]; exact .inl ht)), evs_only (fun t ht => mem_operandTmps (by simp only [Op.operands, Array.toList_append, List.mem_append]; exact .inr ht))]
 case fieldAddr s x f => simp only [readOp, doFieldAddr]; rw [hx x (by simp [Op.operands])]
 case field s x f => simp only [readOp, doField]; rw [hx x (by simp [Op.operands])]
 case indexAddr t x i => simp only [readOp, doIndexAddr]; rw [hx x (by simp [Op.operands]), hx i (by simp [Op.operands])]
 case index t x i => simp only [readOp, doIndex]; rw [hx x (by simp [Op.operands]), hx i (by simp [Op.operands])]
 case typeAssert x t a o => simp only [readOp, doAssert]; rw [hx x (by simp [Op.operands])]
 case extract x i => simp only [readOp, doExtract]; rw [hx x (by simp [Op.operands])]
 case load t x => simp only [readOp, doLoad]; rw [hx x (by simp [Op.operands])]
 case slice t x l hh m =>
  simp only [readOp, doSlice]
  rw [hx x (by simp [Op.operands]), optEv_only (fun t ht => mem_operandTmps (by simp [Op.operands, ht])), optEv_only (fun t ht => mem_operandTmps (by simp [Op.operands, ht])), optEv_only (fun t ht => mem_operandTmps (by simp [Op.operands, ht]))]
 case convert s d x => simp only [readOp, doConvert]; rw [hx x (by simp [Op.operands])]
 case entry x => simp only [readOp, doEntry]; rw [hx x (by simp [Op.operands])]
 case lookup t x i o => simp only [readOp, doLookup]; rw [hx x (by simp [Op.operands]), hx i (by simp [Op.operands])]
 case call c =>
  simp only [readOp, readCall]
  split
  ·rename_i b hb
   have ha : ∀ x, x ∈ c.args.toList → ev (only e (operandTmps (.call c))) x = ev e x := fun x hm => hx x (by simp only [Op.operands, Call.operands, hb, Array.toList_append, List.mem_append]; exact .inr hm)
   have hm : evs (only e (operandTmps (.call c))) c.args.toList = evs e c.args.toList := evs_only (fun t ht => mem_operandTmps (by simp only [Op.operands, Call.operands, hb, Array.toList_append, List.mem_append]; exact .inr ht))
   cases b <;> try rfl
   case len =>
    simp only [readBuiltin, doLen]
    split
    ·rename_i x r t ts h1 h2; rw [ha x (by rw [h1]; exact List.mem_cons_self)]
    ·rfl
   case min => simp only [readBuiltin, doMin]; rw [hm]
   case max => simp only [readBuiltin, doMax]; rw [hm]
  ·rfl
theorem allocOp_only (op : Op) : allocOp P (only e (operandTmps op)) op = allocOp P e op := by
 have hx : ∀ x, x ∈ op.operands.toList → ev (only e (operandTmps op)) x = ev e x := fun x hm => ev_only (fun t ht => mem_operandTmps (ht ▸ hm))
 cases op <;> try rfl
 case box t x => simp only [allocOp, doBox]; rw [hx x (by simp [Op.operands])]
 case buildSlice t n ps => simp only [allocOp, doBuildSlice]; rw [evParts_only (fun t ht => mem_operandTmps (by simpa [Op.operands] using ht))]
 case makeMap t r => simp only [allocOp, doMakeMap]; rw [optEv_only (fun t ht => mem_operandTmps (by simp [Op.operands, ht]))]
 case makeSlice t l c => simp only [allocOp, doMakeSlice]; rw [hx l (by simp [Op.operands]), hx c (by simp [Op.operands])]
 case convert s d x => simp only [allocOp, doStrBytes]; rw [hx x (by simp [Op.operands])]
 case range t x => simp only [allocOp, doRange]; rw [hx x (by simp [Op.operands])]

/-! the rules of an open order -/
variable {ms : List Nat} {ls : List Look} {il : List Nat} {i : Nat}
theorem d_rd {v : AV} (hi : all[i]? = some ⟨some d, op, ty, pos, aft, g⟩) (hv : readOp P e h op = some v) (hs : readK P nt ⟨some d, op, ty, pos, aft, g⟩ = true) (hw : wantedA all e ⟨some d, op, ty, pos, aft, g⟩ = true)
  (k : WD P orc nt all ms il (⟨i, only e (operandTmps op), op, v⟩ :: ls) K ⟨e.set d v, h, ds⟩) : WD P orc nt all ms (i :: il) ls K ⟨e, h, ds⟩ := d_read hi hs hw (by rw [readOp_only]; exact hv) k
theorem d_nw {x : AObj} {f : Nat → AV} (hi : all[i]? = some ⟨some d, op, ty, pos, aft, g⟩) (W : Wf h) (hv : allocOp P e op = some (x, f)) (hs : allocK P nt ⟨some d, op, ty, pos, aft, g⟩ = true) (hw : wantedA all e ⟨some d, op, ty, pos, aft, g⟩ = true) (hf : isRowFam x = none) (hd : x ≠ .dead)
  (k : ∀ H', H'.n = h.n + 1 → Wf H' → Ext h H' → H'.at h.n = some x → recheck P 0 H' ls = true ∧ WD P orc nt all ms il ls K ⟨e.set d (f h.n), H', ds⟩) : WD P orc nt all ms (i :: il) ls K ⟨e, h, ds⟩ := by
 obtain ⟨h1, h2⟩ := k _ rfl (Ext.push W hf).wf (Ext.push W hf) (at_push_eq hf hd)
 exact d_alloc hi hs hw (by rw [allocOp_only]; exact hv) h1 h2
theorem d_st {x y : Operand} {t : TypeId} {b off : Nat} {v : AV} {cells : List AV} {el : TypeId} {opn : Bool} {fam : Option (Nat × Nat)} {m : Nat} (hi : all[i]? = some ⟨none, .store t x y, ty, pos, aft, g⟩) (W : Wf h)
  (hx : ev e x = some (.ptr (.mt b) off)) (hy : ev e y = some v) (ha : h.at b = some (.row cells el opn fam)) (hc : csz P t = some m) (hm : v.cells.length = m) (hl : off + m ≤ cells.length) (h1 : ones v.cells = true)
  (hs : loudK P nt ⟨none, .store t x y, ty, pos, aft, g⟩ = true) (hw : wantedA all e ⟨none, .store t x y, ty, pos, aft, g⟩ = true)
  (k : ∀ H', H'.n = h.n → Wf H' → H'.at b = some (.row (splice cells off v.cells) el opn fam) → Keeps h H' b (fam.map (·.1)) → recheck P (ms.getD i 0) H' ls = true ∧ WD P orc nt all ms il ls K ⟨e, H', ds⟩) : WD P orc nt all ms (i :: il) ls K ⟨e, h, ds⟩ := by
 subst hm
 obtain ⟨H', w1, w2, w3, w4, w5⟩ := write_own W ha hl h1
 obtain ⟨k1, k2⟩ := k H' w2 w3 w4 w5
 refine d_loud (v := .tup []) hi hs hw ?_ k1 k2
 have e1 : ev (only e (operandTmps (.store t x y))) x = ev e x := ev_only (fun t ht => mem_operandTmps (by simp [Op.operands, ht]))
 have e2 : ev (only e (operandTmps (.store t x y))) y = ev e y := ev_only (fun t ht => mem_operandTmps (by simp [Op.operands, ht]))
 simp only [loudOp, doStore, e1, e2, hx, hy, hc, Nat.beq_refl, w1, unit]
/-- A look that need not be taken again. -/
theorem re_nil {m : Nat} {H : AH} : recheck P m H [] = true := rfl
theorem re_forced {m : Nat} {H : AH} {l : Look} (hb : m.testBit l.i = true) (k : recheck P m H ls = true) : recheck P m H (l :: ls) = true := by simp only [recheck, hb, Bool.true_or, k, Bool.and_self]
theorem re_forcedL {m : Nat} {H : AH} {l : Look} {M I : Nat} (hm : m = M) (hi : l.i = I) (hb : M.testBit I = true) (k : recheck P m H ls = true) : recheck P m H (l :: ls) = true := re_forced (by rw [hm, hi]; exact hb) k
end
section
variable {P : Program} {ls : List Look}
theorem re_same {m : Nat} {H : AH} {e : Env} {i : Nat} {op : Op} {v : AV} (h : readOp P e H op = some v) (k : recheck P m H ls = true) : recheck P m H (⟨i, only e (operandTmps op), op, v⟩ :: ls) = true := by
 simp only [recheck, readOp_only, h, AV.beq_refl, Bool.or_true, k, Bool.and_self]
end
end Go.VI
namespace Go.VI
open Go.RowKit Go.ChangeShapes

structure RV (P : Program) (t : TypeId) (R : List AV → Prop) (fuel : Nat) : Prop where
 out : ∀ {H : Type} {enc : TypeId × Value → H} {w : World} {held : Bool} {cs : List Value} {D : DataW H} {ps : List MemPlace},
  DataW.trod enc P w 0 (fun _ => true) held fuel t cs = some (D, ps) → (∀ x ∈ D.weights P t, x ≤ reachBytes) → ∃ as, VRs (fun _ => none) (memOf w) as cs ∧ R as
section
variable {P : Program} {t e : TypeId}
theorem rv_zero {R : List AV → Prop} : RV P t R 0 := ⟨fun h _ => by simp [DataW.trod] at h⟩
theorem RV.mono {R R' : List AV → Prop} {n : Nat} (h : RV P t R n) (k : ∀ as, R as → R' as) : RV P t R' n := ⟨fun hh hw => by
 obtain ⟨as, h1, h2⟩ := h.out hh hw; exact ⟨as, h1, k _ h2⟩⟩
theorem rv_int {k : IntKind} (ht : P.underlying t = some (.int k)) (n : Nat) : RV P t (fun as => ∃ x, as = [.int k x] ∧ (Lit.int k x).wf = true) n := by
 cases n with
 | zero => exact rv_zero
 | succ n =>
  constructor
  intro H enc w held cs D ps h hwt
  unfold DataW.trod at h
  rw [ht] at h
  simp only at h
  split at h <;> first | cases h | skip
  all_goals (try (rename_i he; cases he))
  all_goals (try (split at h <;> cases h))
  rename_i hk
  obtain ⟨rfl, hw⟩ := hk
  exact ⟨_, .one (.int _ _), _, rfl, hw⟩
theorem rv_string (ht : P.underlying t = some .string) (n : Nat) : RV P t (fun as => ∃ x : List UInt8, as = [.str x] ∧ x.length ≤ reachBytes) n := by
 cases n with
 | zero => exact rv_zero
 | succ n =>
  constructor
  intro H enc w held cs D ps h hwt
  unfold DataW.trod at h
  rw [ht] at h
  simp only at h
  split at h <;> first | cases h | skip
  all_goals (try (rename_i he; cases he))
  all_goals (try (split at h <;> cases h))
  rename_i hk
  exact ⟨_, .one (.str _), _, rfl, hwt _ (by simp [DataW.weights])⟩
theorem rv_list {H : Type} {R : List AV → Prop} {G : DataW H → Prop} {Q : Nat → List AV → Prop} (f : Nat → Option (DataW H × List MemPlace)) (hf : ∀ i y, f i = some y → G y.1 → ∃ x, Q i x ∧ R x) :
  ∀ (is : List Nat) (ys : List (DataW H × List MemPlace)), is.mapM f = some ys → (∀ y ∈ ys, G y.1) → ∃ xs : List (List AV), xs.length = is.length ∧ (∀ (j : Nat) (x : List AV), xs[j]? = some x → ∃ i, is[j]? = some i ∧ Q i x) ∧ ∀ x ∈ xs, R x
 | [], ys, h, _ => ⟨[], rfl, fun j x hx => by simp at hx, fun x hx => by simp at hx⟩
 | i :: is, ys, h, hG => by
  rw [List.mapM_cons] at h
  cases hi : f i with
  | none => simp [hi] at h
  | some y =>
   cases hr : is.mapM f with
   | none => simp [hi, hr] at h
   | some zs =>
    simp [hi, hr] at h
    subst h
    obtain ⟨x, hq, hg⟩ := hf i y hi (hG y List.mem_cons_self)
    obtain ⟨xs, h1, h2, h4⟩ := rv_list f hf is zs hr (fun z hz => hG z (List.mem_cons_of_mem _ hz))
    refine ⟨x :: xs, by simp [h1], fun j x' hx => ?_, fun x' hx => ?_⟩
    ·cases j with
     | zero => simp at hx; subst hx; exact ⟨i, rfl, hq⟩
     | succ j =>
      simp at hx
      obtain ⟨i', hi', hq'⟩ := h2 j x' hx
      exact ⟨i', by simpa using hi', hq'⟩
    ·rcases List.mem_cons.1 hx with rfl | hx
     ·exact hg
     ·exact h4 x' hx
theorem rv_cells {w : World} {a : Addr} {n : Nat} {cs : List Value} (h : w.cells? 0 a n = some cs) : cs.length = n ∧ ∀ (j : Nat) (u : Value), cs[j]? = some u → w.cell? (a.add j) = some u := by
 obtain ⟨_, h1, h2⟩ := World.cells?_some h
 refine ⟨h1, fun j u hu => ?_⟩
 have hj : j < cs.length := (List.getElem?_eq_some_iff.1 hu).1
 rw [h2 j (by omega), hu]
theorem cell_spot {w : World} {a : Addr} {u : Value} (h : w.cell? a = some u) : a.spot = none := by
 unfold World.cell? at h
 split at h
 ·split at h
  ·cases h
  ·rename_i hs; cases hq : a.spot with
   | none => rfl
   | some _ => rw [hq] at hs; simp at hs
 ·cases h
theorem add_off {a : Addr} (hs : a.spot = none) (n : Nat) : a.add n = ⟨a.block, a.off + n, none⟩ := by
 unfold Addr.add
 split
 ·rename_i h; subst h; cases a; simp at hs; simp [hs]
 ·cases a; simp at hs; simp
/-- cells of elements of one size, side by side -/
theorem flat_get_cells {s : Nat} : ∀ {xs : List (List Value)} {i q : Nat} {c : List Value} {u : Value}, (∀ x ∈ xs, x.length = s) → xs.flatten[i]? = some u → ∃ j c, xs[j]? = some c ∧ j * s ≤ i ∧ c[i - j * s]? = some u
 | [], i, q, c, u, _, h => by simp at h
 | x :: xs, i, q, c, u, hl, h => by
  have hx := hl x List.mem_cons_self
  rw [List.flatten_cons, List.getElem?_append] at h
  split at h
  ·exact ⟨0, x, rfl, by omega, by simpa using h⟩
  ·rename_i hlt
   obtain ⟨j, c', h1, h2, h3⟩ := flat_get_cells (q := q) (c := c) (fun y hy => hl y (List.mem_cons_of_mem _ hy)) h
   have hm : (j + 1) * s = j * s + s := Nat.succ_mul j s
   refine ⟨j + 1, c', by simpa using h1, by omega, ?_⟩
   rw [show i - (j + 1) * s = i - x.length - j * s by omega]; exact h3
theorem vrs_flatten {β : Bt} {M : Mem} : ∀ {as : List (List AV)} {vs : List (List Value)}, as.length = vs.length → (∀ (j : Nat) (a : List AV) (v : List Value), as[j]? = some a → vs[j]? = some v → VRs β M a v) → VRs β M as.flatten vs.flatten
 | [], [], _, _ => .nil
 | a :: as, v :: vs, hl, h => by
  rw [List.flatten_cons, List.flatten_cons]
  exact (h 0 a v rfl rfl).append (vrs_flatten (by simpa using hl) fun j x y hx hy => h (j + 1) x y (by simpa using hx) (by simpa using hy))
 | [], _ :: _, h, _ => by simp at h
 | _ :: _, [], h, _ => by simp at h
theorem weightsAll_mem {H : Type} {d : DataW H} {x : Nat} : ∀ {l : List (DataW H)}, d ∈ l → x ∈ d.weights P e → x ∈ DataW.weightsAll P e l
 | a :: l, h, hx => by
  simp only [DataW.weightsAll, List.mem_append]
  rcases List.mem_cons.1 h with rfl | h
  ·exact .inl hx
  ·exact .inr (weightsAll_mem h hx)
theorem rv_slice {R : List AV → Prop} {n s : Nat} (ht : P.underlying t = some (.slice e)) (hsz : P.cellsOf e = s) (hs : 0 < s) (he : RV P e R n) :
  RV P t (fun as => as = [.nils] ∨ ∃ (L : List (List AV)) (cap : Nat), as = [.sl (.im L.flatten) 0 L.length cap] ∧ L.length ≤ cap ∧ L.length * P.bytesOf e ≤ reachBytes ∧ ∀ a ∈ L, a.length = s ∧ R a) (n + 1) := by
 constructor
 intro H enc w held cs D ps h hwt
 unfold DataW.trod at h
 rw [ht] at h
 simp only at h
 split at h <;> first | cases h | skip
 all_goals (try (rename_i hq; cases hq))
 ·exact ⟨_, .one .nils, .inl rfl⟩
 ·rename_i a len cap
  split at h
  ·rename_i hc
   obtain ⟨_, hlc, hcm⟩ := hc
   subst hsz
   cases hm : (List.range len).mapM (fun i => (w.cells? 0 (a.add (i * P.cellsOf e)) (P.cellsOf e)).bind (DataW.trod enc P w 0 (fun _ => true) held n e)) with
   | none => simp [hm] at h
   | some ys =>
    simp only [hm, Option.bind_some] at h
    obtain ⟨z, hz, hzz⟩ := Option.map_eq_some_iff.1 h
    cases hzz
    have hwl : ∀ y ∈ ys, ∀ x ∈ y.1.weights P e, x ≤ reachBytes := fun y hy x hx => hwt x (by
     simp only [DataW.weights, ht, List.mem_cons, List.mem_append]
     exact .inr (.inl (weightsAll_mem (List.mem_map.2 ⟨y, hy, rfl⟩) hx)))
    have hwn : (ys.length + z.length) * P.bytesOf e ≤ reachBytes := hwt _ (by simp [DataW.weights, ht])
    have hyl : ys.length = len := by have := mapM_some_length hm; simpa using this
    obtain ⟨xs, h1, h2, h4⟩ := rv_list (G := fun D => ∀ x ∈ D.weights P e, x ≤ reachBytes) (Q := fun i x => x.length = P.cellsOf e ∧ ∃ c : List Value, c.length = P.cellsOf e ∧ VRs (fun _ => none) (memOf w) x c ∧ ∀ j u, c[j]? = some u → w.cell? ((a.add (i * P.cellsOf e)).add j) = some u) (R := R) _ (fun i y hy hG => by
     obtain ⟨c, hc, hy⟩ := Option.bind_eq_some_iff.1 hy
     obtain ⟨x, hk, hg⟩ := he.out hy hG
     exact ⟨x, ⟨by rw [hk.length, (rv_cells hc).1], c, (rv_cells hc).1, hk, (rv_cells hc).2⟩, hg⟩) _ _ hm hwl
    rw [List.length_range] at h1
    subst h1
    -- the capacity tells whether there is a cell at all
    by_cases hcap : cap = 0
    ·subst hcap
     have hx0 : xs = [] := List.eq_nil_of_length_eq_zero (by omega)
     subst hx0
     exact ⟨[.sl (.im []) 0 0 0], .one (.sl0 (.im []) 0 0 0 0 a (.im [] [] 0 0 .nil (fun i v hv => by simp at hv)) rfl), .inr ⟨[], 0, rfl, Nat.le_refl _, by simp, fun x hx => by simp at hx⟩⟩
    ·-- its first cell lies there
     have hspot : a.spot = none := by
      by_cases hl0 : xs.length = 0
      ·-- what lies behind the end
       rw [if_pos (by trivial)] at hz
       cases hz2 : (List.range (cap - xs.length)).mapM (fun j => (w.cells? 0 (a.add ((xs.length + j) * P.cellsOf e)) (P.cellsOf e)).bind (DataW.trod enc P w 0 (fun _ => true) held n e)) with
       | none => rw [hz2] at hz; cases hz
       | some zs =>
        have h0 := mapM_some_get hz2 0 0 (List.getElem?_range (by omega))
        have hlen := mapM_some_length hz2
        have hz0 : ∃ z0, zs[0]? = some z0 := ⟨zs[0]'(by simp at hlen; omega), List.getElem?_eq_getElem (by simp at hlen; omega)⟩
        obtain ⟨z0, hz0⟩ := hz0
        rw [hz0] at h0
        obtain ⟨c, hc, _⟩ := Option.bind_eq_some_iff.1 h0
        have hcl := (rv_cells hc).1
        have := (rv_cells hc).2 0 (c[0]'(by omega)) (List.getElem?_eq_getElem (by omega))
        have := cell_spot this
        rw [hl0] at this
        simpa [Addr.add] using this
      ·obtain ⟨i, hi, _, c, hcl, _, hc⟩ := h2 0 (xs[0]'(by omega)) (List.getElem?_eq_getElem (by omega))
       have hi0 : i = 0 := by rw [List.getElem?_range (by omega)] at hi; injection hi with hi; exact hi.symm
       subst hi0
       have := cell_spot (hc 0 (c[0]'(by omega)) (List.getElem?_eq_getElem (by omega)))
       simpa [Addr.add] using this
     -- the elements' cells, side by side
     have hex : ∀ j, j < xs.length → ∃ c : List Value, c.length = P.cellsOf e ∧ VRs (fun _ => none) (memOf w) (xs.getD j []) c ∧ ∀ q u, c[q]? = some u → w.cell? ⟨a.block, a.off + j * P.cellsOf e + q, none⟩ = some u := by
      intro j hj
      obtain ⟨i, hi, _, c, hcl, hv, hc⟩ := h2 j xs[j] (List.getElem?_eq_getElem hj)
      have hij : i = j := by
       rw [List.getElem?_range hj] at hi; injection hi with hi; exact hi.symm
      subst hij
      refine ⟨c, hcl, by rw [List.getD_eq_getElem?_getD, List.getElem?_eq_getElem hj]; exact hv, fun q u hu => ?_⟩
      have := hc q u hu
      rwa [add_off hspot, add_off rfl] at this
     obtain ⟨vf, hvf⟩ := Classical.axiomOfChoice (r := fun (j : Nat) (c : List Value) => j < xs.length → c.length = P.cellsOf e ∧ VRs (fun _ => none) (memOf w) (xs.getD j []) c ∧ ∀ q u, c[q]? = some u → w.cell? ⟨a.block, a.off + j * P.cellsOf e + q, none⟩ = some u) (fun j => by
      by_cases hj : j < xs.length
      ·obtain ⟨c, hc⟩ := hex j hj; exact ⟨c, fun _ => hc⟩
      ·exact ⟨[], fun c => absurd c hj⟩)
     have hvl : ((List.range xs.length).map vf).length = xs.length := by simp
     have hvg : ∀ j, j < xs.length → ((List.range xs.length).map vf)[j]? = some (vf j) := fun j hj => by simp [hj]
     refine ⟨[.sl (.im xs.flatten) 0 xs.length cap], .one ?_, .inr ⟨xs, cap, rfl, hlc, Nat.le_trans (Nat.mul_le_mul_right _ (by omega)) hwn, fun x hx => ⟨?_, h4 x hx⟩⟩⟩
     ·have hL : LocR (fun _ => none) (memOf w) (.im xs.flatten) a.block a.off := by
       refine .im _ ((List.range xs.length).map vf).flatten _ _ (vrs_flatten (by simp) fun j x v hx hv => ?_) fun i u hu => ?_
       ·have hj : j < xs.length := (List.getElem?_eq_some_iff.1 hx).1
        rw [hvg j hj] at hv; injection hv with hv; subst hv
        have := (hvf j hj).2.1
        rwa [List.getD_eq_getElem?_getD, hx] at this
       ·obtain ⟨j, c, hc1, hc2, hc3⟩ := flat_get_cells (s := P.cellsOf e) (q := 0) (c := []) (fun x hx => by
         obtain ⟨j, hj, rfl⟩ := List.mem_map.1 hx
         exact (hvf j (by simpa using hj)).1) hu
        have hj : j < xs.length := by have := (List.getElem?_eq_some_iff.1 hc1).1; simpa using this
        rw [hvg j hj] at hc1; injection hc1 with hc1; subst hc1
        have hcell := (hvf j hj).2.2 _ _ hc3
        rw [show a.off + j * P.cellsOf e + (i - j * P.cellsOf e) = a.off + i by omega] at hcell
        have hblk : a.block < w.heap.size := by
         unfold World.cell? at hcell
         split at hcell
         ·rename_i hh; exact (Array.getElem?_eq_some_iff.1 hh).1
         ·cases hcell
        simp only [memOf, hblk, if_true]; exact hcell
      have := VR.sl (β := fun _ => none) (M := memOf w) (.im xs.flatten) 0 xs.length cap cap a.block a.off hL rfl
      cases a; simp at hspot; subst hspot; simpa using this
     ·obtain ⟨j, hj⟩ := List.getElem?_of_mem hx
      exact (h2 j x hj).elim fun i hi => hi.2.1
  ·cases h

/-- Fields from a place on. -/
structure RVF (P : Program) (fs : List Field) (off len : Nat) (R : List AV → Prop) (fuel : Nat) : Prop where
 out : ∀ {H : Type} {enc : TypeId × Value → H} {w : World} {held : Bool} {cs : List Value} {ys : List (DataW H × List MemPlace)}, cs.length = off + len →
  fs.mapM (fun f => DataW.trod enc P w 0 (fun _ => true) held fuel f.type ((cs.drop f.offset).take (P.cellsOf f.type))) = some ys → (∀ x ∈ DataW.weightsEach P (fs.map (·.type)) (ys.map (·.1)), x ≤ reachBytes) → ∃ as, VRs (fun _ => none) (memOf w) as (cs.drop off) ∧ R as
/-- An argument, opened. -/
theorem rv_open {R : List AV → Prop} {H : Type} {enc : TypeId × Value → H} {w : World} {held : Bool} {v : Value} {D : DataW H} {ps : List MemPlace}
  (he : ∀ n, RV P t R n) (h : DataW.Trod enc P w 0 (fun _ => true) held t v D ps) (hw : ∀ x ∈ D.weights P t, x ≤ reachBytes) : ∃ as, VRs (fun _ => none) (memOf w) as v.cells.toList ∧ R as := by
 obtain ⟨fuel, hf⟩ := h
 exact (he fuel).out hf hw
/-- A law that answers true on the abstract machine. -/
theorem law_calls (hm : P.follows .mixedOrders = true) (hn : NamesOk P) {orc : CallF} (O : ∀ w0, CallSound P w0 orc) {f : FuncId} {args : List AV} {vs : List Value} {W : World} {R : AV → AH → Prop} (hv : VRs (fun _ => none) (memOf W) args vs)
  (h : Fin P orc f args AH.empty R) (hR : ∀ r H', R r H' → r = .bool true) : Calls P f vs.toArray W fun e W' => e = .returned (.bool true) ∧ Below W.heap.size W W' := by
 obtain ⟨v, H', ⟨n, hc⟩, hr⟩ := h
 obtain rfl := hR v H' hr
 refine ((acall_sound hm hn (O W) n _ _ _ _ _ hc).2 _ W vs (Rel.empty W) hv).mono fun e w' ⟨β', hmv, v', h1, h2⟩ => ?_
 cases h2
 exact ⟨h1, hmv.rel.below⟩
end
end Go.VI
