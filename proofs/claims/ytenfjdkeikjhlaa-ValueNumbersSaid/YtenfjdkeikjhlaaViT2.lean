/-
  A region in an open order, second part: what holds on the way.
-/
import Derived.Test.YtenfjdkeikjhlaaViT
set_option autoImplicit false
set_option linter.unusedVariables false
namespace Go.VI
open Go.RowKit

inductive PK where
  | skip
  | read
  | alloc (x : AObj) (b : Nat)
/-- An operation that the plan has done and the world has not. -/
structure PI where
  i : Nat
  o : Oper
  env : Env
  v : AV
  k : PK

section
variable {P : Program} {w w' w0 : World} {β β' β0 : Bt} {H H' H0 : AH} {nt : Nat} {e : Env} {a : Act} {M : Mem} {call : CallF} {ops : Array Oper} {listed : Array Bool} {pend : List PI} {rest : List Nat} {ls : List Look} {s s' : St} {Q : Exit → Act → World → Prop}

def PI.ok (P : Program) (all : List Oper) (β : Bt) (H H0 : AH) (p : PI) : Prop :=
  all[p.i]? = some p.o ∧ match p.k with
  | .skip => wantedA all p.env p.o = false ∧ p.v = .tup []
  | .read => wantedA all p.env p.o = true ∧ readOp P (only p.env (operandTmps p.o.op)) H p.o.op = some p.v
  | .alloc x b => wantedA all p.env p.o = true ∧ H0.n ≤ b ∧ b < H.n ∧ β b = none ∧ H.o.get b = some x ∧ ∃ f, allocOp P (only p.env (operandTmps p.o.op)) p.o.op = some (x, f) ∧ f b = p.v
def PI.look (p : PI) : Look := ⟨p.i, only p.env (operandTmps p.o.op), p.o.op, p.v⟩

structure Inv (P : Program) (w0 : World) (nt : Nat) (call : CallF) (ops : Array Oper) (β0 : Bt) (H0 : AH) (s' : St) (listed : Array Bool) (pend : List PI) (rest : List Nat) (ls : List Look) (s : St) (β : Bt) (a : Act) (w : World) : Prop where
  size : listed.size = ops.size
  un : ∀ i, i < ops.size → (listed.getD i true = false ↔ i ∈ rest ∨ ∃ p ∈ pend, p.i = i)
  clos : ∀ i m, listed.getD i false = true → ((masks ops.toList []).getD i 0).testBit m = true → listed.getD m false = true
  chain : Chain P ops.toList (masks ops.toList []) rest
  inb : ∀ i ∈ rest, i < ops.size
  disj : ∀ p ∈ pend, p.i ∉ rest
  uniq : ∀ p ∈ pend, ∀ q ∈ pend, p.i = q.i → p = q
  mask : ∀ p ∈ pend, ∀ m, ((masks ops.toList []).getD p.i 0).testBit m = true → m ∉ rest
  moves : Moves P w0 β0 β H0 s.h w
  asz : nt ≤ a.tmps.size
  val : ∀ t, (∀ p ∈ pend, p.o.dst ≠ some t) → VR β (memOf w0) (s.e.val t) (a.tmps.getD t undef)
  dst : ∀ p ∈ pend, ∀ t, p.o.dst = some t → s.e.val t = p.v
  dlt : ∀ p ∈ pend, ∀ t, p.o.dst = some t → t < nt
  look : ∀ p ∈ pend, ∀ t, (t ∈ looks ops.toList p.o) → (∀ q ∈ pend, ((masks ops.toList []).getD p.i 0).testBit q.i = true → q.o.dst ≠ some t) → VR β (memOf w0) (p.env.val t) (a.tmps.getD t undef)
  link : ∀ p ∈ pend, ∀ q ∈ pend, ((masks ops.toList []).getD p.i 0).testBit q.i = true → ∀ t, q.o.dst = some t → p.env.val t = q.v
  ok : ∀ p ∈ pend, p.ok P ops.toList β s.h H0
  apart : ∀ p ∈ pend, ∀ q ∈ pend, ∀ x y b, p.k = .alloc x b → q.k = .alloc y b → p = q
  reads : ∀ p ∈ pend, p.k = .read → p.look ∈ ls
  defs : DefsR β (memOf w0) s.d a.defers
  run : adraw P nt call ops.toList (masks ops.toList []) rest ls s = some s'

/-- The text's own facts. -/
structure Plain (P : Program) (ops : Array Oper) : Prop where
  edge : ∀ i o, ops[i]? = some o → ∀ e ∈ o.after.toList, Region.binds .any e = true → e.on < i
  write : ∀ i w d j o, ops[i]? = some w → w.dst = some d → ops[j]? = some o → i ≠ j → o.dst ≠ some d ∧ (d ∈ looks ops.toList o → ((masks ops.toList []).getD j 0).testBit i = true ∨ ((masks ops.toList []).getD i 0).testBit j = true)

theorem ready_mask (I : Inv P w0 nt call ops β0 H0 s' listed pend rest ls s β a w) {j : Nat} (hj : j ∈ Region.ready .any ops listed) {m : Nat} (hm : ((masks ops.toList []).getD j 0).testBit m = true) : listed.getD m false = true := by
  obtain ⟨h0, o, ho, hall⟩ := mem_ready.1 hj
  have := masks_spec ops.toList [] j o m (by simpa using ho) (by simpa using hm)
  obtain ⟨e, he, hb, h⟩ := this
  have hl := hall e (by simpa using he) hb
  rcases h with rfl | h
  · exact hl
  · exact I.clos _ _ hl h
theorem listed_lt {i : Nat} (h : listed.getD i false = true) : i < listed.size := by
  rcases Nat.lt_or_ge i listed.size with h' | h'
  · exact h'
  · simp [Array.getElem?_eq_none h'] at h
theorem not_un (I : Inv P w0 nt call ops β0 H0 s' listed pend rest ls s β a w) {i : Nat} (h : listed.getD i false = true) : i ∉ rest ∧ ∀ p ∈ pend, p.i ≠ i := by
  have hlt := listed_lt h
  have hlt' := hlt; rw [I.size] at hlt'
  have e : listed.getD i true = true := by simp [hlt] at h ⊢; exact h
  have hn : ¬ (i ∈ rest ∨ ∃ p ∈ pend, p.i = i) := fun c => by
    have := (I.un i hlt').2 c; rw [e] at this; cases this
  exact ⟨fun c => hn (.inl c), fun p hp c => hn (.inr ⟨p, hp, c⟩)⟩

/-- All is done. -/
theorem all_listed (T : Plain P ops) (I : Inv P w0 nt call ops β0 H0 s' listed pend rest ls s β a w) (h : Region.ready .any ops listed = []) : ∀ n i, i < n → i < ops.size → listed.getD i false = true := by
  intro n
  induction n with
  | zero => intro i hi; omega
  | succ n ih =>
    intro i hi hlt
    cases hc : listed.getD i true with
    | true => have : i < listed.size := by rw [I.size]; exact hlt
              simp [this] at hc ⊢; exact hc
    | false =>
      exfalso
      obtain ⟨o, ho⟩ : ∃ o, ops[i]? = some o := ⟨_, Array.getElem?_eq_getElem hlt⟩
      have : i ∈ Region.ready .any ops listed := mem_ready.2 ⟨hc, o, ho, fun e he hb => by
        have := T.edge i o ho e (by simpa using he) hb
        exact ih e.on (by omega) (by omega)⟩
      rw [h] at this; cases this
theorem inv_end (T : Plain P ops) (I : Inv P w0 nt call ops β0 H0 s' listed pend rest ls s β a w) (h : Region.ready .any ops listed = []) : SRel P w0 β nt s' a w ∧ Moves P w0 β0 β H0 s'.h w := by
  have hall := all_listed T I h ops.size
  have hr : rest = [] := by
    cases rest with
    | nil => rfl
    | cons i r =>
      have hi := I.inb i List.mem_cons_self
      exact absurd List.mem_cons_self (not_un I (hall i hi hi)).1
  have hp : pend = [] := by
    cases pend with
    | nil => rfl
    | cons p r =>
      have hi : p.i < ops.size := by
        have := (I.ok p List.mem_cons_self).1
        have := (List.getElem?_eq_some_iff.1 this).1
        simpa using this
      exact absurd rfl ((not_un I (hall p.i hi hi)).2 p List.mem_cons_self)
  subst hr; subst hp
  have hs := I.run
  simp only [adraw, Option.some.injEq] at hs; subst hs
  exact ⟨⟨⟨I.asz, fun t => I.val t (fun p hp => by cases hp)⟩, I.moves.rel, I.defs⟩, I.moves⟩

theorem recheck_all {m : Nat} {h : AH} : ∀ {ls : List Look}, recheck P m h ls = true → ∀ l ∈ ls, m.testBit l.i = true ∨ readOp P l.e h l.op = some l.v
  | [], _, l, hl => by cases hl
  | x :: r, hk, l, hl => by
    simp only [recheck, Bool.and_eq_true, Bool.or_eq_true] at hk
    rcases List.mem_cons.1 hl with rfl | hl
    · refine hk.1.imp id fun h => ?_
      split at h
      · rename_i v hv; rw [hv, AV.beq_eq _ _ h]
      · cases h
    · exact recheck_all hk.2 l hl
theorem getD_get {all : List Oper} {i : Nat} {o : Oper} {d : Bool} (h : all[i]? = some o) : ((all[i]?).map (isLoud P)).getD d = isLoud P o := by rw [h]; rfl

/-- The plan goes one step ahead of the world. -/
theorem advance (T : Plain P ops) {i : Nat} (I : Inv P w0 nt call ops β0 H0 s' listed pend (i :: rest) ls s β a w)
    (hn : ∀ o, ops.toList[i]? = some o → wantedA ops.toList s.e o = true → isLoud P o = false) :
    ∃ p ls1 s1, p.i = i ∧ Inv P w0 nt call ops β0 H0 s' listed (p :: pend) rest ls1 s1 β a w := by
  have hlt := I.inb i List.mem_cons_self
  obtain ⟨o, ho⟩ : ∃ o, ops[i]? = some o := ⟨_, Array.getElem?_eq_getElem hlt⟩
  have hol : ops.toList[i]? = some o := by rw [Array.getElem?_toList]; exact ho
  obtain ⟨c1, c2, c3, c4⟩ := I.chain
  have run := I.run
  simp only [adraw, hol] at run
  -- what is common
  have key : ∀ (p : PI) (ls1 : List Look) (s1 : St), p.i = i → p.o = o → p.env = s.e → putE nt s.e o.dst p.v = some s1.e → s1.d = s.d →
      (s1.h = s.h ∨ (∃ x, s1.h = s.h.push x ∧ isRowFam x = none ∧ p.k = .alloc x s.h.n ∧ recheck P 0 s1.h ls = true)) → (∀ x b, p.k = .alloc x b → s1.h = s.h.push x ∧ b = s.h.n) →
      p.ok P ops.toList β s1.h H0 → (p.k = .read → p.look ∈ ls1) → (∀ l ∈ ls, l ∈ ls1) → adraw P nt call ops.toList (masks ops.toList []) rest ls1 s1 = some s' →
      Inv P w0 nt call ops β0 H0 s' listed (p :: pend) rest ls1 s1 β a w := by
    intro p ls1 s1 hpi hpo hpe hput hd hh hal hok hlook hls hrun
    have hval : ∀ t, o.dst ≠ some t → s1.e.val t = s.e.val t := by
      intro t ht
      cases hdd : o.dst with
      | none => rw [hdd] at hput; simp only [putE, Option.some.injEq] at hput; rw [← hput]
      | some d =>
        rw [hdd] at hput ht
        simp only [putE] at hput
        split at hput
        · injection hput with hput
          rw [← hput, val_set, if_neg (fun c => ht (by rw [c]))]
        · cases hput
    have hval' : ∀ t, o.dst = some t → s1.e.val t = p.v := by
      intro t ht
      rw [ht] at hput
      simp only [putE] at hput
      split at hput
      · injection hput with hput
        rw [← hput, val_set, if_pos rfl]
      · cases hput
    have hlt' : ∀ t, o.dst = some t → t < nt := by
      intro t ht
      rw [ht] at hput
      simp only [putE] at hput
      split at hput
      · rename_i h; rw [blt_iff, decide_eq_true_iff] at h; exact h
      · cases hput
    have hq : ∀ q ∈ pend, ops[q.i]? = some q.o := fun q hq => by have := (I.ok q hq).1; rw [Array.getElem?_toList] at this; exact this
    have hne : ∀ q ∈ pend, q.i ≠ i := fun q hq c => I.disj q hq (by rw [c]; exact List.mem_cons_self)
    have hdst : ∀ q ∈ pend, ∀ t, q.o.dst = some t → o.dst ≠ some t := fun q hq' t ht => (T.write q.i q.o t i o (hq q hq') ht ho (hne q hq')).1
    have hmv : Moves P w0 β0 β H0 s1.h w := by
      rcases hh with h | ⟨x, h, hf, _⟩
      · rw [h]; exact I.moves
      · rw [h]
        refine ⟨I.moves.le, I.moves.rel.push hf, Nat.le_succ_of_le I.moves.n, fun b hb hbn => ?_⟩
        obtain ⟨h1, h2⟩ := I.moves.unm b hb hbn
        have := I.moves.n
        exact ⟨h1, by simp only [AH.push]; rw [Tr.get_set_ne _ _ (by omega)]; exact h2⟩
    refine ⟨I.size, fun j hj => ?_, I.clos, c4, fun j hj => I.inb j (List.mem_cons_of_mem _ hj), ?_, ?_, ?_, hmv, I.asz, ?_, ?_, ?_, ?_, ?_, ?_, ?_, ?_, by rw [hd]; exact I.defs, hrun⟩
    · rw [I.un j hj, List.mem_cons]
      constructor
      · rintro ((rfl | h) | ⟨q, h1, h2⟩)
        · exact .inr ⟨p, List.mem_cons_self, hpi⟩
        · exact .inl h
        · exact .inr ⟨q, List.mem_cons_of_mem _ h1, h2⟩
      · rintro (h | ⟨q, h1, h2⟩)
        · exact .inl (.inr h)
        · rcases List.mem_cons.1 h1 with rfl | h1
          · exact .inl (.inl (by rw [← h2, hpi]))
          · exact .inr ⟨q, h1, h2⟩
    · intro q h
      rcases List.mem_cons.1 h with rfl | h
      · rw [hpi]; exact c1
      · exact fun c => I.disj q h (List.mem_cons_of_mem _ c)
    · intro q h r h' hqr
      rcases List.mem_cons.1 h with hx0 | hx1 <;> rcases List.mem_cons.1 h' with hy0 | hy1
      · rw [hx0, hy0]
      · exact absurd (by rw [← hqr, hx0, hpi]) (hne r hy1)
      · exact absurd (by rw [hqr, hy0, hpi]) (hne q hx1)
      · exact I.uniq q hx1 r hy1 hqr
    · intro q h m hm
      rcases List.mem_cons.1 h with rfl | h
      · rw [hpi] at hm; exact (c2 m hm).2
      · exact fun c => I.mask q h m hm (List.mem_cons_of_mem _ c)
    · intro t ht
      rw [hval t (by rw [← hpo]; exact ht p List.mem_cons_self)]
      exact I.val t (fun q h => ht q (List.mem_cons_of_mem _ h))
    · intro q h t ht
      rcases List.mem_cons.1 h with rfl | h
      · exact hval' t (by rw [← hpo]; exact ht)
      · rw [hval t (hdst q h t ht)]; exact I.dst q h t ht
    · intro q h t ht
      rcases List.mem_cons.1 h with rfl | h
      · exact hlt' t (by rw [← hpo]; exact ht)
      · exact I.dlt q h t ht
    · intro q h t ht hc
      rcases List.mem_cons.1 h with rfl | h
      · rw [hpe]
        refine I.val t (fun r hr c => ?_)
        rw [hpo] at ht
        rcases (T.write r.i r.o t i o (hq r hr) c ho (hne r hr)).2 ht with h1 | h1
        · exact hc r (List.mem_cons_of_mem _ hr) (by rw [hpi]; exact h1) c
        · exact I.mask r hr i h1 List.mem_cons_self
      · exact I.look q h t ht (fun r hr => hc r (List.mem_cons_of_mem _ hr))
    · intro q h r h' hqr t ht
      rcases List.mem_cons.1 h with hx0 | hx1 <;> rcases List.mem_cons.1 h' with hy0 | hy1
      · rw [hx0, hy0, hpi] at hqr; exact absurd rfl (c2 i hqr).1
      · rw [hx0, hpe]; exact I.dst r hy1 t ht
      · rw [hy0, hpi] at hqr; exact absurd List.mem_cons_self (I.mask q hx1 i hqr)
      · exact I.link q hx1 r hy1 hqr t ht
    · intro q h
      rcases List.mem_cons.1 h with rfl | h
      · exact hok
      · have hk := I.ok q h
        refine ⟨hk.1, ?_⟩
        have hk2 := hk.2
        cases hqk : q.k with
        | skip => rw [hqk] at hk2; exact hk2
        | read =>
          rw [hqk] at hk2
          refine ⟨hk2.1, ?_⟩
          rcases hh with h1 | ⟨x, _, _, _, h1⟩
          · rw [h1]; exact hk2.2
          · rcases recheck_all h1 _ (I.reads q h hqk) with h2 | h2
            · simp at h2
            · exact h2
        | alloc x b =>
          rw [hqk] at hk2
          obtain ⟨h1, h2, h3, h4, h5, h6⟩ := hk2
          rcases hh with hh | ⟨y, hh, _⟩
          · rw [hh]; exact ⟨h1, h2, h3, h4, h5, h6⟩
          · rw [hh]
            exact ⟨h1, h2, Nat.lt_succ_of_lt h3, h4, by simp only [AH.push]; rw [Tr.get_set_ne _ _ (by omega)]; exact h5, h6⟩
    · intro q h r h' x y b hx hy
      have hlt : ∀ q ∈ pend, ∀ x, q.k = .alloc x b → b < s.h.n := fun q h x hx => by
        have := (I.ok q h).2; rw [hx] at this; exact this.2.2.1
      rcases List.mem_cons.1 h with hx0 | hx1 <;> rcases List.mem_cons.1 h' with hy0 | hy1
      · rw [hx0, hy0]
      · rw [hx0] at hx; have := hlt r hy1 y hy; have := (hal x b hx).2; omega
      · rw [hy0] at hy; have := hlt q hx1 x hx; have := (hal y b hy).2; omega
      · exact I.apart q hx1 r hy1 x y b hx hy
    · intro q h hk
      rcases List.mem_cons.1 h with rfl | h
      · exact hlook hk
      · exact hls _ (I.reads q h hk)
  split at run
  · rename_i hw
    have hl := hn o hol hw
    unfold isLoud at hl
    split at run
    · -- a look
      split at run
      · rename_i v hv
        split at run
        · rename_i e1 he
          exact ⟨⟨i, o, s.e, v, .read⟩, _, _, rfl, key ⟨i, o, s.e, v, .read⟩ _ ⟨e1, s.h, s.d⟩ rfl rfl rfl he rfl (.inl rfl) (fun _ _ h => by cases h) ⟨hol, hw, hv⟩ (fun _ => List.mem_cons_self) (fun l h => List.mem_cons_of_mem _ h) run⟩
        · cases run
      · cases run
    · -- new memory
      split at run
      · rename_i x f hv
        split at run
        · rename_i e1 he
          split at run
          · rename_i hre
            have hfam := (alloc_fam hv).1
            have hnone : β s.h.n = none := by
              cases h : β s.h.n with
              | none => rfl
              | some q => have := (I.moves.rel.dom _ _ h).1; omega
            refine ⟨⟨i, o, s.e, f s.h.n, .alloc x s.h.n⟩, _, _, rfl, key ⟨i, o, s.e, f s.h.n, .alloc x s.h.n⟩ ls ⟨e1, s.h.push x, s.d⟩ rfl rfl rfl he rfl (.inr ⟨x, rfl, hfam, rfl, hre⟩) (fun y b h => by cases h; exact ⟨rfl, rfl⟩) ?_ (fun h => by cases h) (fun l h => h) run⟩
            exact ⟨hol, hw, I.moves.n, Nat.lt_succ_self _, hnone, by simp [AH.push, Tr.get_set_eq], f, hv, rfl⟩
          · cases run
        · cases run
      · cases run
    · rename_i hk; rw [hk] at hl; cases hl
  · rename_i hw
    have hw : wantedA ops.toList s.e o = false := by simpa using hw
    split at run
    · rename_i e1 he
      exact ⟨⟨i, o, s.e, .tup [], .skip⟩, _, _, rfl, key ⟨i, o, s.e, .tup [], .skip⟩ ls ⟨e1, s.h, s.d⟩ rfl rfl rfl he rfl (.inl rfl) (fun _ _ h => by cases h) ⟨hol, hw, rfl⟩ (fun h => by cases h) (fun l h => h) run⟩
    · cases run

theorem set_false {i m : Nat} (h : (listed.setIfInBounds i true).getD m false = true) : m = i ∨ listed.getD m false = true := by
  by_cases c : i = m
  · exact .inl c.symm
  · rw [getD_set_ne false c] at h; exact .inr h
theorem set_true {i m : Nat} (hi : i < listed.size) : (listed.setIfInBounds i true).getD m true = false ↔ m ≠ i ∧ listed.getD m true = false := by
  by_cases c : i = m
  · subst c; simp [hi]
  · rw [getD_set_ne true c]; exact ⟨fun h => ⟨fun e => c e.symm, h⟩, fun h => h.2⟩
theorem read_select {o : Oper} {v : AV} (h : readOp P e H o.op = some v) : ∀ cs b, o.op ≠ .select cs b := fun cs b c => by rw [c] at h; cases h
theorem alloc_select {o : Oper} {v : AObj × (Nat → AV)} (h : allocOp P e o.op = some v) : ∀ cs b, o.op ≠ .select cs b := fun cs b c => by rw [c] at h; cases h
theorem loud_select {o : Oper} {v : OpR} (h : loudOp P call e H o.op = some v) : ∀ cs b, o.op ≠ .select cs b := fun cs b c => by rw [c] at h; cases h
theorem looks_ops {all : List Oper} {o : Oper} {t : Nat} (h : t ∈ operandTmps o.op) : t ∈ looks all o := List.mem_append_left _ h

/-- The world does what the plan has done. -/
theorem catchUp (T : Plain P ops) {p : PI} (I : Inv P w0 nt call ops β0 H0 s' listed pend rest ls s β a w) (hp : p ∈ pend) (hr : p.i ∈ Region.ready .any ops listed) {K : Act → World → Prop}
    (hK : ∀ β' a' w', Inv P w0 nt call ops β0 H0 s' (listed.setIfInBounds p.i true) (pend.filter fun q => q.i != p.i) rest ls s β' a' w' → K a' w') : wpOp P ops Q p.i K a w := by
  obtain ⟨hol, hk⟩ := I.ok p hp
  have ho : ops[p.i]? = some p.o := by rw [← Array.getElem?_toList]; exact hol
  have hin : p.i < listed.size := by rw [I.size]; exact (Array.getElem?_eq_some_iff.1 ho).1
  have hpl : listed.getD p.i true = false := (mem_ready.1 hr).1
  have hlook : ∀ t ∈ looks ops.toList p.o, VR β (memOf w0) (p.env.val t) (a.tmps.getD t undef) := fun t ht => I.look p hp t ht fun q hq hm => by
    have := ready_mask I hr hm
    exact absurd rfl ((not_un I this).2 q hq)
  have hwant : Region.wanted p.o (yielded ops a.tmps) = wantedA ops.toList p.env p.o := wanted_at hlook
  have E := only_rel (e := p.env) (ts := operandTmps p.o.op) I.asz (fun t ht => hlook t (looks_ops ht))
  -- what is common
  have key : ∀ β' w' v', Moves P w0 β0 β' H0 s.h w' → β.le β' → VR β' (memOf w0) p.v v' → (∀ q ∈ pend, q.i ≠ p.i → q.ok P ops.toList β' s.h H0) → K (a.put p.o.dst v') w' := by
    intro β' w' v' hmv hle hv hok
    have hq : ∀ q ∈ pend, ops[q.i]? = some q.o := fun q hq => by have := (I.ok q hq).1; rw [Array.getElem?_toList] at this; exact this
    have hasz : (a.put p.o.dst v').tmps.size = a.tmps.size := by cases p.o.dst <;> simp [Act.put]
    have hdef : (a.put p.o.dst v').defers = a.defers := by cases p.o.dst <;> rfl
    have hother : ∀ t, p.o.dst ≠ some t → (a.put p.o.dst v').tmps.getD t undef = a.tmps.getD t undef := by
      intro t ht
      cases hd : p.o.dst with
      | none => rfl
      | some d =>
        rw [hd] at ht
        have : d ≠ t := fun c => ht (by rw [c])
        simp [Act.put, Array.getD_eq_getD_getElem?, this]
    have hself : ∀ t, p.o.dst = some t → VR β' (memOf w0) p.v ((a.put p.o.dst v').tmps.getD t undef) := by
      intro t ht
      have hlt : t < a.tmps.size := Nat.lt_of_lt_of_le (I.dlt p hp t ht) I.asz
      rw [ht]
      simp [Act.put, Array.getD_eq_getD_getElem?, hlt]; exact hv
    have hmem : ∀ q, q ∈ (pend.filter fun q => q.i != p.i) ↔ q ∈ pend ∧ q.i ≠ p.i := fun q => by simp [List.mem_filter]
    refine hK β' _ w' ⟨by simpa using I.size, fun j hj => ?_, fun j m hj hm => ?_, I.chain, I.inb, fun q h => I.disj q ((hmem q).1 h).1, fun q h r h' => I.uniq q ((hmem q).1 h).1 r ((hmem r).1 h').1, fun q h => I.mask q ((hmem q).1 h).1, hmv, by rw [hasz]; exact I.asz, fun t ht => ?_, fun q h => I.dst q ((hmem q).1 h).1, fun q h => I.dlt q ((hmem q).1 h).1, fun q h t ht hc => ?_, fun q h r h' => I.link q ((hmem q).1 h).1 r ((hmem r).1 h').1, fun q h => hok q ((hmem q).1 h).1 ((hmem q).1 h).2, fun q h r h' => I.apart q ((hmem q).1 h).1 r ((hmem r).1 h').1, fun q h => I.reads q ((hmem q).1 h).1, by rw [hdef]; exact I.defs.mono hle, I.run⟩
    · rw [set_true hin, I.un j hj]
      constructor
      · rintro ⟨hne, h | ⟨q, h1, h2⟩⟩
        · exact .inl h
        · exact .inr ⟨q, (hmem q).2 ⟨h1, by rw [h2]; exact hne⟩, h2⟩
      · rintro (h | ⟨q, h1, h2⟩)
        · exact ⟨fun c => I.disj p hp (by rw [← c]; exact h), .inl h⟩
        · exact ⟨by rw [← h2]; exact ((hmem q).1 h1).2, .inr ⟨q, ((hmem q).1 h1).1, h2⟩⟩
    · rcases set_false hj with rfl | hj
      · exact getD_set_true (ready_mask I hr hm)
      · exact getD_set_true (I.clos j m hj hm)
    · by_cases c : p.o.dst = some t
      · rw [I.dst p hp t c]; exact hself t c
      · rw [hother t c]
        refine (I.val t fun q h d => ?_).mono hle
        by_cases e : q.i = p.i
        · rw [I.uniq q h p hp e] at d; exact c d
        · exact ht q ((hmem q).2 ⟨h, e⟩) d
    · obtain ⟨h1, h2⟩ := (hmem q).1 h
      by_cases c : p.o.dst = some t
      · -- it stands ahead of who looks at it
        rcases (T.write p.i p.o t q.i q.o ho c (hq q h1) (Ne.symm h2)).2 ht with h3 | h3
        · rw [I.link q h1 p hp h3 t c]; exact hself t c
        · exact absurd rfl ((not_un I (ready_mask I hr h3)).2 q h1)
      · rw [hother t c]
        refine (I.look q h1 t ht fun r hr' hm => ?_).mono hle
        by_cases e : r.i = p.i
        · rw [I.uniq r hr' p hp e]; exact c
        · exact hc r ((hmem r).2 ⟨hr', e⟩) hm
  unfold wpOp
  simp only [ho]
  rw [hwant]
  cases hkk : p.k with
  | skip =>
    rw [hkk] at hk
    rw [hk.1]
    simp only [Bool.false_eq_true, if_false]
    exact key β w undef I.moves (Bt.le_refl β) (by rw [hk.2]; exact undef_sound) (fun q h _ => I.ok q h)
  | read =>
    rw [hkk] at hk
    rw [hk.1, if_pos rfl]
    obtain ⟨v', h1, h2⟩ := readOp_sound I.moves.rel E hk.2
    rw [only_exec (read_select hk.2)] at h1
    refine .inl ?_
    unfold Oper.wp
    rw [h1, Oper.upon_value]
    exact key β w v' I.moves (Bt.le_refl β) h2 (fun q h _ => I.ok q h)
  | alloc x b =>
    rw [hkk] at hk
    obtain ⟨hw, hb0, hbn, hb, hx, f, hf, hv⟩ := hk
    rw [hw, if_pos rfl]
    obtain ⟨_, hd, v', w', pl, h1, h2, h3⟩ := allocOp_sound I.moves.rel E hf hb hbn hx
    rw [only_exec (alloc_select hf)] at h1
    refine .inl ?_
    unfold Oper.wp
    rw [h1, Oper.upon_value]
    have hle := Bt.le_upd hb pl
    refine key _ w' v' ⟨Bt.le_trans I.moves.le hle, h2, I.moves.n, fun c hc hcn => ?_⟩ hle (by rw [← hv]; exact h3) (fun q h hne => ?_)
    · obtain ⟨k1, k2⟩ := I.moves.unm c hc hcn
      exact ⟨by rw [Bt.upd_ne _ _ (by omega)]; exact k1, k2⟩
    · have hqk := I.ok q h
      refine ⟨hqk.1, ?_⟩
      have hqk2 := hqk.2
      cases hkq : q.k with
      | skip => rw [hkq] at hqk2; exact hqk2
      | read => rw [hkq] at hqk2; exact hqk2
      | alloc y c =>
        rw [hkq] at hqk2
        obtain ⟨k1, k2, k3, k4, k5, k6⟩ := hqk2
        have hcb : c ≠ b := fun e => by
          subst e
          exact hne (congrArg PI.i (I.apart q h p hp y x c hkq hkk))
        exact ⟨k1, k2, k3, by rw [Bt.upd_ne _ _ hcb]; exact k4, k5, k6⟩
end
end Go.VI
