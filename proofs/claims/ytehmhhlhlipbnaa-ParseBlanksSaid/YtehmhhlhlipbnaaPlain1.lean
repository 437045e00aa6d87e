/-
 What the reader comes to: trees, or a fault at a token; and it always comes to one.
-/
import Derived.Test.YtehmhhlhlipbnaaParse14
set_option autoImplicit false
set_option linter.unusedVariables false
set_option linter.unusedSimpArgs false
namespace Go.Proofs.Ytehmhhlhlipbnaa.Vs
open Go.VI Go.Proofs
/-- a tree -/
inductive TR where
 | mk (k a : Int) (nm : List UInt8) (n : Int) (ks : List TR)
mutual
def TR.sz : TR → Nat
 | .mk _ _ _ _ ks => szL ks + 1
def szL : List TR → Nat
 | [] => 0
 | t :: r => t.sz + szL r
end
def rootsL : Nat → List TR → List Int
 | _, [] => []
 | n, t :: r => ((n + t.sz - 1 : Nat) : Int) :: rootsL (n + t.sz) r
mutual
def TR.flat : Nat → TR → List ND
 | n, .mk k a nm m ks => flatL n ks ++ [⟨k, a, rootsL n ks, nm, m⟩]
def flatL : Nat → List TR → List ND
 | _, [] => []
 | n, t :: r => t.flat n ++ flatL (n + t.sz) r
end
theorem TR.sz_pos (t : TR) : 1 ≤ t.sz := by cases t; simp [TR.sz]
theorem szL_append : ∀ (a b : List TR), szL (a ++ b) = szL a + szL b
 | [], b => by simp [szL]
 | t :: r, b => by simp only [List.cons_append, szL, szL_append r b]; omega
theorem rootsL_append : ∀ (n : Nat) (a b : List TR), rootsL n (a ++ b) = rootsL n a ++ rootsL (n + szL a) b
 | n, [], b => by simp [szL, rootsL]
 | n, t :: r, b => by simp only [List.cons_append, szL, rootsL, rootsL_append (n + t.sz) r b, Nat.add_assoc]
theorem flatL_append : ∀ (n : Nat) (a b : List TR), flatL n (a ++ b) = flatL n a ++ flatL (n + szL a) b
 | n, [], b => by simp [szL, flatL]
 | n, t :: r, b => by simp only [List.cons_append, szL, flatL, flatL_append (n + t.sz) r b, Nat.add_assoc, List.append_assoc]
theorem szL_len : ∀ (l : List TR), l.length ≤ szL l
 | [] => by simp [szL]
 | t :: r => by have := szL_len r; have := t.sz_pos; simp only [szL, List.length_cons]; omega
theorem rootsL_len : ∀ (n : Nat) (l : List TR), (rootsL n l).length = l.length
 | _, [] => rfl
 | n, t :: r => by simp only [rootsL, List.length_cons, rootsL_len (n + t.sz) r]
mutual
theorem TR.flat_len : ∀ (n : Nat) (t : TR), (t.flat n).length = t.sz
 | n, .mk k a nm m ks => by simp only [TR.flat, TR.sz, List.length_append, List.length_singleton, flatL_len n ks]
theorem flatL_len : ∀ (n : Nat) (l : List TR), (flatL n l).length = szL l
 | _, [] => rfl
 | n, t :: r => by simp only [flatL, szL, List.length_append, t.flat_len n, flatL_len (n + t.sz) r]
end
theorem bindP_assoc {α β γ : Type} (m : PM α) (k : α → PM β) (h : β → PM γ) : bindP (bindP m k) h = bindP m fun v => bindP (k v) h := by
 funext s
 simp only [bindP]
 cases m s with
 | none => rfl
 | some r => cases r <;> rfl
theorem bindP_pure {α β : Type} (v : α) (k : α → PM β) : bindP (pureP v) k = k v := rfl
theorem nmz : (∀ {α β γ : Type} (m : PM α) (k : α → PM β) (h : β → PM γ), bindP (bindP m k) h = bindP m fun v => bindP (k v) h) ∧ (∀ {α β : Type} (v : α) (k : α → PM β), bindP (pureP v) k = k v) ∧ (∀ {α : Type} (a b : PM α), (if true = true then a else b) = a) ∧ (∀ {α : Type} (a b : PM α), (if false = true then a else b) = b) ∧ (∀ {α : Type} {_ : Decidable True} (a b : PM α), (if True then a else b) = a) ∧ (∀ {α : Type} {_ : Decidable False} (a b : PM α), (if False then a else b) = b) :=
 ⟨bindP_assoc, fun _ _ => rfl, fun _ _ => rfl, fun _ _ => rfl, fun _ _ => if_pos trivial, fun _ _ => if_neg id⟩
/-- what a reading comes to -/
def SP {α : Type} (m : PM α) (s : PS) (Q : α → PS → Prop) (E : Int → Prop) : Prop := match m s with
 | none => False
 | some (.error a) => E a
 | some (.ok r) => Q r.1 r.2
section
variable {α β : Type} {m : PM α} {s : PS} {Q Q' : α → PS → Prop} {E E' : Int → Prop}
theorem SP.mono (h : SP m s Q E) (q : ∀ v s', Q v s' → Q' v s') (e : ∀ a, E a → E' a) : SP m s Q' E' := by
 unfold SP at h ⊢
 split at h
 ·exact h.elim
 ·rename_i a hm; exact e a h
 ·rename_i r hm; exact q _ _ h
theorem SP.bind {k : α → PM β} {R : β → PS → Prop} (h : SP m s Q E') (e : ∀ a, E' a → E a) (q : ∀ v s', Q v s' → SP (k v) s' R E) : SP (bindP m k) s R E := by
 unfold SP at h
 simp only [SP, bindP]
 split at h
 ·exact h.elim
 ·rename_i a hm; rw [hm]; exact e a h
 ·rename_i r hm; rw [hm]; exact q _ _ h
theorem SP.ok (h : SP m s Q E) : m s ≠ none := by
 unfold SP at h
 intro c; rw [c] at h; exact h
end
section
variable {tx : Nat → List UInt8} {src : List UInt8} {T : List TK} {α β : Type} {s : PS} {Q : β → PS → Prop} {E : Int → Prop}
theorem SP.place {k : Int → PM β} (h : ∀ p, SP (k p) s Q E) : SP (bindP (mPlace src T) k) s Q E := h _
theorem SP.knd {k : Int → PM β} (h : SP (k (knF T s.a)) s Q E) : SP (bindP (mKnd T) k) s Q E := h
theorem SP.isq {t : List UInt8} {k : Bool → PM β} (h1 : isF tx T s.a t = true → SP (k true) s Q E) (h2 : SP (k false) s Q E) : SP (bindP (mIs tx T t) k) s Q E := by
 show SP (k (isF tx T s.a t)) s Q E
 cases hq : isF tx T s.a t
 ·exact h2
 ·exact h1 hq
theorem SP.got {t : List UInt8} {k : Bool → PM β} (h1 : isF tx T s.a t = true → s.a < T.length → ∀ s1 : PS, s1.a = s.a + 1 → s1.ns = s.ns → SP (k true) s1 Q E) (h2 : isF tx T s.a t = false → SP (k false) s Q E) : SP (bindP (mGot tx T t) k) s Q E := by
 cases hq : isF tx T s.a t
 ·simp only [SP, bindP, mGot, hq]; exact h2 hq
 ·simp only [SP, bindP, mGot, hq]; exact h1 hq (isF_lt hq) _ rfl rfl
theorem SP.fail (h : E (plF src T s.a)) : SP (mFail src T : PM β) s Q E := h
theorem SP.want {t : List UInt8} {k : Int → PM β} (h1 : isF tx T s.a t = true → s.a < T.length → ∀ p, ∀ s1 : PS, s1.a = s.a + 1 → s1.ns = s.ns → SP (k p) s1 Q E) (h2 : E (plF src T s.a)) : SP (bindP (mWant tx src T t) k) s Q E := by
 unfold mWant
 rw [bindP_assoc]
 refine SP.place fun p => ?_
 rw [bindP_assoc]
 refine SP.got (fun q h s1 ha hn => ?_) (fun _ => ?_)
 ·exact h1 q h p s1 ha hn
 ·exact h2
theorem SP.take {f : TK → α} {k : α → PM β} (h : s.a < T.length) (h1 : ∀ v, T[s.a]?.map f = some v → ∀ s1 : PS, s1.a = s.a + 1 → s1.ns = s.ns → SP (k v) s1 Q E) : SP (bindP (mTake T f) k) s Q E := by
 simp only [SP, bindP, mTake, List.getElem?_eq_getElem h]; exact h1 _ (by rw [List.getElem?_eq_getElem h]; rfl) _ rfl rfl
theorem SP.name {k : List UInt8 → PM β} (h1 : knF T s.a = 1 → s.a < T.length → ∀ v, T[s.a]?.map (tkF src) = some v → ∀ s1 : PS, s1.a = s.a + 1 → s1.ns = s.ns → SP (k v) s1 Q E) (h2 : knF T s.a ≠ 1 → E (plF src T s.a)) : SP (bindP (mName src T) k) s Q E := by
 unfold mName
 rw [bindP_assoc]
 refine SP.knd ?_
 by_cases c : knF T s.a = 1
 ·rw [if_pos c]; exact SP.take (knF_lt (by omega)) (h1 c (knF_lt (by omega)))
 ·rw [if_neg c]; exact h2 c
theorem SP.num {k : Int → PM β} (h1 : knF T s.a = 2 → s.a < T.length → ∀ v, T[s.a]?.map ((·.num)) = some v → ∀ s1 : PS, s1.a = s.a + 1 → s1.ns = s.ns → SP (k v) s1 Q E) (h2 : knF T s.a ≠ 2 → E (plF src T s.a)) : SP (bindP (mNum src T) k) s Q E := by
 unfold mNum
 rw [bindP_assoc]
 refine SP.knd ?_
 by_cases c : knF T s.a = 2
 ·rw [if_pos c]; exact SP.take (knF_lt (by omega)) (h1 c (knF_lt (by omega)))
 ·rw [if_neg c]; exact h2 c
theorem SP.opt {k : List UInt8 → PM β} (h1 : knF T s.a = 1 → s.a < T.length → ∀ v, T[s.a]?.map (tkF src) = some v → ∀ s1 : PS, s1.a = s.a + 1 → s1.ns = s.ns → SP (k v) s1 Q E) (h2 : knF T s.a ≠ 1 → SP (k []) s Q E) : SP (bindP (mOpt src T) k) s Q E := by
 unfold mOpt
 rw [bindP_assoc]
 refine SP.knd ?_
 by_cases c : knF T s.a = 1
 ·rw [if_pos c]; exact SP.name h1 (fun h => absurd c h)
 ·rw [if_neg c]; exact h2 c
theorem SP.lim {ks : List Int} {k : Unit → PM β} (h : ks.length < 1000000000) (h1 : SP (k ()) s Q E) : SP (bindP (mLim ks) k) s Q E := by
 simp only [SP, bindP, mLim, if_pos h]; exact h1
theorem SP.ops {k : Int → PM β} : ∀ (l : List (List UInt8 × Int)), (∀ p ∈ l, p.2 ≠ 0) → (∀ p ∈ l, isF tx T s.a p.1 = true → s.a < T.length → p.2 ≠ 0 → ∀ s1 : PS, s1.a = s.a + 1 → s1.ns = s.ns → SP (k p.2) s1 Q E) → ((∀ p ∈ l, isF tx T s.a p.1 = false) → SP (k 0) s Q E) → SP (bindP (mOps tx T l) k) s Q E
 | [], _, _, h2 => h2 (fun p hp => by cases hp)
 | p :: r, hl, h1, h2 => by
  simp only [mOps, bindP_assoc]
  refine SP.got (fun hq h s1 ha hn => ?_) (fun hq => ?_)
  ·simp only [↓reduceIte, bindP_pure]; exact h1 p List.mem_cons_self hq h (hl p List.mem_cons_self) s1 ha hn
  ·simp only [Bool.false_eq_true, ↓reduceIte]
   exact SP.ops r (fun q hq => hl q (List.mem_cons_of_mem _ hq)) (fun q hq => h1 q (List.mem_cons_of_mem _ hq)) (fun h => h2 (fun q hm => by
    rcases List.mem_cons.1 hm with rfl | hm
    ·exact hq
    ·exact h q hm))
theorem line_ne (lv : Int) : ∀ p ∈ lineL lv, p.2 ≠ 0 := by
 unfold lineL
 intro p hp
 repeat' split at hp
 all_goals (revert p; decide)
theorem SP.op {lv : Int} {k : Int → PM β} (h1 : ∀ p ∈ lineL lv, isF tx T s.a p.1 = true → s.a < T.length → p.2 ≠ 0 → ∀ s1 : PS, s1.a = s.a + 1 → s1.ns = s.ns → SP (k p.2) s1 Q E) (h2 : (∀ p ∈ lineL lv, isF tx T s.a p.1 = false) → SP (k 0) s Q E) : SP (bindP (mOp tx T lv) k) s Q E :=
 SP.ops _ (line_ne lv) h1 h2
/-- what has been read since: trees ts, whose nodes lie behind the base; o tokens belong to none of them -/
structure Seg (L : Nat) (base : List ND) (a0 : Nat) (s : PS) (ts : List TR) (ks : List Int) (o : Nat) : Prop where
 ns : s.ns = base ++ flatL base.length ts
 ks : ks = rootsL base.length ts
 c : a0 + szL ts + o ≤ s.a
 l : s.a ≤ L
 b : base.length ≤ a0
variable {L a0 o o' : Nat} {base : List ND} {ts ts' : List TR} {ks ks' : List Int} {s' : PS}
theorem Seg.start (h : s.ns.length ≤ s.a) (hl : s.a ≤ L) : Seg L s.ns s.a s [] [] 0 := ⟨by simp [flatL], rfl, by simp [szL], hl, h⟩
theorem Seg.pre (h : Seg L base a0 s ts ks o) : s.ns.length ≤ s.a := by
 have := h.c; have := h.b
 rw [h.ns, List.length_append, flatL_len]; omega
theorem Seg.lim (h : Seg L base a0 s ts ks o) (hL : L < 1000000000) : ks.length < 1000000000 := by
 have := h.c; have := h.l; have := szL_len ts
 rw [h.ks, rootsL_len]; omega
theorem Seg.step (h : Seg L base a0 s ts ks o) (hl : s.a < L) (ha : s'.a = s.a + 1) (hn : s'.ns = s.ns) : Seg L base a0 s' ts ks (o + 1) := ⟨by rw [hn]; exact h.ns, h.ks, by have := h.c; omega, by omega, h.b⟩
theorem Seg.join (h : Seg L base a0 s ts ks o) (h' : Seg L s.ns s.a s' ts' ks' o') : Seg L base a0 s' (ts ++ ts') (ks ++ ks') o := by
 have hn : s.ns.length = base.length + szL ts := by rw [h.ns, List.length_append, flatL_len]
 refine ⟨?_, ?_, ?_, h'.l, h.b⟩
 ·rw [h'.ns, hn, flatL_append, h.ns, List.append_assoc]
 ·rw [rootsL_append, ← h.ks, h'.ks, hn]
 ·have := h.c; have := h'.c; rw [szL_append]; omega
theorem Seg.weak (h : Seg L base a0 s ts ks o) (ho : o' ≤ o) : Seg L base a0 s ts ks o' := ⟨h.ns, h.ks, by have := h.c; omega, h.l, h.b⟩
theorem Seg.node (h : Seg L base a0 s ts ks (o + 1)) (k a n : Int) (nm : List UInt8) : Seg L base a0 ⟨s.a, s.ns ++ [⟨k, a, ks, nm, n⟩]⟩ [.mk k a nm n ts] [((s.ns.length : Nat) : Int)] o := by
 refine ⟨?_, ?_, ?_, h.l, h.b⟩
 ·show s.ns ++ _ = _
  rw [h.ns]
  simp only [flatL, TR.flat, h.ks, List.append_assoc, List.append_nil]
 ·simp only [rootsL, TR.sz, h.ns, List.length_append, flatL_len]
  congr 2
 ·have := h.c; simp only [szL, TR.sz]; show _ ≤ s.a; omega
/-- a tree has been read -/
def RN (L : Nat) (base : List ND) (a0 : Nat) (v : Int) (s : PS) : Prop := ∃ t, Seg L base a0 s [t] [v] 0
def RL (L : Nat) (base : List ND) (a0 : Nat) (vs : List Int) (s : PS) : Prop := ∃ ts, ts ≠ [] ∧ Seg L base a0 s ts vs 0
/-- a fault at a token from lo on -/
def EB (src : List UInt8) (T : List TK) (lo : Nat) (e : Int) : Prop := ∃ i, lo ≤ i ∧ i ≤ T.length ∧ e = plF src T i
theorem EB.at {lo : Nat} (h : lo ≤ s.a) (hl : s.a ≤ T.length) : EB src T lo (plF src T s.a) := ⟨s.a, h, hl, rfl⟩
theorem EB.le {lo lo' : Nat} {e : Int} (h : EB src T lo' e) (hl : lo ≤ lo') : EB src T lo e := by
 obtain ⟨i, h1, h2⟩ := h; exact ⟨i, by omega, h2⟩
theorem SP.node {k : Int → PM β} {kk a n : Int} {nm : List UInt8} (h : Seg L base a0 s ts ks (o + 1)) (hL : L < 1000000000) (h1 : ∀ (v : Int) (s1 : PS), s1.a = s.a → Seg L base a0 s1 [.mk kk a nm n ts] [v] o → SP (k v) s1 Q E) : SP (bindP (mNode kk a nm n ks) k) s Q E := by
 have hp := h.pre; have hl := h.l
 simp only [SP, bindP, mNode, if_pos (And.intro (show s.ns.length < 1000000000 by omega) (h.lim hL))]
 exact h1 _ _ rfl (h.node kk a n nm)
theorem SP.nodeE {kk a n : Int} {nm : List UInt8} (h : Seg L base a0 s ts ks (o + 1)) (hL : L < 1000000000) : SP (mNode kk a nm n ks) s (RN L base a0) E := by
 have hp := h.pre; have hl := h.l
 simp only [SP, mNode, if_pos (And.intro (show s.ns.length < 1000000000 by omega) (h.lim hL))]
 exact ⟨_, (h.node kk a n nm).weak (by omega)⟩
theorem SP.callN {m : PM Int} {k : Int → PM β} {E' : Int → Prop} (h : Seg L base a0 s ts ks o) (c : SP m s (RN L s.ns s.a) E') (e : ∀ a, E' a → E a) (h1 : ∀ (v : Int) (s1 : PS) (t : TR), Seg L base a0 s1 (ts ++ [t]) (ks ++ [v]) o → s.a < s1.a → SP (k v) s1 Q E) : SP (bindP m k) s Q E :=
 SP.bind c e fun v s1 ⟨t, q⟩ => h1 v s1 t (h.join q) (by have hc := q.c; have := t.sz_pos; simp only [szL] at hc; omega)
theorem SP.callL {m : PM (List Int)} {k : List Int → PM β} {E' : Int → Prop} (h : Seg L base a0 s ts ks o) (c : SP m s (RL L s.ns s.a) E') (e : ∀ a, E' a → E a) (h1 : ∀ (vs : List Int) (s1 : PS) (ts' : List TR), Seg L base a0 s1 (ts ++ ts') (ks ++ vs) o → s.a < s1.a → SP (k vs) s1 Q E) : SP (bindP m k) s Q E :=
 SP.bind c e fun v s1 ⟨ts', hne, q⟩ => h1 v s1 ts' (h.join q) (by
  have hc := q.c
  have : 1 ≤ szL ts' := by
   have := szL_len ts'
   cases ts' with
   | nil => exact absurd rfl hne
   | cons t r => simp only [List.length_cons] at this; omega
  omega)
def lo (T : List TK) (s : PS) : Nat := if knF T s.a = 1 then s.a + 1 else s.a
theorem lo_ge (T : List TK) (s : PS) : s.a ≤ lo T s := by unfold lo; split <;> omega
theorem lo_le (T : List TK) (s : PS) : lo T s ≤ s.a + 1 := by unfold lo; split <;> omega
theorem lo_ne {T : List TK} {s : PS} (h : ¬ knF T s.a = 1) : lo T s = s.a := by unfold lo; rw [if_neg h]
end
theorem SP.arm {β : Type} {s : PS} {Q : β → PS → Prop} {E : Int → Prop} {m : PM (List UInt8)} {c : PS → Prop} [DecidablePred c] {k : List UInt8 → PM β} (h1 : c s → SP (bindP m k) s Q E) (h2 : SP (k []) s Q E) :
  SP (bindP (fun s => if c s then m s else some (.ok ([], s))) k) s Q E := by
 by_cases h : c s
 ·have := h1 h; simp only [SP, bindP, if_pos h] at this ⊢; exact this
 ·simp only [SP, bindP, if_neg h]; exact h2
structure IHS (tx : Nat → List UInt8) (src : List UInt8) (T : List TK) (f : Nat) : Prop where
 typ : ∀ (s : PS), s.ns.length ≤ s.a → s.a ≤ T.length → 20 * (T.length - s.a) + 2 ≤ f → SP (pTyp tx src T (f) ) s (RN T.length s.ns s.a) (EB src T s.a)
 chan : ∀ (s : PS), s.ns.length ≤ s.a → s.a ≤ T.length → 20 * (T.length - s.a) + 1 ≤ f → SP (pChan tx src T (f) ) s (RN T.length s.ns s.a) (EB src T s.a)
 types : ∀ (s : PS), s.ns.length ≤ s.a → s.a ≤ T.length → 20 * (T.length - s.a) + 3 ≤ f → SP (pTypes tx src T (f) ) s (RL T.length s.ns s.a) (EB src T s.a)
 typesGo : ∀ (s : PS) (base : List ND) (a0 : Nat) (ts : List TR) (ks : List Int), ts ≠ [] → Seg T.length base a0 s ts ks 0 → 20 * (T.length - s.a) + 1 ≤ f → SP (pTypesGo tx src T (f) ks) s (RL T.length base a0) (EB src T s.a)
 res : ∀ (s : PS) (base : List ND) (a0 : Nat) (ts : List TR) (k : Int) (a : Int) (nm : List UInt8) (ks : List Int), Seg T.length base a0 s ts ks 1 → 20 * (T.length - s.a) + 2 ≤ f → SP (pRes tx src T (f) k a nm ks) s (RN T.length base a0) (EB src T s.a)
 block : ∀ (s : PS), s.ns.length ≤ s.a → s.a ≤ T.length → 20 * (T.length - s.a) + 1 ≤ f → SP (pBlock tx src T (f) ) s (RN T.length s.ns s.a) (EB src T s.a)
 blockGo : ∀ (s : PS) (base : List ND) (a0 : Nat) (ts : List TR) (a : Int) (ks : List Int), Seg T.length base a0 s ts ks 1 → 20 * (T.length - s.a) + 12 ≤ f → SP (pBlockGo tx src T (f) a ks) s (RN T.length base a0) (EB src T s.a)
 stm : ∀ (s : PS), s.ns.length ≤ s.a → s.a ≤ T.length → 20 * (T.length - s.a) + 11 ≤ f → SP (pStm tx src T (f) ) s (RN T.length s.ns s.a) (EB src T s.a)
 fork : ∀ (s : PS), s.ns.length ≤ s.a → s.a ≤ T.length → 20 * (T.length - s.a) + 1 ≤ f → SP (pFork tx src T (f) ) s (RN T.length s.ns s.a) (EB src T s.a)
 choice : ∀ (s : PS), s.ns.length ≤ s.a → s.a ≤ T.length → 20 * (T.length - s.a) + 1 ≤ f → SP (pChoice tx src T (f) ) s (RN T.length s.ns s.a) (EB src T s.a)
 choiceGo : ∀ (s : PS) (base : List ND) (a0 : Nat) (ts : List TR) (a : Int) (ks : List Int), Seg T.length base a0 s ts ks 1 → 20 * (T.length - s.a) + 2 ≤ f → SP (pChoiceGo tx src T (f) a ks) s (RN T.length base a0) (EB src T s.a)
 arm : ∀ (s : PS), s.ns.length ≤ s.a → s.a ≤ T.length → 20 * (T.length - s.a) + 1 ≤ f → SP (pArm tx src T (f) ) s (RN T.length s.ns s.a) (EB src T s.a)
 expr : ∀ (s : PS), s.ns.length ≤ s.a → s.a ≤ T.length → 20 * (T.length - s.a) + 10 ≤ f → SP (pExpr tx src T (f) ) s (RN T.length s.ns s.a) (EB src T (lo T s))
 bin : ∀ (s : PS) (lv : Int), 1 ≤ lv → lv ≤ 6 → s.ns.length ≤ s.a → s.a ≤ T.length → 20 * ((T.length : Int) - s.a) + 10 - lv ≤ (f : Nat) → SP (pBin tx src T (f) lv) s (RN T.length s.ns s.a) (EB src T (lo T s))
 binGo : ∀ (s : PS) (base : List ND) (a0 : Nat) (t : TR) (lv : Int) (e : Int), 1 ≤ lv → lv ≤ 5 → Seg T.length base a0 s [t] [e] 0 → 20 * (T.length - s.a) + 1 ≤ f → SP (pBinGo tx src T (f) lv e) s (RN T.length base a0) (EB src T s.a)
 un : ∀ (s : PS), s.ns.length ≤ s.a → s.a ≤ T.length → 20 * (T.length - s.a) + 3 ≤ f → SP (pUn tx src T (f) ) s (RN T.length s.ns s.a) (EB src T (lo T s))
 post : ∀ (s : PS), s.ns.length ≤ s.a → s.a ≤ T.length → 20 * (T.length - s.a) + 2 ≤ f → SP (pPost tx src T (f) ) s (RN T.length s.ns s.a) (EB src T (lo T s))
 postGo : ∀ (s : PS) (base : List ND) (a0 : Nat) (t : TR) (e : Int), Seg T.length base a0 s [t] [e] 0 → 20 * (T.length - s.a) + 1 ≤ f → SP (pPostGo tx src T (f) e) s (RN T.length base a0) (EB src T s.a)
 list : ∀ (s : PS) (t : List UInt8), s.ns.length ≤ s.a → s.a ≤ T.length → 20 * (T.length - s.a) + 11 ≤ f → SP (pList tx src T (f) t) s (RL T.length s.ns s.a) (EB src T s.a)
 listGo : ∀ (s : PS) (base : List ND) (a0 : Nat) (ts : List TR) (t : List UInt8) (ks : List Int), ts ≠ [] → Seg T.length base a0 s ts ks 0 → 20 * (T.length - s.a) + 1 ≤ f → SP (pListGo tx src T (f) t ks) s (RL T.length base a0) (EB src T s.a)
 prim : ∀ (s : PS), s.ns.length ≤ s.a → s.a ≤ T.length → 20 * (T.length - s.a) + 1 ≤ f → SP (pPrim tx src T (f) ) s (RN T.length s.ns s.a) (EB src T (lo T s))
 prog : ∀ (s : PS) (base : List ND) (a0 : Nat) (a : Int), Seg T.length base a0 s [] [] 1 → 20 * (T.length - s.a) + 1 ≤ f → SP (pProg tx src T (f) a) s (RN T.length base a0) (EB src T s.a)
 progGo : ∀ (s : PS) (base : List ND) (a0 : Nat) (ts : List TR) (a : Int) (nm : List UInt8) (ks : List Int), Seg T.length base a0 s ts ks 1 → 20 * (T.length - s.a) + 1 ≤ f → SP (pProgGo tx src T (f) a nm ks) s (RN T.length base a0) (EB src T s.a)
section
variable {tx : Nat → List UInt8} {src : List UInt8} {T : List TK} {f : Nat}
theorem sp_pTyp (hL : T.length ≤ 65536) (ih : IHS tx src T f) : ∀ (s : PS), s.ns.length ≤ s.a → s.a ≤ T.length → 20 * (T.length - s.a) + 2 ≤ f + 1 → SP (pTyp tx src T (f + 1) ) s (RN T.length s.ns s.a) (EB src T s.a) := by
 intro s  hp hl hf
 have h0 := Seg.start hp hl
 have lh0 := h0.l
 simp only [pTyp]
 try simp only [nmz]
 refine SP.place fun a1 => ?_
 refine SP.knd ?_
 by_cases hc2 : knF T s.a = 1
 ·simp only [if_pos hc2]
  try simp only [nmz]
  refine SP.name (fun hk3 hl3 v3 hv3 s3 ha3 hn3 => ?_) (fun hk3 => ?_)
  ·skip
   have h3 := h0.step hl3 ha3 hn3
   have lh3 := h3.l
   try simp only [nmz]
   exact SP.nodeE h3 (by omega)
  ·skip
   exact absurd hc2 hk3
 ·simp only [if_neg hc2]
  try simp only [nmz]
  refine SP.got (fun hq4 hl4 s4 ha4 hn4 => ?_) (fun hq4 => ?_)
  ·skip
   have h4 := h0.step hl4 ha4 hn4
   have lh4 := h4.l
   try simp only [nmz]
   try simp only [nmz]
   exact SP.nodeE h4 (by omega)
  ·skip
   try simp only [nmz]
   try simp only [nmz]
   refine SP.got (fun hq5 hl5 s5 ha5 hn5 => ?_) (fun hq5 => ?_)
   ·skip
    have h5 := h0.step hl5 ha5 hn5
    have lh5 := h5.l
    try simp only [nmz]
    try simp only [nmz]
    exact SP.nodeE h5 (by omega)
   ·skip
    try simp only [nmz]
    try simp only [nmz]
    refine SP.got (fun hq6 hl6 s6 ha6 hn6 => ?_) (fun hq6 => ?_)
    ·skip
     have h6 := h0.step hl6 ha6 hn6
     have lh6 := h6.l
     try simp only [nmz]
     try simp only [nmz]
     refine SP.want (fun hq7 hl7 v7 s7 ha7 hn7 => ?_) ?_
     ·skip
      have h7 := h6.step hl7 ha7 hn7
      have lh7 := h7.l
      try simp only [nmz]
      refine SP.callN h7 (ih.typ s7 h7.pre h7.l (by omega)) (fun _ h => h.le (by have := lo_ge T s7; have := lo_le T s; have := lo_ge T s; first | omega | (rw [lo_ne (by assumption)]; omega))) (fun v8 s8 t8 h8 ha8 => ?_)
      have lh8 := h8.l
      try simp only [nmz]
      exact SP.nodeE h8 (by omega)
     ·skip
      exact (EB.at (by omega) h6.l)
    ·skip
     try simp only [nmz]
     try simp only [nmz]
     refine SP.isq (fun hq => ?_) ?_
     ·skip
      try simp only [nmz]
      try simp only [nmz]
      exact (ih.chan s h0.pre h0.l (by omega)).mono (fun _ _ h => h) (fun _ h => h.le (by have := lo_ge T s; have := lo_le T s; have := lo_ge T s; first | omega | (rw [lo_ne (by assumption)]; omega)))
     ·skip
      try simp only [nmz]
      try simp only [nmz]
      refine SP.got (fun hq9 hl9 s9 ha9 hn9 => ?_) (fun hq9 => ?_)
      ·skip
       have h9 := h0.step hl9 ha9 hn9
       have lh9 := h9.l
       try simp only [nmz]
       try simp only [nmz]
       refine SP.callN h9 (ih.typ s9 h9.pre h9.l (by omega)) (fun _ h => h.le (by have := lo_ge T s9; have := lo_le T s; have := lo_ge T s; first | omega | (rw [lo_ne (by assumption)]; omega))) (fun v10 s10 t10 h10 ha10 => ?_)
       have lh10 := h10.l
       try simp only [nmz]
       refine SP.want (fun hq11 hl11 v11 s11 ha11 hn11 => ?_) ?_
       ·skip
        have h11 := h10.step hl11 ha11 hn11
        have lh11 := h11.l
        try simp only [nmz]
        refine SP.callL h11 (ih.types s11 h11.pre h11.l (by omega)) (fun _ h => h.le (by have := lo_ge T s11; have := lo_le T s; have := lo_ge T s; first | omega | (rw [lo_ne (by assumption)]; omega))) (fun v12 s12 t12 h12 ha12 => ?_)
        have lh12 := h12.l
        try simp only [nmz]
        exact SP.nodeE h12 (by omega)
       ·skip
        exact (EB.at (by omega) h10.l)
      ·skip
       try simp only [nmz]
       try simp only [nmz]
       refine SP.got (fun hq13 hl13 s13 ha13 hn13 => ?_) (fun hq13 => ?_)
       ·skip
        have h13 := h0.step hl13 ha13 hn13
        have lh13 := h13.l
        try simp only [nmz]
        try simp only [nmz]
        refine SP.want (fun hq14 hl14 v14 s14 ha14 hn14 => ?_) ?_
        ·skip
         have h14 := h13.step hl14 ha14 hn14
         have lh14 := h14.l
         try simp only [nmz]
         refine SP.got (fun hq15 hl15 s15 ha15 hn15 => ?_) (fun hq15 => ?_)
         ·skip
          have h15 := h14.step hl15 ha15 hn15
          have lh15 := h15.l
          try simp only [nmz]
          try simp only [nmz]
          try simp only [nmz]
          exact (ih.res s15 _ _ _ _ _ _ _ (h15.weak (by omega)) (by omega)).mono (fun _ _ h => h) (fun _ h => h.le (by first | omega | (have := lo_le T s; omega)))
         ·skip
          try simp only [nmz]
          try simp only [nmz]
          refine SP.callL h14 (ih.types s14 h14.pre h14.l (by omega)) (fun _ h => h.le (by have := lo_ge T s14; have := lo_le T s; have := lo_ge T s; first | omega | (rw [lo_ne (by assumption)]; omega))) (fun v16 s16 t16 h16 ha16 => ?_)
          have lh16 := h16.l
          try simp only [nmz]
          exact (ih.res s16 _ _ _ _ _ _ _ (h16.weak (by omega)) (by omega)).mono (fun _ _ h => h) (fun _ h => h.le (by first | omega | (have := lo_le T s; omega)))
        ·skip
         exact (EB.at (by omega) h13.l)
       ·skip
        try simp only [nmz]
        try simp only [nmz]
        exact SP.fail (EB.at (by omega) h0.l)
theorem sp_pChan (hL : T.length ≤ 65536) (ih : IHS tx src T f) : ∀ (s : PS), s.ns.length ≤ s.a → s.a ≤ T.length → 20 * (T.length - s.a) + 1 ≤ f + 1 → SP (pChan tx src T (f + 1) ) s (RN T.length s.ns s.a) (EB src T s.a) := by
 intro s  hp hl hf
 have h0 := Seg.start hp hl
 have lh0 := h0.l
 simp only [pChan]
 try simp only [nmz]
 refine SP.want (fun hq1 hl1 v1 s1 ha1 hn1 => ?_) ?_
 ·skip
  have h1 := h0.step hl1 ha1 hn1
  have lh1 := h1.l
  try simp only [nmz]
  refine SP.want (fun hq2 hl2 v2 s2 ha2 hn2 => ?_) ?_
  ·skip
   have h2 := h1.step hl2 ha2 hn2
   have lh2 := h2.l
   try simp only [nmz]
   refine SP.callN h2 (ih.typ s2 h2.pre h2.l (by omega)) (fun _ h => h.le (by have := lo_ge T s2; have := lo_le T s; have := lo_ge T s; first | omega | (rw [lo_ne (by assumption)]; omega))) (fun v3 s3 t3 h3 ha3 => ?_)
   have lh3 := h3.l
   try simp only [nmz]
   exact SP.nodeE h3 (by omega)
  ·skip
   exact (EB.at (by omega) h1.l)
 ·skip
  exact (EB.at (by omega) h0.l)
theorem sp_pTypes (hL : T.length ≤ 65536) (ih : IHS tx src T f) : ∀ (s : PS), s.ns.length ≤ s.a → s.a ≤ T.length → 20 * (T.length - s.a) + 3 ≤ f + 1 → SP (pTypes tx src T (f + 1) ) s (RL T.length s.ns s.a) (EB src T s.a) := by
 intro s  hp hl hf
 have h0 := Seg.start hp hl
 have lh0 := h0.l
 simp only [pTypes]
 try simp only [nmz]
 refine SP.callN h0 (ih.typ s h0.pre h0.l (by omega)) (fun _ h => h.le (by have := lo_ge T s; have := lo_le T s; have := lo_ge T s; first | omega | (rw [lo_ne (by assumption)]; omega))) (fun v1 s1 t1 h1 ha1 => ?_)
 have lh1 := h1.l
 try simp only [nmz]
 exact (ih.typesGo s1 _ _ _ _ (by simp) (h1.weak (by omega)) (by omega)).mono (fun _ _ h => h) (fun _ h => h.le (by first | omega | (have := lo_le T s; omega)))
theorem sp_pTypesGo (hL : T.length ≤ 65536) (ih : IHS tx src T f) : ∀ (s : PS) (base : List ND) (a0 : Nat) (ts : List TR) (ks : List Int), ts ≠ [] → Seg T.length base a0 s ts ks 0 → 20 * (T.length - s.a) + 1 ≤ f + 1 → SP (pTypesGo tx src T (f + 1) ks) s (RL T.length base a0) (EB src T s.a) := by
 intro s base a0 ts ks hne h0 hf
 have lh0 := h0.l
 simp only [pTypesGo]
 try simp only [nmz]
 refine SP.lim (h0.lim (by omega)) ?_
 refine SP.got (fun hq1 hl1 s1 ha1 hn1 => ?_) (fun hq1 => ?_)
 ·skip
  have h1 := h0.step hl1 ha1 hn1
  have lh1 := h1.l
  try simp only [nmz]
  try simp only [nmz]
  refine SP.callN h1 (ih.typ s1 h1.pre h1.l (by omega)) (fun _ h => h.le (by have := lo_ge T s1; have := lo_le T s; have := lo_ge T s; first | omega | (rw [lo_ne (by assumption)]; omega))) (fun v2 s2 t2 h2 ha2 => ?_)
  have lh2 := h2.l
  try simp only [nmz]
  exact (ih.typesGo s2 _ _ _ _ (by simp) (h2.weak (by omega)) (by omega)).mono (fun _ _ h => h) (fun _ h => h.le (by first | omega | (have := lo_le T s; omega)))
 ·skip
  try simp only [nmz]
  try simp only [nmz]
  refine SP.want (fun hq3 hl3 v3 s3 ha3 hn3 => ?_) ?_
  ·skip
   have h3 := h0.step hl3 ha3 hn3
   have lh3 := h3.l
   try simp only [nmz]
   exact ⟨_, hne, h3.weak (by omega)⟩
  ·skip
   exact (EB.at (by omega) h0.l)
theorem sp_pRes (hL : T.length ≤ 65536) (ih : IHS tx src T f) : ∀ (s : PS) (base : List ND) (a0 : Nat) (ts : List TR) (k : Int) (a : Int) (nm : List UInt8) (ks : List Int), Seg T.length base a0 s ts ks 1 → 20 * (T.length - s.a) + 2 ≤ f + 1 → SP (pRes tx src T (f + 1) k a nm ks) s (RN T.length base a0) (EB src T s.a) := by
 intro s base a0 ts k a nm ks h0 hf
 have lh0 := h0.l
 simp only [pRes]
 try simp only [nmz]
 refine SP.lim (h0.lim (by omega)) ?_
 refine SP.got (fun hq1 hl1 s1 ha1 hn1 => ?_) (fun hq1 => ?_)
 ·skip
  have h1 := h0.step hl1 ha1 hn1
  have lh1 := h1.l
  try simp only [nmz]
  try simp only [nmz]
  refine SP.callN h1 (ih.typ s1 h1.pre h1.l (by omega)) (fun _ h => h.le (by have := lo_ge T s1; have := lo_le T s; have := lo_ge T s; first | omega | (rw [lo_ne (by assumption)]; omega))) (fun v2 s2 t2 h2 ha2 => ?_)
  have lh2 := h2.l
  try simp only [nmz]
  try simp only [nmz]
  by_cases hc3 : k = 20
  ·simp only [if_pos hc3]
   try simp only [nmz]
   refine SP.callN h2 (ih.block s2 h2.pre h2.l (by omega)) (fun _ h => h.le (by have := lo_ge T s2; have := lo_le T s; have := lo_ge T s; first | omega | (rw [lo_ne (by assumption)]; omega))) (fun v4 s4 t4 h4 ha4 => ?_)
   have lh4 := h4.l
   try simp only [nmz]
   try simp only [nmz]
   exact SP.nodeE h4 (by omega)
  ·simp only [if_neg hc3]
   try simp only [nmz]
   try simp only [nmz]
   exact SP.nodeE h2 (by omega)
 ·skip
  try simp only [nmz]
  try simp only [nmz]
  try simp only [nmz]
  by_cases hc5 : k = 20
  ·simp only [if_pos hc5]
   try simp only [nmz]
   refine SP.callN h0 (ih.block s h0.pre h0.l (by omega)) (fun _ h => h.le (by have := lo_ge T s; have := lo_le T s; have := lo_ge T s; first | omega | (rw [lo_ne (by assumption)]; omega))) (fun v6 s6 t6 h6 ha6 => ?_)
   have lh6 := h6.l
   try simp only [nmz]
   try simp only [nmz]
   exact SP.nodeE h6 (by omega)
  ·simp only [if_neg hc5]
   try simp only [nmz]
   try simp only [nmz]
   exact SP.nodeE h0 (by omega)
theorem sp_pBlock (hL : T.length ≤ 65536) (ih : IHS tx src T f) : ∀ (s : PS), s.ns.length ≤ s.a → s.a ≤ T.length → 20 * (T.length - s.a) + 1 ≤ f + 1 → SP (pBlock tx src T (f + 1) ) s (RN T.length s.ns s.a) (EB src T s.a) := by
 intro s  hp hl hf
 have h0 := Seg.start hp hl
 have lh0 := h0.l
 simp only [pBlock]
 try simp only [nmz]
 refine SP.want (fun hq1 hl1 v1 s1 ha1 hn1 => ?_) ?_
 ·skip
  have h1 := h0.step hl1 ha1 hn1
  have lh1 := h1.l
  try simp only [nmz]
  exact (ih.blockGo s1 _ _ _ _ _ (h1.weak (by omega)) (by omega)).mono (fun _ _ h => h) (fun _ h => h.le (by first | omega | (have := lo_le T s; omega)))
 ·skip
  exact (EB.at (by omega) h0.l)
theorem sp_pBlockGo (hL : T.length ≤ 65536) (ih : IHS tx src T f) : ∀ (s : PS) (base : List ND) (a0 : Nat) (ts : List TR) (a : Int) (ks : List Int), Seg T.length base a0 s ts ks 1 → 20 * (T.length - s.a) + 12 ≤ f + 1 → SP (pBlockGo tx src T (f + 1) a ks) s (RN T.length base a0) (EB src T s.a) := by
 intro s base a0 ts a ks h0 hf
 have lh0 := h0.l
 simp only [pBlockGo]
 try simp only [nmz]
 refine SP.lim (h0.lim (by omega)) ?_
 refine SP.got (fun hq1 hl1 s1 ha1 hn1 => ?_) (fun hq1 => ?_)
 ·skip
  have h1 := h0.step hl1 ha1 hn1
  have lh1 := h1.l
  try simp only [nmz]
  try simp only [nmz]
  exact SP.nodeE h1 (by omega)
 ·skip
  try simp only [nmz]
  try simp only [nmz]
  refine SP.callN h0 (ih.stm s h0.pre h0.l (by omega)) (fun _ h => h.le (by have := lo_ge T s; have := lo_le T s; have := lo_ge T s; first | omega | (rw [lo_ne (by assumption)]; omega))) (fun v2 s2 t2 h2 ha2 => ?_)
  have lh2 := h2.l
  try simp only [nmz]
  exact (ih.blockGo s2 _ _ _ _ _ (h2.weak (by omega)) (by omega)).mono (fun _ _ h => h) (fun _ h => h.le (by first | omega | (have := lo_le T s; omega)))
theorem sp_pStm (hL : T.length ≤ 65536) (ih : IHS tx src T f) : ∀ (s : PS), s.ns.length ≤ s.a → s.a ≤ T.length → 20 * (T.length - s.a) + 11 ≤ f + 1 → SP (pStm tx src T (f + 1) ) s (RN T.length s.ns s.a) (EB src T s.a) := by
 intro s  hp hl hf
 have h0 := Seg.start hp hl
 have lh0 := h0.l
 simp only [pStm]
 try simp only [nmz]
 refine SP.place fun a1 => ?_
 refine SP.got (fun hq2 hl2 s2 ha2 hn2 => ?_) (fun hq2 => ?_)
 ·skip
  have h2 := h0.step hl2 ha2 hn2
  have lh2 := h2.l
  try simp only [nmz]
  try simp only [nmz]
  refine SP.name (fun hk3 hl3 v3 hv3 s3 ha3 hn3 => ?_) (fun hk3 => ?_)
  ·skip
   have h3 := h2.step hl3 ha3 hn3
   have lh3 := h3.l
   try simp only [nmz]
   refine SP.want (fun hq4 hl4 v4 s4 ha4 hn4 => ?_) ?_
   ·skip
    have h4 := h3.step hl4 ha4 hn4
    have lh4 := h4.l
    try simp only [nmz]
    refine SP.callN h4 (ih.expr s4 h4.pre h4.l (by omega)) (fun _ h => h.le (by have := lo_ge T s4; have := lo_le T s; have := lo_ge T s; first | omega | (rw [lo_ne (by assumption)]; omega))) (fun v5 s5 t5 h5 ha5 => ?_)
    have lh5 := h5.l
    try simp only [nmz]
    unfold mEnd
    refine SP.want (fun hq6 hl6 v6 s6 ha6 hn6 => ?_) ?_
    ·skip
     have h6 := h5.step hl6 ha6 hn6
     have lh6 := h6.l
     try simp only [nmz]
     exact SP.nodeE h6 (by omega)
    ·skip
     exact (EB.at (by omega) h5.l)
   ·skip
    exact (EB.at (by omega) h3.l)
  ·skip
   exact (EB.at (by omega) h2.l)
 ·skip
  try simp only [nmz]
  try simp only [nmz]
  refine SP.got (fun hq7 hl7 s7 ha7 hn7 => ?_) (fun hq7 => ?_)
  ·skip
   have h7 := h0.step hl7 ha7 hn7
   have lh7 := h7.l
   try simp only [nmz]
   try simp only [nmz]
   refine SP.name (fun hk8 hl8 v8 hv8 s8 ha8 hn8 => ?_) (fun hk8 => ?_)
   ·skip
    have h8 := h7.step hl8 ha8 hn8
    have lh8 := h8.l
    try simp only [nmz]
    refine SP.want (fun hq9 hl9 v9 s9 ha9 hn9 => ?_) ?_
    ·skip
     have h9 := h8.step hl9 ha9 hn9
     have lh9 := h9.l
     try simp only [nmz]
     refine SP.callN h9 (ih.typ s9 h9.pre h9.l (by omega)) (fun _ h => h.le (by have := lo_ge T s9; have := lo_le T s; have := lo_ge T s; first | omega | (rw [lo_ne (by assumption)]; omega))) (fun v10 s10 t10 h10 ha10 => ?_)
     have lh10 := h10.l
     try simp only [nmz]
     refine SP.got (fun hq11 hl11 s11 ha11 hn11 => ?_) (fun hq11 => ?_)
     ·skip
      have h11 := h10.step hl11 ha11 hn11
      have lh11 := h11.l
      try simp only [nmz]
      try simp only [nmz]
      refine SP.callN h11 (ih.expr s11 h11.pre h11.l (by omega)) (fun _ h => h.le (by have := lo_ge T s11; have := lo_le T s; have := lo_ge T s; first | omega | (rw [lo_ne (by assumption)]; omega))) (fun v12 s12 t12 h12 ha12 => ?_)
      have lh12 := h12.l
      try simp only [nmz]
      try simp only [nmz]
      unfold mEnd
      refine SP.want (fun hq13 hl13 v13 s13 ha13 hn13 => ?_) ?_
      ·skip
       have h13 := h12.step hl13 ha13 hn13
       have lh13 := h13.l
       try simp only [nmz]
       exact SP.nodeE h13 (by omega)
      ·skip
       exact (EB.at (by omega) h12.l)
     ·skip
      try simp only [nmz]
      try simp only [nmz]
      try simp only [nmz]
      unfold mEnd
      refine SP.want (fun hq14 hl14 v14 s14 ha14 hn14 => ?_) ?_
      ·skip
       have h14 := h10.step hl14 ha14 hn14
       have lh14 := h14.l
       try simp only [nmz]
       exact SP.nodeE h14 (by omega)
      ·skip
       exact (EB.at (by omega) h10.l)
    ·skip
     exact (EB.at (by omega) h8.l)
   ·skip
    exact (EB.at (by omega) h7.l)
  ·skip
   try simp only [nmz]
   try simp only [nmz]
   refine SP.isq (fun hq => ?_) ?_
   ·skip
    try simp only [nmz]
    try simp only [nmz]
    exact (ih.fork s h0.pre h0.l (by omega)).mono (fun _ _ h => h) (fun _ h => h.le (by have := lo_ge T s; have := lo_le T s; have := lo_ge T s; first | omega | (rw [lo_ne (by assumption)]; omega)))
   ·skip
    try simp only [nmz]
    try simp only [nmz]
    refine SP.got (fun hq15 hl15 s15 ha15 hn15 => ?_) (fun hq15 => ?_)
    ·skip
     have h15 := h0.step hl15 ha15 hn15
     have lh15 := h15.l
     try simp only [nmz]
     try simp only [nmz]
     refine SP.callN h15 (ih.expr s15 h15.pre h15.l (by omega)) (fun _ h => h.le (by have := lo_ge T s15; have := lo_le T s; have := lo_ge T s; first | omega | (rw [lo_ne (by assumption)]; omega))) (fun v16 s16 t16 h16 ha16 => ?_)
     have lh16 := h16.l
     try simp only [nmz]
     refine SP.callN h16 (ih.block s16 h16.pre h16.l (by omega)) (fun _ h => h.le (by have := lo_ge T s16; have := lo_le T s; have := lo_ge T s; first | omega | (rw [lo_ne (by assumption)]; omega))) (fun v17 s17 t17 h17 ha17 => ?_)
     have lh17 := h17.l
     try simp only [nmz]
     exact SP.nodeE h17 (by omega)
    ·skip
     try simp only [nmz]
     try simp only [nmz]
     refine SP.got (fun hq18 hl18 s18 ha18 hn18 => ?_) (fun hq18 => ?_)
     ·skip
      have h18 := h0.step hl18 ha18 hn18
      have lh18 := h18.l
      try simp only [nmz]
      try simp only [nmz]
      refine SP.isq (fun hq => ?_) ?_
      ·skip
       try simp only [nmz]
       try simp only [nmz]
       try simp only [nmz]
       unfold mEnd
       refine SP.want (fun hq19 hl19 v19 s19 ha19 hn19 => ?_) ?_
       ·skip
        have h19 := h18.step hl19 ha19 hn19
        have lh19 := h19.l
        try simp only [nmz]
        exact SP.nodeE h19 (by omega)
       ·skip
        exact (EB.at (by omega) h18.l)
      ·skip
       try simp only [nmz]
       try simp only [nmz]
       refine SP.callN h18 (ih.expr s18 h18.pre h18.l (by omega)) (fun _ h => h.le (by have := lo_ge T s18; have := lo_le T s; have := lo_ge T s; first | omega | (rw [lo_ne (by assumption)]; omega))) (fun v20 s20 t20 h20 ha20 => ?_)
       have lh20 := h20.l
       try simp only [nmz]
       try simp only [nmz]
       unfold mEnd
       refine SP.want (fun hq21 hl21 v21 s21 ha21 hn21 => ?_) ?_
       ·skip
        have h21 := h20.step hl21 ha21 hn21
        have lh21 := h21.l
        try simp only [nmz]
        exact SP.nodeE h21 (by omega)
       ·skip
        exact (EB.at (by omega) h20.l)
     ·skip
      try simp only [nmz]
      try simp only [nmz]
      refine SP.got (fun hq22 hl22 s22 ha22 hn22 => ?_) (fun hq22 => ?_)
      ·skip
       have h22 := h0.step hl22 ha22 hn22
       have lh22 := h22.l
       try simp only [nmz]
       try simp only [nmz]
       refine SP.callN h22 (ih.expr s22 h22.pre h22.l (by omega)) (fun _ h => h.le (by have := lo_ge T s22; have := lo_le T s; have := lo_ge T s; first | omega | (rw [lo_ne (by assumption)]; omega))) (fun v23 s23 t23 h23 ha23 => ?_)
       have lh23 := h23.l
       try simp only [nmz]
       unfold mEnd
       refine SP.want (fun hq24 hl24 v24 s24 ha24 hn24 => ?_) ?_
       ·skip
        have h24 := h23.step hl24 ha24 hn24
        have lh24 := h24.l
        try simp only [nmz]
        exact SP.nodeE h24 (by omega)
       ·skip
        exact (EB.at (by omega) h23.l)
      ·skip
       try simp only [nmz]
       try simp only [nmz]
       refine SP.isq (fun hq => ?_) ?_
       ·skip
        try simp only [nmz]
        try simp only [nmz]
        exact (ih.choice s h0.pre h0.l (by omega)).mono (fun _ _ h => h) (fun _ h => h.le (by have := lo_ge T s; have := lo_le T s; have := lo_ge T s; first | omega | (rw [lo_ne (by assumption)]; omega)))
       ·skip
        try simp only [nmz]
        try simp only [nmz]
        refine SP.isq (fun hq => ?_) ?_
        ·skip
         try simp only [nmz]
         try simp only [nmz]
         exact (ih.block s h0.pre h0.l (by omega)).mono (fun _ _ h => h) (fun _ h => h.le (by have := lo_ge T s; have := lo_le T s; have := lo_ge T s; first | omega | (rw [lo_ne (by assumption)]; omega)))
        ·skip
         try simp only [nmz]
         try simp only [nmz]
         refine SP.callN h0 (ih.expr s h0.pre h0.l (by omega)) (fun _ h => h.le (by have := lo_ge T s; have := lo_le T s; have := lo_ge T s; first | omega | (rw [lo_ne (by assumption)]; omega))) (fun v25 s25 t25 h25 ha25 => ?_)
         have lh25 := h25.l
         try simp only [nmz]
         refine SP.place fun a26 => ?_
         refine SP.got (fun hq27 hl27 s27 ha27 hn27 => ?_) (fun hq27 => ?_)
         ·skip
          have h27 := h25.step hl27 ha27 hn27
          have lh27 := h27.l
          try simp only [nmz]
          try simp only [nmz]
          refine SP.callN h27 (ih.expr s27 h27.pre h27.l (by omega)) (fun _ h => h.le (by have := lo_ge T s27; have := lo_le T s; have := lo_ge T s; first | omega | (rw [lo_ne (by assumption)]; omega))) (fun v28 s28 t28 h28 ha28 => ?_)
          have lh28 := h28.l
          try simp only [nmz]
          unfold mEnd
          refine SP.want (fun hq29 hl29 v29 s29 ha29 hn29 => ?_) ?_
          ·skip
           have h29 := h28.step hl29 ha29 hn29
           have lh29 := h29.l
           try simp only [nmz]
           exact SP.nodeE h29 (by omega)
          ·skip
           exact (EB.at (by omega) h28.l)
         ·skip
          try simp only [nmz]
          try simp only [nmz]
          refine SP.got (fun hq30 hl30 s30 ha30 hn30 => ?_) (fun hq30 => ?_)
          ·skip
           have h30 := h25.step hl30 ha30 hn30
           have lh30 := h30.l
           try simp only [nmz]
           try simp only [nmz]
           refine SP.callN h30 (ih.expr s30 h30.pre h30.l (by omega)) (fun _ h => h.le (by have := lo_ge T s30; have := lo_le T s; have := lo_ge T s; first | omega | (rw [lo_ne (by assumption)]; omega))) (fun v31 s31 t31 h31 ha31 => ?_)
           have lh31 := h31.l
           try simp only [nmz]
           unfold mEnd
           refine SP.want (fun hq32 hl32 v32 s32 ha32 hn32 => ?_) ?_
           ·skip
            have h32 := h31.step hl32 ha32 hn32
            have lh32 := h32.l
            try simp only [nmz]
            exact SP.nodeE h32 (by omega)
           ·skip
            exact (EB.at (by omega) h31.l)
          ·skip
           try simp only [nmz]
           try simp only [nmz]
           unfold mEnd
           refine SP.want (fun hq33 hl33 v33 s33 ha33 hn33 => ?_) ?_
           ·skip
            have h33 := h25.step hl33 ha33 hn33
            have lh33 := h33.l
            try simp only [nmz]
            exact SP.nodeE h33 (by omega)
           ·skip
            exact (EB.at (by omega) h25.l)
theorem sp_pFork (hL : T.length ≤ 65536) (ih : IHS tx src T f) : ∀ (s : PS), s.ns.length ≤ s.a → s.a ≤ T.length → 20 * (T.length - s.a) + 1 ≤ f + 1 → SP (pFork tx src T (f + 1) ) s (RN T.length s.ns s.a) (EB src T s.a) := by
 intro s  hp hl hf
 have h0 := Seg.start hp hl
 have lh0 := h0.l
 simp only [pFork]
 try simp only [nmz]
 refine SP.want (fun hq1 hl1 v1 s1 ha1 hn1 => ?_) ?_
 ·skip
  have h1 := h0.step hl1 ha1 hn1
  have lh1 := h1.l
  try simp only [nmz]
  refine SP.callN h1 (ih.expr s1 h1.pre h1.l (by omega)) (fun _ h => h.le (by have := lo_ge T s1; have := lo_le T s; have := lo_ge T s; first | omega | (rw [lo_ne (by assumption)]; omega))) (fun v2 s2 t2 h2 ha2 => ?_)
  have lh2 := h2.l
  try simp only [nmz]
  refine SP.callN h2 (ih.block s2 h2.pre h2.l (by omega)) (fun _ h => h.le (by have := lo_ge T s2; have := lo_le T s; have := lo_ge T s; first | omega | (rw [lo_ne (by assumption)]; omega))) (fun v3 s3 t3 h3 ha3 => ?_)
  have lh3 := h3.l
  try simp only [nmz]
  refine SP.got (fun hq4 hl4 s4 ha4 hn4 => ?_) (fun hq4 => ?_)
  ·skip
   have h4 := h3.step hl4 ha4 hn4
   have lh4 := h4.l
   try simp only [nmz]
   try simp only [nmz]
   refine SP.isq (fun hq => ?_) ?_
   ·skip
    try simp only [nmz]
    try simp only [nmz]
    refine SP.callN h4 (ih.fork s4 h4.pre h4.l (by omega)) (fun _ h => h.le (by have := lo_ge T s4; have := lo_le T s; have := lo_ge T s; first | omega | (rw [lo_ne (by assumption)]; omega))) (fun v5 s5 t5 h5 ha5 => ?_)
    have lh5 := h5.l
    try simp only [nmz]
    try simp only [nmz]
    exact SP.nodeE h5 (by omega)
   ·skip
    try simp only [nmz]
    try simp only [nmz]
    refine SP.callN h4 (ih.block s4 h4.pre h4.l (by omega)) (fun _ h => h.le (by have := lo_ge T s4; have := lo_le T s; have := lo_ge T s; first | omega | (rw [lo_ne (by assumption)]; omega))) (fun v6 s6 t6 h6 ha6 => ?_)
    have lh6 := h6.l
    try simp only [nmz]
    try simp only [nmz]
    exact SP.nodeE h6 (by omega)
  ·skip
   try simp only [nmz]
   try simp only [nmz]
   try simp only [nmz]
   exact SP.nodeE h3 (by omega)
 ·skip
  exact (EB.at (by omega) h0.l)
theorem sp_pChoice (hL : T.length ≤ 65536) (ih : IHS tx src T f) : ∀ (s : PS), s.ns.length ≤ s.a → s.a ≤ T.length → 20 * (T.length - s.a) + 1 ≤ f + 1 → SP (pChoice tx src T (f + 1) ) s (RN T.length s.ns s.a) (EB src T s.a) := by
 intro s  hp hl hf
 have h0 := Seg.start hp hl
 have lh0 := h0.l
 simp only [pChoice]
 try simp only [nmz]
 refine SP.want (fun hq1 hl1 v1 s1 ha1 hn1 => ?_) ?_
 ·skip
  have h1 := h0.step hl1 ha1 hn1
  have lh1 := h1.l
  try simp only [nmz]
  refine SP.want (fun hq2 hl2 v2 s2 ha2 hn2 => ?_) ?_
  ·skip
   have h2 := h1.step hl2 ha2 hn2
   have lh2 := h2.l
   try simp only [nmz]
   exact (ih.choiceGo s2 _ _ _ _ _ (h2.weak (by omega)) (by omega)).mono (fun _ _ h => h) (fun _ h => h.le (by first | omega | (have := lo_le T s; omega)))
  ·skip
   exact (EB.at (by omega) h1.l)
 ·skip
  exact (EB.at (by omega) h0.l)
theorem sp_pChoiceGo (hL : T.length ≤ 65536) (ih : IHS tx src T f) : ∀ (s : PS) (base : List ND) (a0 : Nat) (ts : List TR) (a : Int) (ks : List Int), Seg T.length base a0 s ts ks 1 → 20 * (T.length - s.a) + 2 ≤ f + 1 → SP (pChoiceGo tx src T (f + 1) a ks) s (RN T.length base a0) (EB src T s.a) := by
 intro s base a0 ts a ks h0 hf
 have lh0 := h0.l
 simp only [pChoiceGo]
 try simp only [nmz]
 refine SP.lim (h0.lim (by omega)) ?_
 refine SP.got (fun hq1 hl1 s1 ha1 hn1 => ?_) (fun hq1 => ?_)
 ·skip
  have h1 := h0.step hl1 ha1 hn1
  have lh1 := h1.l
  try simp only [nmz]
  try simp only [nmz]
  exact SP.nodeE h1 (by omega)
 ·skip
  try simp only [nmz]
  try simp only [nmz]
  refine SP.callN h0 (ih.arm s h0.pre h0.l (by omega)) (fun _ h => h.le (by have := lo_ge T s; have := lo_le T s; have := lo_ge T s; first | omega | (rw [lo_ne (by assumption)]; omega))) (fun v2 s2 t2 h2 ha2 => ?_)
  have lh2 := h2.l
  try simp only [nmz]
  exact (ih.choiceGo s2 _ _ _ _ _ (h2.weak (by omega)) (by omega)).mono (fun _ _ h => h) (fun _ h => h.le (by first | omega | (have := lo_le T s; omega)))
theorem sp_pArm (hL : T.length ≤ 65536) (ih : IHS tx src T f) : ∀ (s : PS), s.ns.length ≤ s.a → s.a ≤ T.length → 20 * (T.length - s.a) + 1 ≤ f + 1 → SP (pArm tx src T (f + 1) ) s (RN T.length s.ns s.a) (EB src T s.a) := by
 intro s  hp hl hf
 have h0 := Seg.start hp hl
 have lh0 := h0.l
 simp only [pArm]
 try simp only [nmz]
 refine SP.want (fun hq1 hl1 v1 s1 ha1 hn1 => ?_) ?_
 ·skip
  have h1 := h0.step hl1 ha1 hn1
  have lh1 := h1.l
  try simp only [nmz]
  refine SP.arm (fun hk2 => ?_) ?_
  ·skip
   try simp only [nmz]
   refine SP.name (fun hk3 hl3 v3 hv3 s3 ha3 hn3 => ?_) (fun hk3 => ?_)
   ·skip
    have h3 := h1.step hl3 ha3 hn3
    have lh3 := h3.l
    try simp only [nmz]
    refine SP.want (fun hq4 hl4 v4 s4 ha4 hn4 => ?_) ?_
    ·skip
     have h4 := h3.step hl4 ha4 hn4
     have lh4 := h4.l
     try simp only [nmz]
     refine SP.isq (fun hq => ?_) ?_
     ·skip
      try simp only [nmz]
      try simp only [nmz]
      try simp only [nmz]
      refine SP.got (fun hq5 hl5 s5 ha5 hn5 => ?_) (fun hq5 => ?_)
      ·skip
       have h5 := h4.step hl5 ha5 hn5
       have lh5 := h5.l
       try simp only [nmz]
       try simp only [nmz]
       refine SP.callN h5 (ih.un s5 h5.pre h5.l (by omega)) (fun _ h => h.le (by have := lo_ge T s5; have := lo_le T s; have := lo_ge T s; first | omega | (rw [lo_ne (by assumption)]; omega))) (fun v6 s6 t6 h6 ha6 => ?_)
       have lh6 := h6.l
       try simp only [nmz]
       refine SP.callN h6 (ih.block s6 h6.pre h6.l (by omega)) (fun _ h => h.le (by have := lo_ge T s6; have := lo_le T s; have := lo_ge T s; first | omega | (rw [lo_ne (by assumption)]; omega))) (fun v7 s7 t7 h7 ha7 => ?_)
       have lh7 := h7.l
       try simp only [nmz]
       exact SP.nodeE h7 (by omega)
      ·skip
       try simp only [nmz]
       try simp only [nmz]
       refine SP.callN h4 (ih.expr s4 h4.pre h4.l (by omega)) (fun _ h => h.le (by have := lo_ge T s4; have := lo_le T s; have := lo_ge T s; first | omega | (rw [lo_ne (by assumption)]; omega))) (fun v8 s8 t8 h8 ha8 => ?_)
       have lh8 := h8.l
       try simp only [nmz]
       refine SP.want (fun hq9 hl9 v9 s9 ha9 hn9 => ?_) ?_
       ·skip
        have h9 := h8.step hl9 ha9 hn9
        have lh9 := h9.l
        try simp only [nmz]
        refine SP.callN h9 (ih.expr s9 h9.pre h9.l (by omega)) (fun _ h => h.le (by have := lo_ge T s9; have := lo_le T s; have := lo_ge T s; first | omega | (rw [lo_ne (by assumption)]; omega))) (fun v10 s10 t10 h10 ha10 => ?_)
        have lh10 := h10.l
        try simp only [nmz]
        refine SP.callN h10 (ih.block s10 h10.pre h10.l (by omega)) (fun _ h => h.le (by have := lo_ge T s10; have := lo_le T s; have := lo_ge T s; first | omega | (rw [lo_ne (by assumption)]; omega))) (fun v11 s11 t11 h11 ha11 => ?_)
        have lh11 := h11.l
        try simp only [nmz]
        exact SP.nodeE h11 (by omega)
       ·skip
        exact (EB.at (by omega) h8.l)
     ·skip
      try simp only [nmz]
      try simp only [nmz]
      exact SP.fail (EB.at (by omega) h4.l)
    ·skip
     exact (EB.at (by omega) h3.l)
   ·skip
    exact (EB.at (by omega) h1.l)
  ·skip
   try simp only [nmz]
   refine SP.got (fun hq12 hl12 s12 ha12 hn12 => ?_) (fun hq12 => ?_)
   ·skip
    have h12 := h1.step hl12 ha12 hn12
    have lh12 := h12.l
    try simp only [nmz]
    try simp only [nmz]
    refine SP.callN h12 (ih.un s12 h12.pre h12.l (by omega)) (fun _ h => h.le (by have := lo_ge T s12; have := lo_le T s; have := lo_ge T s; first | omega | (rw [lo_ne (by assumption)]; omega))) (fun v13 s13 t13 h13 ha13 => ?_)
    have lh13 := h13.l
    try simp only [nmz]
    refine SP.callN h13 (ih.block s13 h13.pre h13.l (by omega)) (fun _ h => h.le (by have := lo_ge T s13; have := lo_le T s; have := lo_ge T s; first | omega | (rw [lo_ne (by assumption)]; omega))) (fun v14 s14 t14 h14 ha14 => ?_)
    have lh14 := h14.l
    try simp only [nmz]
    exact SP.nodeE h14 (by omega)
   ·skip
    try simp only [nmz]
    try simp only [nmz]
    refine SP.callN h1 (ih.expr s1 h1.pre h1.l (by omega)) (fun _ h => h.le (by have := lo_ge T s1; have := lo_le T s; have := lo_ge T s; first | omega | (rw [lo_ne (by assumption)]; omega))) (fun v15 s15 t15 h15 ha15 => ?_)
    have lh15 := h15.l
    try simp only [nmz]
    refine SP.want (fun hq16 hl16 v16 s16 ha16 hn16 => ?_) ?_
    ·skip
     have h16 := h15.step hl16 ha16 hn16
     have lh16 := h16.l
     try simp only [nmz]
     refine SP.callN h16 (ih.expr s16 h16.pre h16.l (by omega)) (fun _ h => h.le (by have := lo_ge T s16; have := lo_le T s; have := lo_ge T s; first | omega | (rw [lo_ne (by assumption)]; omega))) (fun v17 s17 t17 h17 ha17 => ?_)
     have lh17 := h17.l
     try simp only [nmz]
     refine SP.callN h17 (ih.block s17 h17.pre h17.l (by omega)) (fun _ h => h.le (by have := lo_ge T s17; have := lo_le T s; have := lo_ge T s; first | omega | (rw [lo_ne (by assumption)]; omega))) (fun v18 s18 t18 h18 ha18 => ?_)
     have lh18 := h18.l
     try simp only [nmz]
     exact SP.nodeE h18 (by omega)
    ·skip
     exact (EB.at (by omega) h15.l)
 ·skip
  exact (EB.at (by omega) h0.l)
theorem sp_pExpr (hL : T.length ≤ 65536) (ih : IHS tx src T f) : ∀ (s : PS), s.ns.length ≤ s.a → s.a ≤ T.length → 20 * (T.length - s.a) + 10 ≤ f + 1 → SP (pExpr tx src T (f + 1) ) s (RN T.length s.ns s.a) (EB src T (lo T s)) := by
 intro s  hp hl hf
 have h0 := Seg.start hp hl
 have lh0 := h0.l
 simp only [pExpr]
 try simp only [nmz]
 exact (ih.bin s (1) (by omega) (by omega) h0.pre h0.l (by omega)).mono (fun _ _ h => h) (fun _ h => h.le (by have := lo_ge T s; have := lo_le T s; have := lo_ge T s; first | omega | (rw [lo_ne (by assumption)]; omega)))
theorem sp_pBin (hL : T.length ≤ 65536) (ih : IHS tx src T f) : ∀ (s : PS) (lv : Int), 1 ≤ lv → lv ≤ 6 → s.ns.length ≤ s.a → s.a ≤ T.length → 20 * ((T.length : Int) - s.a) + 10 - lv ≤ (f + 1 : Nat) → SP (pBin tx src T (f + 1) lv) s (RN T.length s.ns s.a) (EB src T (lo T s)) := by
 intro s lv hlv1 hlv2 hp hl hf
 have h0 := Seg.start hp hl
 have lh0 := h0.l
 simp only [pBin]
 try simp only [nmz]
 by_cases hc1 : 5 < lv
 ·simp only [if_pos hc1]
  try simp only [nmz]
  exact (ih.un s h0.pre h0.l (by omega)).mono (fun _ _ h => h) (fun _ h => h.le (by have := lo_ge T s; have := lo_le T s; have := lo_ge T s; first | omega | (rw [lo_ne (by assumption)]; omega)))
 ·simp only [if_neg hc1]
  try simp only [nmz]
  refine SP.callN h0 (ih.bin s ((lv + 1)) (by omega) (by omega) h0.pre h0.l (by omega)) (fun _ h => h.le (by have := lo_ge T s; have := lo_le T s; have := lo_ge T s; first | omega | (rw [lo_ne (by assumption)]; omega))) (fun v2 s2 t2 h2 ha2 => ?_)
  have lh2 := h2.l
  try simp only [nmz]
  exact (ih.binGo s2 _ _ _ _ _ (by omega) (by omega) (h2.weak (by omega)) (by omega)).mono (fun _ _ h => h) (fun _ h => h.le (by first | omega | (have := lo_le T s; omega)))
theorem sp_pBinGo (hL : T.length ≤ 65536) (ih : IHS tx src T f) : ∀ (s : PS) (base : List ND) (a0 : Nat) (t : TR) (lv : Int) (e : Int), 1 ≤ lv → lv ≤ 5 → Seg T.length base a0 s [t] [e] 0 → 20 * (T.length - s.a) + 1 ≤ f + 1 → SP (pBinGo tx src T (f + 1) lv e) s (RN T.length base a0) (EB src T s.a) := by
 intro s base a0 t0 lv e hlv1 hlv2 h0 hf
 have lh0 := h0.l
 simp only [pBinGo]
 try simp only [nmz]
 refine SP.place fun a1 => ?_
 refine SP.op (fun p2 hp2 hq2 hl2 hz2 s2 ha2 hn2 => ?_) (fun hz2 => ?_)
 ·skip
  have h2 := h0.step hl2 ha2 hn2
  have lh2 := h2.l
  simp only [if_neg hz2, if_pos (show p2.2 ≠ 0 from hz2)]
  try simp only [nmz]
  refine SP.callN h2 (ih.bin s2 ((lv + 1)) (by omega) (by omega) h2.pre h2.l (by omega)) (fun _ h => h.le (by have := lo_ge T s2; have := lo_le T s; have := lo_ge T s; first | omega | (rw [lo_ne (by assumption)]; omega))) (fun v3 s3 t3 h3 ha3 => ?_)
  have lh3 := h3.l
  try simp only [nmz]
  refine SP.node h3 (by omega) (fun v4 s4 ha4 h4 => ?_)
  have lh4 := h4.l
  try simp only [nmz]
  by_cases hc5 : lv = 3
  ·simp only [if_pos hc5]
   try simp only [nmz]
   exact ⟨_, h4.weak (by omega)⟩
  ·simp only [if_neg hc5]
   try simp only [nmz]
   exact (ih.binGo s4 _ _ _ _ _ (by omega) (by omega) (h4.weak (by omega)) (by omega)).mono (fun _ _ h => h) (fun _ h => h.le (by first | omega | (have := lo_le T s; omega)))
 ·skip
  simp only [↓reduceIte, ne_eq, not_true_eq_false]
  try simp only [nmz]
  exact ⟨_, h0.weak (by omega)⟩
theorem sp_pUn (hL : T.length ≤ 65536) (ih : IHS tx src T f) : ∀ (s : PS), s.ns.length ≤ s.a → s.a ≤ T.length → 20 * (T.length - s.a) + 3 ≤ f + 1 → SP (pUn tx src T (f + 1) ) s (RN T.length s.ns s.a) (EB src T (lo T s)) := by
 intro s  hp hl hf
 have h0 := Seg.start hp hl
 have lh0 := h0.l
 simp only [pUn]
 try simp only [nmz]
 refine SP.place fun a1 => ?_
 refine SP.op (fun p2 hp2 hq2 hl2 hz2 s2 ha2 hn2 => ?_) (fun hz2 => ?_)
 ·skip
  have h2 := h0.step hl2 ha2 hn2
  have lh2 := h2.l
  simp only [if_neg hz2, if_pos (show p2.2 ≠ 0 from hz2)]
  try simp only [nmz]
  refine SP.callN h2 (ih.un s2 h2.pre h2.l (by omega)) (fun _ h => h.le (by have := lo_ge T s2; have := lo_le T s; have := lo_ge T s; first | omega | (rw [lo_ne (by assumption)]; omega))) (fun v3 s3 t3 h3 ha3 => ?_)
  have lh3 := h3.l
  try simp only [nmz]
  exact SP.nodeE h3 (by omega)
 ·skip
  simp only [↓reduceIte, ne_eq, not_true_eq_false]
  try simp only [nmz]
  exact (ih.post s h0.pre h0.l (by omega)).mono (fun _ _ h => h) (fun _ h => h.le (by have := lo_ge T s; have := lo_le T s; have := lo_ge T s; first | omega | (rw [lo_ne (by assumption)]; omega)))
theorem sp_pPost (hL : T.length ≤ 65536) (ih : IHS tx src T f) : ∀ (s : PS), s.ns.length ≤ s.a → s.a ≤ T.length → 20 * (T.length - s.a) + 2 ≤ f + 1 → SP (pPost tx src T (f + 1) ) s (RN T.length s.ns s.a) (EB src T (lo T s)) := by
 intro s  hp hl hf
 have h0 := Seg.start hp hl
 have lh0 := h0.l
 simp only [pPost]
 try simp only [nmz]
 refine SP.callN h0 (ih.prim s h0.pre h0.l (by omega)) (fun _ h => h.le (by have := lo_ge T s; have := lo_le T s; have := lo_ge T s; first | omega | (rw [lo_ne (by assumption)]; omega))) (fun v1 s1 t1 h1 ha1 => ?_)
 have lh1 := h1.l
 try simp only [nmz]
 exact (ih.postGo s1 _ _ _ _ (h1.weak (by omega)) (by omega)).mono (fun _ _ h => h) (fun _ h => h.le (by first | omega | (have := lo_le T s; omega)))
theorem sp_pPostGo (hL : T.length ≤ 65536) (ih : IHS tx src T f) : ∀ (s : PS) (base : List ND) (a0 : Nat) (t : TR) (e : Int), Seg T.length base a0 s [t] [e] 0 → 20 * (T.length - s.a) + 1 ≤ f + 1 → SP (pPostGo tx src T (f + 1) e) s (RN T.length base a0) (EB src T s.a) := by
 intro s base a0 t0 e h0 hf
 have lh0 := h0.l
 simp only [pPostGo]
 try simp only [nmz]
 refine SP.place fun a1 => ?_
 refine SP.got (fun hq2 hl2 s2 ha2 hn2 => ?_) (fun hq2 => ?_)
 ·skip
  have h2 := h0.step hl2 ha2 hn2
  have lh2 := h2.l
  try simp only [nmz]
  try simp only [nmz]
  refine SP.got (fun hq3 hl3 s3 ha3 hn3 => ?_) (fun hq3 => ?_)
  ·skip
   have h3 := h2.step hl3 ha3 hn3
   have lh3 := h3.l
   try simp only [nmz]
   try simp only [nmz]
   try simp only [nmz]
   refine SP.node h3 (by omega) (fun v4 s4 ha4 h4 => ?_)
   have lh4 := h4.l
   try simp only [nmz]
   exact (ih.postGo s4 _ _ _ _ (h4.weak (by omega)) (by omega)).mono (fun _ _ h => h) (fun _ h => h.le (by first | omega | (have := lo_le T s; omega)))
  ·skip
   try simp only [nmz]
   try simp only [nmz]
   refine SP.callL h2 (ih.list s2 _ h2.pre h2.l (by omega)) (fun _ h => h.le (by have := lo_ge T s2; have := lo_le T s; have := lo_ge T s; first | omega | (rw [lo_ne (by assumption)]; omega))) (fun v5 s5 t5 h5 ha5 => ?_)
   have lh5 := h5.l
   try simp only [nmz]
   try simp only [nmz]
   refine SP.node h5 (by omega) (fun v6 s6 ha6 h6 => ?_)
   have lh6 := h6.l
   try simp only [nmz]
   exact (ih.postGo s6 _ _ _ _ (h6.weak (by omega)) (by omega)).mono (fun _ _ h => h) (fun _ h => h.le (by first | omega | (have := lo_le T s; omega)))
 ·skip
  try simp only [nmz]
  try simp only [nmz]
  refine SP.got (fun hq7 hl7 s7 ha7 hn7 => ?_) (fun hq7 => ?_)
  ·skip
   have h7 := h0.step hl7 ha7 hn7
   have lh7 := h7.l
   try simp only [nmz]
   try simp only [nmz]
   refine SP.callN h7 (ih.expr s7 h7.pre h7.l (by omega)) (fun _ h => h.le (by have := lo_ge T s7; have := lo_le T s; have := lo_ge T s; first | omega | (rw [lo_ne (by assumption)]; omega))) (fun v8 s8 t8 h8 ha8 => ?_)
   have lh8 := h8.l
   try simp only [nmz]
   refine SP.want (fun hq9 hl9 v9 s9 ha9 hn9 => ?_) ?_
   ·skip
    have h9 := h8.step hl9 ha9 hn9
    have lh9 := h9.l
    try simp only [nmz]
    refine SP.node h9 (by omega) (fun v10 s10 ha10 h10 => ?_)
    have lh10 := h10.l
    try simp only [nmz]
    exact (ih.postGo s10 _ _ _ _ (h10.weak (by omega)) (by omega)).mono (fun _ _ h => h) (fun _ h => h.le (by first | omega | (have := lo_le T s; omega)))
   ·skip
    exact (EB.at (by omega) h8.l)
  ·skip
   try simp only [nmz]
   try simp only [nmz]
   refine SP.got (fun hq11 hl11 s11 ha11 hn11 => ?_) (fun hq11 => ?_)
   ·skip
    have h11 := h0.step hl11 ha11 hn11
    have lh11 := h11.l
    try simp only [nmz]
    try simp only [nmz]
    refine SP.num (fun hk12 hl12 v12 hv12 s12 ha12 hn12 => ?_) (fun hk12 => ?_)
    ·skip
     have h12 := h11.step hl12 ha12 hn12
     have lh12 := h12.l
     try simp only [nmz]
     refine SP.node h12 (by omega) (fun v13 s13 ha13 h13 => ?_)
     have lh13 := h13.l
     try simp only [nmz]
     exact (ih.postGo s13 _ _ _ _ (h13.weak (by omega)) (by omega)).mono (fun _ _ h => h) (fun _ h => h.le (by first | omega | (have := lo_le T s; omega)))
    ·skip
     exact (EB.at (by omega) h11.l)
   ·skip
    try simp only [nmz]
    try simp only [nmz]
    exact ⟨_, h0.weak (by omega)⟩
theorem sp_pList (hL : T.length ≤ 65536) (ih : IHS tx src T f) : ∀ (s : PS) (t : List UInt8), s.ns.length ≤ s.a → s.a ≤ T.length → 20 * (T.length - s.a) + 11 ≤ f + 1 → SP (pList tx src T (f + 1) t) s (RL T.length s.ns s.a) (EB src T s.a) := by
 intro s t hp hl hf
 have h0 := Seg.start hp hl
 have lh0 := h0.l
 simp only [pList]
 try simp only [nmz]
 refine SP.callN h0 (ih.expr s h0.pre h0.l (by omega)) (fun _ h => h.le (by have := lo_ge T s; have := lo_le T s; have := lo_ge T s; first | omega | (rw [lo_ne (by assumption)]; omega))) (fun v1 s1 t1 h1 ha1 => ?_)
 have lh1 := h1.l
 try simp only [nmz]
 exact (ih.listGo s1 _ _ _ _ _ (by simp) (h1.weak (by omega)) (by omega)).mono (fun _ _ h => h) (fun _ h => h.le (by first | omega | (have := lo_le T s; omega)))
theorem sp_pListGo (hL : T.length ≤ 65536) (ih : IHS tx src T f) : ∀ (s : PS) (base : List ND) (a0 : Nat) (ts : List TR) (t : List UInt8) (ks : List Int), ts ≠ [] → Seg T.length base a0 s ts ks 0 → 20 * (T.length - s.a) + 1 ≤ f + 1 → SP (pListGo tx src T (f + 1) t ks) s (RL T.length base a0) (EB src T s.a) := by
 intro s base a0 ts t ks hne h0 hf
 have lh0 := h0.l
 simp only [pListGo]
 try simp only [nmz]
 refine SP.lim (h0.lim (by omega)) ?_
 refine SP.got (fun hq1 hl1 s1 ha1 hn1 => ?_) (fun hq1 => ?_)
 ·skip
  have h1 := h0.step hl1 ha1 hn1
  have lh1 := h1.l
  try simp only [nmz]
  try simp only [nmz]
  refine SP.callN h1 (ih.expr s1 h1.pre h1.l (by omega)) (fun _ h => h.le (by have := lo_ge T s1; have := lo_le T s; have := lo_ge T s; first | omega | (rw [lo_ne (by assumption)]; omega))) (fun v2 s2 t2 h2 ha2 => ?_)
  have lh2 := h2.l
  try simp only [nmz]
  exact (ih.listGo s2 _ _ _ _ _ (by simp) (h2.weak (by omega)) (by omega)).mono (fun _ _ h => h) (fun _ h => h.le (by first | omega | (have := lo_le T s; omega)))
 ·skip
  try simp only [nmz]
  try simp only [nmz]
  refine SP.want (fun hq3 hl3 v3 s3 ha3 hn3 => ?_) ?_
  ·skip
   have h3 := h0.step hl3 ha3 hn3
   have lh3 := h3.l
   try simp only [nmz]
   exact ⟨_, hne, h3.weak (by omega)⟩
  ·skip
   exact (EB.at (by omega) h0.l)
theorem sp_pPrim (hL : T.length ≤ 65536) (ih : IHS tx src T f) : ∀ (s : PS), s.ns.length ≤ s.a → s.a ≤ T.length → 20 * (T.length - s.a) + 1 ≤ f + 1 → SP (pPrim tx src T (f + 1) ) s (RN T.length s.ns s.a) (EB src T (lo T s)) := by
 intro s  hp hl hf
 have h0 := Seg.start hp hl
 have lh0 := h0.l
 simp only [pPrim]
 try simp only [nmz]
 refine SP.place fun a1 => ?_
 refine SP.knd ?_
 by_cases hc2 : knF T s.a = 2
 ·simp only [if_pos hc2]
  try simp only [nmz]
  refine SP.num (fun hk3 hl3 v3 hv3 s3 ha3 hn3 => ?_) (fun hk3 => ?_)
  ·skip
   have h3 := h0.step hl3 ha3 hn3
   have lh3 := h3.l
   try simp only [nmz]
   exact SP.nodeE h3 (by omega)
  ·skip
   exact absurd hc2 hk3
 ·simp only [if_neg hc2]
  try simp only [nmz]
  by_cases hc4 : knF T s.a = 1
  ·simp only [if_pos hc4]
   try simp only [nmz]
   refine SP.name (fun hk5 hl5 v5 hv5 s5 ha5 hn5 => ?_) (fun hk5 => ?_)
   ·skip
    have h5 := h0.step hl5 ha5 hn5
    have lh5 := h5.l
    try simp only [nmz]
    exact SP.nodeE h5 (by omega)
   ·skip
    exact absurd hc4 hk5
  ·simp only [if_neg hc4]
   try simp only [nmz]
   refine SP.got (fun hq6 hl6 s6 ha6 hn6 => ?_) (fun hq6 => ?_)
   ·skip
    have h6 := h0.step hl6 ha6 hn6
    have lh6 := h6.l
    try simp only [nmz]
    try simp only [nmz]
    exact SP.nodeE h6 (by omega)
   ·skip
    try simp only [nmz]
    try simp only [nmz]
    refine SP.got (fun hq7 hl7 s7 ha7 hn7 => ?_) (fun hq7 => ?_)
    ·skip
     have h7 := h0.step hl7 ha7 hn7
     have lh7 := h7.l
     try simp only [nmz]
     try simp only [nmz]
     exact SP.nodeE h7 (by omega)
    ·skip
     try simp only [nmz]
     try simp only [nmz]
     refine SP.got (fun hq8 hl8 s8 ha8 hn8 => ?_) (fun hq8 => ?_)
     ·skip
      have h8 := h0.step hl8 ha8 hn8
      have lh8 := h8.l
      try simp only [nmz]
      try simp only [nmz]
      refine SP.callL h8 (ih.list s8 _ h8.pre h8.l (by omega)) (fun _ h => h.le (by have := lo_ge T s8; have := lo_le T s; have := lo_ge T s; first | omega | (rw [lo_ne (by assumption)]; omega))) (fun v9 s9 t9 h9 ha9 => ?_)
      have lh9 := h9.l
      try simp only [nmz]
      by_cases hc10 : (v9.length : Int) = 1
      ·simp only [if_pos hc10]
       try simp only [nmz]
       exact SP.nodeE h9 (by omega)
      ·simp only [if_neg hc10]
       try simp only [nmz]
       exact SP.nodeE h9 (by omega)
     ·skip
      try simp only [nmz]
      try simp only [nmz]
      refine SP.got (fun hq11 hl11 s11 ha11 hn11 => ?_) (fun hq11 => ?_)
      ·skip
       have h11 := h0.step hl11 ha11 hn11
       have lh11 := h11.l
       try simp only [nmz]
       try simp only [nmz]
       refine SP.callL h11 (ih.list s11 _ h11.pre h11.l (by omega)) (fun _ h => h.le (by have := lo_ge T s11; have := lo_le T s; have := lo_ge T s; first | omega | (rw [lo_ne (by assumption)]; omega))) (fun v12 s12 t12 h12 ha12 => ?_)
       have lh12 := h12.l
       try simp only [nmz]
       exact SP.nodeE h12 (by omega)
      ·skip
       try simp only [nmz]
       try simp only [nmz]
       refine SP.got (fun hq13 hl13 s13 ha13 hn13 => ?_) (fun hq13 => ?_)
       ·skip
        have h13 := h0.step hl13 ha13 hn13
        have lh13 := h13.l
        try simp only [nmz]
        try simp only [nmz]
        refine SP.want (fun hq14 hl14 v14 s14 ha14 hn14 => ?_) ?_
        ·skip
         have h14 := h13.step hl14 ha14 hn14
         have lh14 := h14.l
         try simp only [nmz]
         refine SP.callN h14 (ih.expr s14 h14.pre h14.l (by omega)) (fun _ h => h.le (by have := lo_ge T s14; have := lo_le T s; have := lo_ge T s; first | omega | (rw [lo_ne (by assumption)]; omega))) (fun v15 s15 t15 h15 ha15 => ?_)
         have lh15 := h15.l
         try simp only [nmz]
         refine SP.want (fun hq16 hl16 v16 s16 ha16 hn16 => ?_) ?_
         ·skip
          have h16 := h15.step hl16 ha16 hn16
          have lh16 := h16.l
          try simp only [nmz]
          refine SP.callN h16 (ih.expr s16 h16.pre h16.l (by omega)) (fun _ h => h.le (by have := lo_ge T s16; have := lo_le T s; have := lo_ge T s; first | omega | (rw [lo_ne (by assumption)]; omega))) (fun v17 s17 t17 h17 ha17 => ?_)
          have lh17 := h17.l
          try simp only [nmz]
          refine SP.want (fun hq18 hl18 v18 s18 ha18 hn18 => ?_) ?_
          ·skip
           have h18 := h17.step hl18 ha18 hn18
           have lh18 := h18.l
           try simp only [nmz]
           exact SP.nodeE h18 (by omega)
          ·skip
           exact (EB.at (by have := lo_le T s; have := lo_ge T s; first | omega | (rw [lo_ne (by assumption)]; omega)) h17.l)
         ·skip
          exact (EB.at (by have := lo_le T s; have := lo_ge T s; first | omega | (rw [lo_ne (by assumption)]; omega)) h15.l)
        ·skip
         exact (EB.at (by have := lo_le T s; have := lo_ge T s; first | omega | (rw [lo_ne (by assumption)]; omega)) h13.l)
       ·skip
        try simp only [nmz]
        try simp only [nmz]
        refine SP.got (fun hq19 hl19 s19 ha19 hn19 => ?_) (fun hq19 => ?_)
        ·skip
         have h19 := h0.step hl19 ha19 hn19
         have lh19 := h19.l
         try simp only [nmz]
         try simp only [nmz]
         refine SP.want (fun hq20 hl20 v20 s20 ha20 hn20 => ?_) ?_
         ·skip
          have h20 := h19.step hl20 ha20 hn20
          have lh20 := h20.l
          try simp only [nmz]
          refine SP.callN h20 (ih.expr s20 h20.pre h20.l (by omega)) (fun _ h => h.le (by have := lo_ge T s20; have := lo_le T s; have := lo_ge T s; first | omega | (rw [lo_ne (by assumption)]; omega))) (fun v21 s21 t21 h21 ha21 => ?_)
          have lh21 := h21.l
          try simp only [nmz]
          refine SP.want (fun hq22 hl22 v22 s22 ha22 hn22 => ?_) ?_
          ·skip
           have h22 := h21.step hl22 ha22 hn22
           have lh22 := h22.l
           try simp only [nmz]
           exact SP.nodeE h22 (by omega)
          ·skip
           exact (EB.at (by have := lo_le T s; have := lo_ge T s; first | omega | (rw [lo_ne (by assumption)]; omega)) h21.l)
         ·skip
          exact (EB.at (by have := lo_le T s; have := lo_ge T s; first | omega | (rw [lo_ne (by assumption)]; omega)) h19.l)
        ·skip
         try simp only [nmz]
         try simp only [nmz]
         refine SP.got (fun hq23 hl23 s23 ha23 hn23 => ?_) (fun hq23 => ?_)
         ·skip
          have h23 := h0.step hl23 ha23 hn23
          have lh23 := h23.l
          try simp only [nmz]
          try simp only [nmz]
          refine SP.callN h23 (ih.chan s23 h23.pre h23.l (by omega)) (fun _ h => h.le (by have := lo_ge T s23; have := lo_le T s; have := lo_ge T s; first | omega | (rw [lo_ne (by assumption)]; omega))) (fun v24 s24 t24 h24 ha24 => ?_)
          have lh24 := h24.l
          try simp only [nmz]
          exact SP.nodeE h24 (by omega)
         ·skip
          try simp only [nmz]
          try simp only [nmz]
          refine SP.got (fun hq25 hl25 s25 ha25 hn25 => ?_) (fun hq25 => ?_)
          ·skip
           have h25 := h0.step hl25 ha25 hn25
           have lh25 := h25.l
           try simp only [nmz]
           try simp only [nmz]
           exact (ih.prog s25 _ _ _ (h25.weak (by omega)) (by omega)).mono (fun _ _ h => h) (fun _ h => h.le (by first | omega | (have := lo_le T s; omega)))
          ·skip
           try simp only [nmz]
           try simp only [nmz]
           exact SP.fail (EB.at (by have := lo_le T s; have := lo_ge T s; first | omega | (rw [lo_ne (by assumption)]; omega)) h0.l)
theorem sp_pProg (hL : T.length ≤ 65536) (ih : IHS tx src T f) : ∀ (s : PS) (base : List ND) (a0 : Nat) (a : Int), Seg T.length base a0 s [] [] 1 → 20 * (T.length - s.a) + 1 ≤ f + 1 → SP (pProg tx src T (f + 1) a) s (RN T.length base a0) (EB src T s.a) := by
 intro s base a0 a h0 hf
 have lh0 := h0.l
 simp only [pProg]
 try simp only [nmz]
 refine SP.opt (fun hk1 hl1 v1 hv1 s1 ha1 hn1 => ?_) (fun hk1 => ?_)
 ·skip
  have h1 := h0.step hl1 ha1 hn1
  have lh1 := h1.l
  try simp only [nmz]
  refine SP.want (fun hq2 hl2 v2 s2 ha2 hn2 => ?_) ?_
  ·skip
   have h2 := h1.step hl2 ha2 hn2
   have lh2 := h2.l
   try simp only [nmz]
   exact (ih.progGo s2 _ _ _ _ _ _ (h2.weak (by omega)) (by omega)).mono (fun _ _ h => h) (fun _ h => h.le (by first | omega | (have := lo_le T s; omega)))
  ·skip
   exact (EB.at (by omega) h1.l)
 ·skip
  try simp only [nmz]
  refine SP.want (fun hq3 hl3 v3 s3 ha3 hn3 => ?_) ?_
  ·skip
   have h3 := h0.step hl3 ha3 hn3
   have lh3 := h3.l
   try simp only [nmz]
   exact (ih.progGo s3 _ _ _ _ _ _ (h3.weak (by omega)) (by omega)).mono (fun _ _ h => h) (fun _ h => h.le (by first | omega | (have := lo_le T s; omega)))
  ·skip
   exact (EB.at (by omega) h0.l)
theorem sp_pProgGo (hL : T.length ≤ 65536) (ih : IHS tx src T f) : ∀ (s : PS) (base : List ND) (a0 : Nat) (ts : List TR) (a : Int) (nm : List UInt8) (ks : List Int), Seg T.length base a0 s ts ks 1 → 20 * (T.length - s.a) + 1 ≤ f + 1 → SP (pProgGo tx src T (f + 1) a nm ks) s (RN T.length base a0) (EB src T s.a) := by
 intro s base a0 ts a nm ks h0 hf
 have lh0 := h0.l
 simp only [pProgGo]
 try simp only [nmz]
 refine SP.lim (h0.lim (by omega)) ?_
 refine SP.got (fun hq1 hl1 s1 ha1 hn1 => ?_) (fun hq1 => ?_)
 ·skip
  have h1 := h0.step hl1 ha1 hn1
  have lh1 := h1.l
  try simp only [nmz]
  try simp only [nmz]
  exact (ih.res s1 _ _ _ _ _ _ _ (h1.weak (by omega)) (by omega)).mono (fun _ _ h => h) (fun _ h => h.le (by first | omega | (have := lo_le T s; omega)))
 ·skip
  try simp only [nmz]
  try simp only [nmz]
  by_cases hc2 : 0 < (ks.length : Int)
  ·simp only [if_pos hc2]
   try simp only [nmz]
   refine SP.want (fun hq3 hl3 v3 s3 ha3 hn3 => ?_) ?_
   ·skip
    have h3 := h0.step hl3 ha3 hn3
    have lh3 := h3.l
    try simp only [nmz]
    have g4 := Seg.start h3.pre h3.l
    refine SP.place fun a5 => ?_
    refine SP.name (fun hk6 hl6 v6 hv6 s6 ha6 hn6 => ?_) (fun hk6 => ?_)
    ·skip
     have h6 := g4.step hl6 ha6 hn6
     have lh6 := h6.l
     try simp only [nmz]
     refine SP.want (fun hq7 hl7 v7 s7 ha7 hn7 => ?_) ?_
     ·skip
      have h7 := h6.step hl7 ha7 hn7
      have lh7 := h7.l
      try simp only [nmz]
      refine SP.callN h7 (ih.typ s7 h7.pre h7.l (by omega)) (fun _ h => h.le (by have := lo_ge T s7; have := lo_le T s; have := lo_ge T s; first | omega | (rw [lo_ne (by assumption)]; omega))) (fun v8 s8 t8 h8 ha8 => ?_)
      have lh8 := h8.l
      try simp only [nmz]
      refine SP.node h8 (by omega) (fun v9 s9 ha9 h9 => ?_)
      have lh9 := h9.l
      have h9j := h3.join h9
      have lh9j := h9j.l
      try simp only [nmz]
      exact (ih.progGo s9 _ _ _ _ _ _ (h9j.weak (by omega)) (by omega)).mono (fun _ _ h => h) (fun _ h => h.le (by first | omega | (have := lo_le T s; omega)))
     ·skip
      exact (EB.at (by omega) h6.l)
    ·skip
     exact (EB.at (by omega) g4.l)
   ·skip
    exact (EB.at (by omega) h0.l)
  ·simp only [if_neg hc2]
   try simp only [nmz]
   try simp only [nmz]
   have g10 := Seg.start h0.pre h0.l
   refine SP.place fun a11 => ?_
   refine SP.name (fun hk12 hl12 v12 hv12 s12 ha12 hn12 => ?_) (fun hk12 => ?_)
   ·skip
    have h12 := g10.step hl12 ha12 hn12
    have lh12 := h12.l
    try simp only [nmz]
    refine SP.want (fun hq13 hl13 v13 s13 ha13 hn13 => ?_) ?_
    ·skip
     have h13 := h12.step hl13 ha13 hn13
     have lh13 := h13.l
     try simp only [nmz]
     refine SP.callN h13 (ih.typ s13 h13.pre h13.l (by omega)) (fun _ h => h.le (by have := lo_ge T s13; have := lo_le T s; have := lo_ge T s; first | omega | (rw [lo_ne (by assumption)]; omega))) (fun v14 s14 t14 h14 ha14 => ?_)
     have lh14 := h14.l
     try simp only [nmz]
     refine SP.node h14 (by omega) (fun v15 s15 ha15 h15 => ?_)
     have lh15 := h15.l
     have h15j := h0.join h15
     have lh15j := h15j.l
     try simp only [nmz]
     exact (ih.progGo s15 _ _ _ _ _ _ (h15j.weak (by omega)) (by omega)).mono (fun _ _ h => h) (fun _ h => h.le (by first | omega | (have := lo_le T s; omega)))
    ·skip
     exact (EB.at (by omega) h12.l)
   ·skip
    exact (EB.at (by omega) g10.l)
end
section
variable {tx : Nat → List UInt8} {src : List UInt8} {T : List TK}
theorem ihs_all (hL : T.length ≤ 65536) : ∀ f, IHS tx src T f := by
 intro f
 induction f with
 | zero =>
  constructor
  ·intros; exfalso; omega
  ·intros; exfalso; omega
  ·intros; exfalso; omega
  ·intros; exfalso; omega
  ·intros; exfalso; omega
  ·intros; exfalso; omega
  ·intros; exfalso; omega
  ·intros; exfalso; omega
  ·intros; exfalso; omega
  ·intros; exfalso; omega
  ·intros; exfalso; omega
  ·intros; exfalso; omega
  ·intros; exfalso; omega
  ·intros; exfalso; omega
  ·intros; exfalso; omega
  ·intros; exfalso; omega
  ·intros; exfalso; omega
  ·intros; exfalso; omega
  ·intros; exfalso; omega
  ·intros; exfalso; omega
  ·intros; exfalso; omega
  ·intros; exfalso; omega
  ·intros; exfalso; omega
 | succ f ih =>
  exact ⟨sp_pTyp hL ih, sp_pChan hL ih, sp_pTypes hL ih, sp_pTypesGo hL ih, sp_pRes hL ih, sp_pBlock hL ih, sp_pBlockGo hL ih, sp_pStm hL ih, sp_pFork hL ih, sp_pChoice hL ih, sp_pChoiceGo hL ih, sp_pArm hL ih, sp_pExpr hL ih, sp_pBin hL ih, sp_pBinGo hL ih, sp_pUn hL ih, sp_pPost hL ih, sp_pPostGo hL ih, sp_pList hL ih, sp_pListGo hL ih, sp_pPrim hL ih, sp_pProg hL ih, sp_pProgGo hL ih⟩
theorem sp_top (hL : T.length ≤ 65536) : ∀ (f : Nat) (s : PS) (base : List ND) (a0 : Nat) (ts : List TR) (ks : List Int), Seg T.length base a0 s ts ks 0 → 20 * (T.length - s.a) + 1 ≤ f → SP (pTop tx src T f ks) s (fun vs s' => ∃ ts', Seg T.length base a0 s' ts' vs 0) (EB src T s.a) := by
 intro f
 induction f with
 | zero => intros; exfalso; omega
 | succ f ihf =>
  have ih := ihs_all (tx := tx) (src := src) hL f
  intro s base a0 ts ks h0 hf
  have lh0 := h0.l
  simp only [pTop]
  try simp only [nmz]
  refine SP.lim (h0.lim (by omega)) ?_
  refine SP.isq (fun hq => ?_) ?_
  ·skip
   try simp only [nmz]
   try simp only [nmz]
   have g1 := Seg.start h0.pre h0.l
   refine SP.want (fun hq2 hl2 v2 s2 ha2 hn2 => ?_) ?_
   ·skip
    have h2 := g1.step hl2 ha2 hn2
    have lh2 := h2.l
    try simp only [nmz]
    refine SP.name (fun hk3 hl3 v3 hv3 s3 ha3 hn3 => ?_) (fun hk3 => ?_)
    ·skip
     have h3 := h2.step hl3 ha3 hn3
     have lh3 := h3.l
     try simp only [nmz]
     refine SP.want (fun hq4 hl4 v4 s4 ha4 hn4 => ?_) ?_
     ·skip
      have h4 := h3.step hl4 ha4 hn4
      have lh4 := h4.l
      try simp only [nmz]
      refine SP.callN h4 (ih.typ s4 h4.pre h4.l (by omega)) (fun _ h => h.le (by have := lo_ge T s4; have := lo_le T s; have := lo_ge T s; first | omega | (rw [lo_ne (by assumption)]; omega))) (fun v5 s5 t5 h5 ha5 => ?_)
      have lh5 := h5.l
      try simp only [nmz]
      refine SP.want (fun hq6 hl6 v6 s6 ha6 hn6 => ?_) ?_
      ·skip
       have h6 := h5.step hl6 ha6 hn6
       have lh6 := h6.l
       try simp only [nmz]
       refine SP.node h6 (by omega) (fun v7 s7 ha7 h7 => ?_)
       have lh7 := h7.l
       have h7j := h0.join h7
       have lh7j := h7j.l
       try simp only [nmz]
       exact (ihf s7 _ _ _ _ (h7j.weak (by omega)) (by omega)).mono (fun _ _ h => h) (fun _ h => h.le (by omega))
      ·skip
       exact (EB.at (by omega) h5.l)
     ·skip
      exact (EB.at (by omega) h3.l)
    ·skip
     exact (EB.at (by omega) h2.l)
   ·skip
    exact (EB.at (by omega) g1.l)
  ·skip
   try simp only [nmz]
   try simp only [nmz]
   exact ⟨_, h0⟩
theorem SP.iteS {β : Type} {s : PS} {Q : β → PS → Prop} {E : Int → Prop} {c : PS → Prop} [DecidablePred c] {m1 m2 : PM β} (h1 : c s → SP m1 s Q E) (h2 : ¬ c s → SP m2 s Q E) : SP (fun s => if c s then m1 s else m2 s) s Q E := by
 by_cases h : c s
 ·have := h1 h; simp only [SP, if_pos h] at this ⊢; exact this
 ·have := h2 h; simp only [SP, if_neg h] at this ⊢; exact this
theorem sp_top2 (hL : T.length ≤ 65536) : ∀ (f : Nat) (s : PS) (base : List ND) (a0 : Nat) (n : Int) (ts : List TR) (ks : List Int), Seg T.length base a0 s ts ks 0 → 20 * (T.length - s.a) + 12 ≤ f →
  SP (pTop2 tx src T f n ks) s (fun v s' => ∃ ts', s'.a = T.length ∧ s'.ns = base ++ flatL base.length [.mk 46 0 [] n ts'] ∧ v = ((base.length + szL ts' : Nat) : Int) ∧ szL ts' ≤ T.length - a0) (EB src T s.a) := by
 intro f
 induction f with
 | zero => intros; exfalso; omega
 | succ f ihf =>
  have ih := ihs_all (tx := tx) (src := src) hL f
  intro s base a0 n ts ks h0 hf
  have lh0 := h0.l
  simp only [pTop2]
  refine SP.lim (h0.lim (by omega)) ?_
  refine SP.iteS (c := fun s => s.a < T.length) (fun hc => ?_) (fun hc => ?_)
  ·refine SP.callN h0 (ih.stm s h0.pre h0.l (by omega)) (fun _ h => h) (fun v s1 t h1 ha => ?_)
   have l1 := h1.l
   exact (ihf s1 _ _ n _ _ h1 (by omega)).mono (fun _ _ h => h) (fun _ h => h.le (by omega))
  ·have hp := h0.pre; have hcc := h0.c
   simp only [SP, mNode, if_pos (And.intro (show s.ns.length < 1000000000 by omega) (h0.lim (by omega)))]
   refine ⟨ts, by omega, ?_, ?_, by omega⟩
   ·rw [h0.ns]; simp only [flatL, TR.flat, h0.ks, List.append_assoc, List.append_nil]
   ·rw [h0.ns, List.length_append, flatL_len]
/-- The whole program: a tree, or a fault at a token. -/
theorem sp_program (hL : T.length ≤ 65536) (f : Nat) (hf : 20 * T.length + 12 ≤ f) : SP (pProgram tx src T f) ⟨0, []⟩ (fun v s' => ∃ n ts, s'.a = T.length ∧ s'.ns = (TR.mk 46 0 [] n ts).flat 0 ∧ szL ts ≤ T.length) (EB src T 0) := by
 unfold pProgram
 have h0 := Seg.start (L := T.length) (s := ⟨0, []⟩) (Nat.le_refl _) (Nat.zero_le _)
 refine SP.bind (sp_top hL f ⟨0, []⟩ _ _ _ _ h0 (by show 20 * (T.length - 0) + 1 ≤ f; omega)) (fun _ h => h) ?_
 rintro vs s1 ⟨ts1, h1⟩
 have l1 := h1.l
 refine (sp_top2 hL f s1 _ _ _ _ _ h1 (by omega)).mono ?_ (fun _ h => h.le (by omega))
 rintro v s' ⟨ts', q1, q2, q3, q4⟩
 exact ⟨(vs.length : Int), ts', q1, by rw [q2]; simp [flatL], by simpa using q4⟩
end
end Go.Proofs.Ytehmhhlhlipbnaa.Vs
