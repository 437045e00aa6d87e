/-
 The reader never goes back; more fuel changes nothing; tokens that are alike are read alike.
-/
import Derived.Test.YtehmhhlhlipbnaaPlain2
set_option autoImplicit false
set_option linter.unusedVariables false
set_option linter.unusedSimpArgs false
namespace Go.Proofs.Ytehmhhlhlipbnaa.Vs
open Go.VI Go.Proofs
/-! what never goes back -/
section
variable {src : List UInt8} {T : List TK}
def Mono (src : List UInt8) (T : List TK) {α : Type} (m : PM α) : Prop := ∀ s : PS, match m s with
 | none => True
 | some (.error e) => ∃ i, s.a ≤ i ∧ e = plF src T i
 | some (.ok r) => s.a ≤ r.2.a
variable {α β : Type}
theorem Mono.none : Mono src T (fun _ => .none : PM α) := fun _ => trivial
theorem Mono.bind {m : PM α} {k : α → PM β} (h : Mono src T m) (hk : ∀ v, Mono src T (k v)) : Mono src T (bindP m k) := by
 intro s
 have h1 := h s
 simp only [bindP]
 cases hm : m s with
 | none => trivial
 | some r =>
  rw [hm] at h1
  cases r with
  | error e => exact h1
  | ok r =>
   have h2 := hk r.1 r.2
   simp only at h1 ⊢
   cases hq : k r.1 r.2 with
   | none => trivial
   | some q =>
    rw [hq] at h2
    cases q with
    | error e => obtain ⟨i, a, b⟩ := h2; exact ⟨i, by omega, b⟩
    | ok q => simp only at h2 ⊢; omega
theorem Mono.ite {c : Prop} [Decidable c] {m1 m2 : PM α} (h1 : Mono src T m1) (h2 : Mono src T m2) : Mono src T (if c then m1 else m2) := by split <;> assumption
theorem Mono.place : Mono src T (mPlace src T) := fun s => Nat.le_refl _
theorem Mono.knd : Mono src T (mKnd T) := fun s => Nat.le_refl _
theorem Mono.pure {v : α} : Mono src T (pureP v) := fun s => Nat.le_refl _
theorem Mono.is {tx : Nat → List UInt8} {t : List UInt8} : Mono src T (mIs tx T t) := fun s => Nat.le_refl _
theorem Mono.fail : Mono src T (mFail src T : PM α) := fun s => ⟨s.a, Nat.le_refl _, rfl⟩
theorem Mono.got {tx : Nat → List UInt8} {t : List UInt8} : Mono src T (mGot tx T t) := by
 intro s
 simp only [mGot]
 cases isF tx T s.a t <;> simp
theorem Mono.take {f : TK → α} : Mono src T (mTake T f) := by
 intro s
 simp only [mTake]
 cases T[s.a]? <;> simp
theorem Mono.want {tx : Nat → List UInt8} {t : List UInt8} : Mono src T (mWant tx src T t) := Mono.place.bind fun _ => Mono.got.bind fun _ => Mono.ite Mono.pure Mono.fail
theorem Mono.name : Mono src T (mName src T) := Mono.knd.bind fun _ => Mono.ite Mono.take Mono.fail
theorem Mono.num : Mono src T (mNum src T) := Mono.knd.bind fun _ => Mono.ite Mono.take Mono.fail
theorem Mono.opt : Mono src T (mOpt src T) := Mono.knd.bind fun _ => Mono.ite Mono.name Mono.pure
theorem Mono.lim {ks : List Int} : Mono src T (mLim ks) := by
 intro s
 simp only [mLim]
 by_cases c : ks.length < 1000000000
 ·rw [if_pos c]; exact Nat.le_refl _
 ·rw [if_neg c]; trivial
theorem Mono.node {k a n : Int} {nm : List UInt8} {ks : List Int} : Mono src T (mNode k a nm n ks) := by
 intro s
 simp only [mNode]
 by_cases c : s.ns.length < 1000000000 ∧ ks.length < 1000000000
 ·rw [if_pos c]; exact Nat.le_refl _
 ·rw [if_neg c]; trivial
theorem Mono.ended {tx : Nat → List UInt8} {k a : Int} {nm : List UInt8} {ks : List Int} : Mono src T (mEnd tx src T k a nm ks) := Mono.want.bind fun _ => Mono.node
theorem Mono.ops {tx : Nat → List UInt8} : ∀ l : List (List UInt8 × Int), Mono src T (mOps tx T l)
 | [] => Mono.pure
 | p :: r => Mono.got.bind fun _ => Mono.ite Mono.pure (Mono.ops r)
theorem Mono.op {tx : Nat → List UInt8} {lv : Int} : Mono src T (mOp tx T lv) := Mono.ops _
theorem Mono.iteS {c : PS → Prop} [DecidablePred c] {m1 m2 : PM α} (h1 : Mono src T m1) (h2 : Mono src T m2) : Mono src T (fun s => if c s then m1 s else m2 s) := by
 intro s
 by_cases h : c s
 ·simp only [if_pos h]; exact h1 s
 ·simp only [if_neg h]; exact h2 s
/-! more fuel changes nothing -/
def FM {α : Type} (m1 m2 : PM α) : Prop := ∀ s : PS, m1 s ≠ none → m2 s = m1 s
theorem FM.refl (m : PM α) : FM m m := fun _ _ => rfl
theorem FM.trans {m1 m2 m3 : PM α} (h : FM m1 m2) (k : FM m2 m3) : FM m1 m3 := fun s hs => by
 have h1 := h s hs
 rw [k s (by rw [h1]; exact hs), h1]
theorem FM.none {m : PM α} : FM (fun _ => .none) m := fun _ h => absurd rfl h
theorem FM.bind {m1 m2 : PM α} {k1 k2 : α → PM β} (h : FM m1 m2) (hk : ∀ v, FM (k1 v) (k2 v)) : FM (bindP m1 k1) (bindP m2 k2) := by
 intro s hs
 simp only [bindP] at hs ⊢
 have h1 := h s (fun c => by rw [c] at hs; exact hs rfl)
 rw [h1]
 cases hm : m1 s with
 | none => rfl
 | some r =>
  rw [hm] at hs
  cases r with
  | error e => rfl
  | ok r => exact hk r.1 r.2 hs
theorem FM.ite {c : Prop} [Decidable c] {m1 m2 n1 n2 : PM α} (h1 : FM m1 n1) (h2 : FM m2 n2) : FM (if c then m1 else m2) (if c then n1 else n2) := by split <;> assumption
theorem FM.iteS {c : PS → Prop} [DecidablePred c] {m1 m2 n1 n2 : PM α} (h1 : FM m1 n1) (h2 : FM m2 n2) : FM (fun s => if c s then m1 s else m2 s) (fun s => if c s then n1 s else n2 s) := by
 intro s hs
 by_cases h : c s
 ·simp only [if_pos h] at hs ⊢; exact h1 s hs
 ·simp only [if_neg h] at hs ⊢; exact h2 s hs
end
/-! two readings, of tokens that are alike up to m -/
def tokR (src1 src2 : List UInt8) : Option TK → Option TK → Prop
 | none, none => True
 | some t, some u => t.k = u.k ∧ t.num = u.num ∧ (t.k = 1 → tkF src1 t = tkF src2 u)
 | _, _ => False
def strip (v : ND) : ND := { v with at_ := 0 }
def NE (l m : List ND) : Prop := l.map strip = m.map strip
theorem NE.len {l m : List ND} (h : NE l m) : l.length = m.length := by
 have := congrArg List.length h
 simpa using this
structure Pair where
 s1 : List UInt8
 T1 : List TK
 s2 : List UInt8
 T2 : List TK
 m : Nat
 ok : ∀ i, i < m → tokR s1 s2 T1[i]? T2[i]?
def Late (src : List UInt8) (T : List TK) (m : Nat) {α : Type} (r : Option (Except Int (α × PS))) : Prop := match r with
 | none => True
 | some (.error e) => ∃ i, m ≤ i ∧ e = plF src T i
 | some (.ok r) => m ≤ r.2.a
def SM (p : Pair) {α : Type} (m1 m2 : PM α) (s1 s2 : PS) (R : α → α → Prop) : Prop :=
 m1 s1 = none ∨ m2 s2 = none ∨ (Late p.s1 p.T1 p.m (m1 s1) ∧ Late p.s2 p.T2 p.m (m2 s2)) ∨
 (∃ i, i < p.m ∧ m1 s1 = some (.error (plF p.s1 p.T1 i)) ∧ m2 s2 = some (.error (plF p.s2 p.T2 i))) ∨
 (∃ v1 v2 s1' s2', m1 s1 = some (.ok (v1, s1')) ∧ m2 s2 = some (.ok (v2, s2')) ∧ R v1 v2 ∧ s1'.a = s2'.a ∧ NE s1'.ns s2'.ns)
def Sim (p : Pair) {α : Type} (m1 m2 : PM α) (R : α → α → Prop) : Prop := ∀ s1 s2 : PS, s1.a = s2.a → NE s1.ns s2.ns → SM p m1 m2 s1 s2 R
section
variable {p : Pair} {α β : Type}
theorem Late.of {src : List UInt8} {T : List TK} {m : Nat} {k : PM α} (h : Mono src T k) {s : PS} (hs : m ≤ s.a) : Late src T m (k s) := by
 have := h s
 unfold Late
 cases hk : k s with
 | none => trivial
 | some r =>
  rw [hk] at this
  cases r with
  | error e => obtain ⟨i, a, b⟩ := this; exact ⟨i, by omega, b⟩
  | ok r => simp only at this ⊢; omega
theorem Late.bind {src : List UInt8} {T : List TK} {m : Nat} {k : PM α} {h : α → PM β} {s : PS} (hk : Late src T m (k s)) (hh : ∀ v, Mono src T (h v)) : Late src T m (bindP k h s) := by
 simp only [bindP]
 cases hq : k s with
 | none => trivial
 | some r =>
  rw [hq] at hk
  cases r with
  | error e => exact hk
  | ok r => exact Late.of (hh r.1) hk
theorem Sim.bind {m1 m2 : PM α} {k1 k2 : α → PM β} {R : α → α → Prop} {R' : β → β → Prop} (h : Sim p m1 m2 R) (hk : ∀ v1 v2, R v1 v2 → Sim p (k1 v1) (k2 v2) R') (h1 : ∀ v, Mono p.s1 p.T1 (k1 v)) (h2 : ∀ v, Mono p.s2 p.T2 (k2 v)) : Sim p (bindP m1 k1) (bindP m2 k2) R' := by
 intro s1 s2 ha hn
 rcases h s1 s2 ha hn with q | q | ⟨q1, q2⟩ | ⟨i, hi, q1, q2⟩ | ⟨v1, v2, t1, t2, q1, q2, hR, ha', hn'⟩
 ·exact .inl (by simp only [bindP, q])
 ·exact .inr (.inl (by simp only [bindP, q]))
 ·exact .inr (.inr (.inl ⟨q1.bind h1, q2.bind h2⟩))
 ·exact .inr (.inr (.inr (.inl ⟨i, hi, by simp only [bindP, q1], by simp only [bindP, q2]⟩)))
 ·have e1 : bindP m1 k1 s1 = k1 v1 t1 := by simp only [bindP, q1]
  have e2 : bindP m2 k2 s2 = k2 v2 t2 := by simp only [bindP, q2]
  have := hk v1 v2 hR t1 t2 ha' hn'
  unfold SM at this ⊢
  rw [e1, e2]; exact this
theorem Sim.bindE {m1 m2 : PM α} {k1 k2 : α → PM β} {R' : β → β → Prop} (h : Sim p m1 m2 Eq) (hk : ∀ v, Sim p (k1 v) (k2 v) R') (h1 : ∀ v, Mono p.s1 p.T1 (k1 v)) (h2 : ∀ v, Mono p.s2 p.T2 (k2 v)) : Sim p (bindP m1 k1) (bindP m2 k2) R' :=
 Sim.bind h (fun v1 v2 e => by subst e; exact hk v1) h1 h2
theorem Sim.ite {c : Prop} [Decidable c] {m1 m2 n1 n2 : PM α} {R : α → α → Prop} (h1 : Sim p m1 m2 R) (h2 : Sim p n1 n2 R) : Sim p (if c then m1 else n1) (if c then m2 else n2) R := by split <;> assumption
theorem Sim.late {m1 m2 : PM α} {R : α → α → Prop} {s1 s2 : PS} (h1 : Mono p.s1 p.T1 m1) (h2 : Mono p.s2 p.T2 m2) (ha : s1.a = s2.a) (h : p.m ≤ s1.a) : SM p m1 m2 s1 s2 R := .inr (.inr (.inl ⟨Late.of h1 h, Late.of h2 (by omega)⟩))
theorem Sim.okk {m1 m2 : PM α} {R : α → α → Prop} {s1 s2 t1 t2 : PS} {v1 v2 : α} (q1 : m1 s1 = some (.ok (v1, t1))) (q2 : m2 s2 = some (.ok (v2, t2))) (hR : R v1 v2) (ha : t1.a = t2.a) (hn : NE t1.ns t2.ns) : SM p m1 m2 s1 s2 R :=
 .inr (.inr (.inr (.inr ⟨v1, v2, t1, t2, q1, q2, hR, ha, hn⟩)))
theorem kn_same {i : Nat} (h : i < p.m) : knF p.T1 i = knF p.T2 i := by
 have := p.ok i h
 unfold knF
 cases h1 : p.T1[i]? <;> cases h2 : p.T2[i]? <;> rw [h1, h2] at this
 ·simp [tokR] at this
 ·simp [tokR] at this
 ·exact this.1
theorem is_same {tx : Nat → List UInt8} {i : Nat} {t : List UInt8} (h : i < p.m) : isF tx p.T1 i t = isF tx p.T2 i t := by
 unfold isF; rw [kn_same h]
theorem Sim.place {k1 k2 : Int → PM β} {R' : β → β → Prop} (hk : ∀ a b, Sim p (k1 a) (k2 b) R') : Sim p (bindP (mPlace p.s1 p.T1) k1) (bindP (mPlace p.s2 p.T2) k2) R' := fun s1 s2 ha hn => hk _ _ s1 s2 ha hn
theorem Sim.pure {v : α} : Sim p (pureP v) (pureP v) Eq := fun s1 s2 ha hn => Sim.okk rfl rfl rfl ha hn
theorem Sim.pureT {v w : α} : Sim p (pureP v) (pureP w) (fun _ _ => True) := fun s1 s2 ha hn => Sim.okk rfl rfl trivial ha hn
theorem Sim.fail {R : α → α → Prop} : Sim p (mFail p.s1 p.T1 : PM α) (mFail p.s2 p.T2) R := by
 intro s1 s2 ha hn
 by_cases h : s1.a < p.m
 ·exact .inr (.inr (.inr (.inl ⟨s1.a, h, rfl, by rw [ha]; rfl⟩)))
 ·exact Sim.late Mono.fail Mono.fail ha (by omega)
theorem Sim.knd {k1 k2 : Int → PM β} {R' : β → β → Prop} (hk : ∀ a, Sim p (k1 a) (k2 a) R') (h1 : ∀ v, Mono p.s1 p.T1 (k1 v)) (h2 : ∀ v, Mono p.s2 p.T2 (k2 v)) : Sim p (bindP (mKnd p.T1) k1) (bindP (mKnd p.T2) k2) R' := by
 intro s1 s2 ha hn
 by_cases h : s1.a < p.m
 ·have := hk (knF p.T1 s1.a) s1 s2 ha hn
  have e : bindP (mKnd p.T2) k2 s2 = k2 (knF p.T1 s1.a) s2 := by simp only [bindP, mKnd]; rw [kn_same h, ha]
  unfold SM at this ⊢; rw [e]; exact this
 ·exact Sim.late (Mono.knd.bind h1) (Mono.knd.bind h2) ha (by omega)
theorem Sim.is {tx : Nat → List UInt8} {t : List UInt8} : Sim p (mIs tx p.T1 t) (mIs tx p.T2 t) Eq := by
 intro s1 s2 ha hn
 by_cases h : s1.a < p.m
 ·exact Sim.okk rfl rfl (by rw [is_same h, ha]) ha hn
 ·exact Sim.late Mono.is Mono.is ha (by omega)
theorem Sim.got {tx : Nat → List UInt8} {t : List UInt8} : Sim p (mGot tx p.T1 t) (mGot tx p.T2 t) Eq := by
 intro s1 s2 ha hn
 by_cases h : s1.a < p.m
 ·have e := is_same (tx := tx) (t := t) h
  cases hq : isF tx p.T1 s1.a t
  ·refine Sim.okk (v1 := false) (v2 := false) (t1 := s1) (t2 := s2) (by simp [mGot, hq]) (by rw [mGot, ← ha, ← e, hq]; rfl) rfl ha hn
  ·refine Sim.okk (v1 := true) (v2 := true) (t1 := { s1 with a := s1.a + 1 }) (t2 := { s2 with a := s2.a + 1 }) (by simp [mGot, hq]) (by rw [mGot, ← ha, ← e, hq]; simp) rfl (by simp only; omega) hn
 ·exact Sim.late Mono.got Mono.got ha (by omega)
theorem Sim.take {f g : TK → α} (hf : ∀ i t u, i < p.m → p.T1[i]? = some t → p.T2[i]? = some u → t.k = knF p.T1 i → f t = g u) : Sim p (mTake p.T1 f) (mTake p.T2 g) Eq := by
 intro s1 s2 ha hn
 by_cases h : s1.a < p.m
 ·have hr := p.ok s1.a h
  cases h1 : p.T1[s1.a]? with
  | none => exact .inl (by simp only [mTake, h1])
  | some t =>
   cases h2 : p.T2[s1.a]? with
   | none => exact .inr (.inl (by rw [ha] at h2; simp only [mTake, h2]))
   | some u =>
    refine Sim.okk (v1 := f t) (v2 := g u) (t1 := { s1 with a := s1.a + 1 }) (t2 := { s2 with a := s2.a + 1 }) (by simp only [mTake, h1]) (by rw [ha] at h2; simp only [mTake, h2]) (hf _ t u h h1 h2 (by simp only [knF, h1])) (by simp only; omega) hn
 ·exact Sim.late Mono.take Mono.take ha (by omega)
theorem Sim.name : Sim p (mName p.s1 p.T1) (mName p.s2 p.T2) Eq := by
 intro s1 s2 ha hn
 by_cases h : s1.a < p.m
 ·have hr := p.ok s1.a h
  have hk := kn_same h
  by_cases c : knF p.T1 s1.a = 1
  ·have e1 : mName p.s1 p.T1 s1 = mTake p.T1 (tkF p.s1) s1 := by simp only [mName, bindP, mKnd, c, if_true]
   have e2 : mName p.s2 p.T2 s2 = mTake p.T2 (tkF p.s2) s2 := by simp only [mName, bindP, mKnd, ← ha, ← hk, c, if_true]
   cases h1 : p.T1[s1.a]? with
   | none => exact .inl (by rw [e1]; simp only [mTake, h1])
   | some t =>
    cases h2 : p.T2[s1.a]? with
    | none => exact .inr (.inl (by rw [e2]; rw [ha] at h2; simp only [mTake, h2]))
    | some u =>
     rw [h1, h2] at hr
     have ht : t.k = 1 := by simpa only [knF, h1] using c
     exact Sim.okk (v1 := tkF p.s1 t) (v2 := tkF p.s2 u) (t1 := { s1 with a := s1.a + 1 }) (t2 := { s2 with a := s2.a + 1 }) (by rw [e1]; simp only [mTake, h1]) (by rw [e2]; rw [ha] at h2; simp only [mTake, h2]) (hr.2.2 ht) (by simp only; omega) hn
  ·have e1 : mName p.s1 p.T1 s1 = mFail p.s1 p.T1 s1 := by simp only [mName, bindP, mKnd, c, if_false]
   have e2 : mName p.s2 p.T2 s2 = mFail p.s2 p.T2 s2 := by simp only [mName, bindP, mKnd, ← ha, ← hk, c, if_false]
   have := Sim.fail (p := p) (R := (Eq : List UInt8 → List UInt8 → Prop)) s1 s2 ha hn
   unfold SM at this ⊢
   rw [e1, e2]; exact this
 ·exact Sim.late Mono.name Mono.name ha (by omega)
theorem Sim.num : Sim p (mNum p.s1 p.T1) (mNum p.s2 p.T2) Eq := by
 unfold mNum
 refine Sim.knd (fun a => Sim.ite (Sim.take ?_) Sim.fail) (fun _ => Mono.ite Mono.take Mono.fail) (fun _ => Mono.ite Mono.take Mono.fail)
 intro i t u h h1 h2 _
 have hr := p.ok i h
 rw [h1, h2] at hr
 exact hr.2.1
theorem Sim.opt : Sim p (mOpt p.s1 p.T1) (mOpt p.s2 p.T2) Eq := by
 unfold mOpt
 exact Sim.knd (fun a => Sim.ite Sim.name Sim.pure) (fun _ => Mono.ite Mono.name Mono.pure) (fun _ => Mono.ite Mono.name Mono.pure)
theorem Sim.lim {ks : List Int} : Sim p (mLim ks) (mLim ks) Eq := by
 intro s1 s2 ha hn
 by_cases c : ks.length < 1000000000
 ·exact Sim.okk (v1 := ()) (v2 := ()) (t1 := s1) (t2 := s2) (by simp only [mLim, if_pos c]) (by simp only [mLim, if_pos c]) rfl ha hn
 ·exact .inl (by simp only [mLim, if_neg c])
theorem Sim.node {k a b n : Int} {nm : List UInt8} {ks : List Int} : Sim p (mNode k a nm n ks) (mNode k b nm n ks) Eq := by
 intro s1 s2 ha hn
 have hl := hn.len
 by_cases c : s1.ns.length < 1000000000 ∧ ks.length < 1000000000
 ·refine Sim.okk (v1 := (s1.ns.length : Int)) (v2 := (s2.ns.length : Int)) (t1 := ⟨s1.a, s1.ns ++ [⟨k, a, ks, nm, n⟩]⟩) (t2 := ⟨s2.a, s2.ns ++ [⟨k, b, ks, nm, n⟩]⟩) (by simp only [mNode, if_pos c]) (by simp only [mNode, if_pos (show s2.ns.length < 1000000000 ∧ ks.length < 1000000000 from hl ▸ c)]) (by rw [hl]) ha ?_
  show (s1.ns ++ [_]).map strip = (s2.ns ++ [_]).map strip
  rw [List.map_append, List.map_append, show s1.ns.map strip = s2.ns.map strip from hn]; rfl
 ·exact .inl (by simp only [mNode, if_neg c])
theorem Sim.wantT {tx : Nat → List UInt8} {t : List UInt8} : Sim p (mWant tx p.s1 p.T1 t) (mWant tx p.s2 p.T2 t) (fun _ _ => True) := by
 unfold mWant
 exact Sim.place fun a b => Sim.bindE Sim.got (fun _ => Sim.ite Sim.pureT Sim.fail) (fun _ => Mono.ite Mono.pure Mono.fail) (fun _ => Mono.ite Mono.pure Mono.fail)
theorem Sim.want {tx : Nat → List UInt8} {t : List UInt8} {k1 k2 : Int → PM β} {R' : β → β → Prop} (hk : ∀ a b, Sim p (k1 a) (k2 b) R') (h1 : ∀ v, Mono p.s1 p.T1 (k1 v)) (h2 : ∀ v, Mono p.s2 p.T2 (k2 v)) : Sim p (bindP (mWant tx p.s1 p.T1 t) k1) (bindP (mWant tx p.s2 p.T2 t) k2) R' :=
 Sim.bind Sim.wantT (fun a b _ => hk a b) h1 h2
theorem Sim.ended {tx : Nat → List UInt8} {k a b : Int} {nm : List UInt8} {ks : List Int} : Sim p (mEnd tx p.s1 p.T1 k a nm ks) (mEnd tx p.s2 p.T2 k b nm ks) Eq :=
 Sim.want (fun _ _ => Sim.node) (fun _ => Mono.node) (fun _ => Mono.node)
theorem Sim.ops {tx : Nat → List UInt8} : ∀ l : List (List UInt8 × Int), Sim p (mOps tx p.T1 l) (mOps tx p.T2 l) Eq
 | [] => Sim.pure
 | q :: r => Sim.bindE Sim.got (fun _ => Sim.ite Sim.pure (Sim.ops r)) (fun _ => Mono.ite Mono.pure (Mono.ops r)) (fun _ => Mono.ite Mono.pure (Mono.ops r))
theorem Sim.op {tx : Nat → List UInt8} {lv : Int} : Sim p (mOp tx p.T1 lv) (mOp tx p.T2 lv) Eq := Sim.ops _
end
/-! at a name, what takes it -/
def MonoN (src : List UInt8) (T : List TK) {α : Type} (m : PM α) : Prop := ∀ s : PS, knF T s.a = 1 → Late src T (s.a + 1) (m s)
section
variable {src : List UInt8} {T : List TK} {α β : Type}
theorem MonoN.bind {m : PM α} {k : α → PM β} (h : MonoN src T m) (hk : ∀ v, Mono src T (k v)) : MonoN src T (bindP m k) := fun s hs => (h s hs).bind hk
theorem MonoN.place {k : Int → PM β} (h : ∀ a, MonoN src T (k a)) : MonoN src T (bindP (mPlace src T) k) := fun s hs => h _ s hs
theorem no_is {tx : Nat → List UInt8} {i : Nat} {t : List UInt8} (h : knF T i = 1) : isF tx T i t = false := by
 unfold isF; rw [h]; rfl
theorem MonoN.got {tx : Nat → List UInt8} {t : List UInt8} {k : Bool → PM β} (h : MonoN src T (k false)) : MonoN src T (bindP (mGot tx T t) k) := by
 intro s hs
 have e : bindP (mGot tx T t) k s = k false s := by simp only [bindP, mGot, no_is hs]; rfl
 rw [e]; exact h s hs
theorem MonoN.ops {tx : Nat → List UInt8} {k : Int → PM β} (h : MonoN src T (k 0)) : ∀ l : List (List UInt8 × Int), MonoN src T (bindP (mOps tx T l) k)
 | [] => h
 | q :: r => by
  intro s hs
  have e : bindP (mOps tx T (q :: r)) k s = bindP (mOps tx T r) k s := by simp only [mOps, bindP, mGot, no_is hs]; rfl
  rw [e]; exact MonoN.ops h r s hs
theorem MonoN.op {tx : Nat → List UInt8} {lv : Int} {k : Int → PM β} (h : MonoN src T (k 0)) : MonoN src T (bindP (mOp tx T lv) k) := MonoN.ops h _
theorem MonoN.knd {k : Int → PM β} (h : MonoN src T (k 1)) : MonoN src T (bindP (mKnd T) k) := by
 intro s hs
 have e : bindP (mKnd T) k s = k 1 s := by simp only [bindP, mKnd, hs]
 rw [e]; exact h s hs
theorem MonoN.name : MonoN src T (mName src T) := by
 intro s hs
 have e : mName src T s = mTake T (tkF src) s := by simp only [mName, bindP, mKnd, hs, if_true]
 rw [e]
 unfold Late
 simp only [mTake]
 cases T[s.a]? <;> simp
end
/-- where an arm may begin with a name -/
theorem Sim.arm {p : Pair} {α β : Type} {c1 c2 : PS → Prop} [DecidablePred c1] [DecidablePred c2] {m1 m2 : PM α} {v : α} {k1 k2 : α → PM β} {R : β → β → Prop} (hc1 : ∀ s, c1 s → knF p.T1 s.a = 1) (hc2 : ∀ s, c2 s → knF p.T2 s.a = 1)
  (hcc : ∀ s1 s2, s1.a = s2.a → s1.a + 1 < p.m → (c1 s1 ↔ c2 s2)) (hm : Sim p m1 m2 Eq) (n1 : MonoN p.s1 p.T1 m1) (n2 : MonoN p.s2 p.T2 m2) (mo1 : Mono p.s1 p.T1 m1) (mo2 : Mono p.s2 p.T2 m2)
  (hk : ∀ v, Sim p (k1 v) (k2 v) R) (h1 : ∀ v, Mono p.s1 p.T1 (k1 v)) (h2 : ∀ v, Mono p.s2 p.T2 (k2 v)) (l1 : MonoN p.s1 p.T1 (k1 v)) (l2 : MonoN p.s2 p.T2 (k2 v)) :
  Sim p (bindP (fun s => if c1 s then m1 s else some (.ok (v, s))) k1) (bindP (fun s => if c2 s then m2 s else some (.ok (v, s))) k2) R := by
 intro s1 s2 ha hn
 have e1 : c1 s1 → bindP (fun s => if c1 s then m1 s else some (.ok (v, s))) k1 s1 = bindP m1 k1 s1 := fun h => by simp only [bindP, if_pos h]
 have e2 : c2 s2 → bindP (fun s => if c2 s then m2 s else some (.ok (v, s))) k2 s2 = bindP m2 k2 s2 := fun h => by simp only [bindP, if_pos h]
 have f1 : ¬ c1 s1 → bindP (fun s => if c1 s then m1 s else some (.ok (v, s))) k1 s1 = k1 v s1 := fun h => by simp only [bindP, if_neg h]
 have f2 : ¬ c2 s2 → bindP (fun s => if c2 s then m2 s else some (.ok (v, s))) k2 s2 = k2 v s2 := fun h => by simp only [bindP, if_neg h]
 by_cases q1 : c1 s1 <;> by_cases q2 : c2 s2
 ·have := Sim.bindE hm hk h1 h2 s1 s2 ha hn
  unfold SM at this ⊢; rw [e1 q1, e2 q2]; exact this
 ·by_cases hm' : s1.a + 1 < p.m
  ·exact absurd ((hcc s1 s2 ha hm').1 q1) q2
  ·unfold SM; rw [e1 q1, f2 q2]
   have a1 : Late p.s1 p.T1 p.m (bindP m1 k1 s1) := by
    have := (n1.bind h1) s1 (hc1 _ q1)
    unfold Late at this ⊢
    cases hq : bindP m1 k1 s1 with
    | none => trivial
    | some r => rw [hq] at this; cases r with
     | error e => obtain ⟨i, x, y⟩ := this; exact ⟨i, by omega, y⟩
     | ok r => simp only at this ⊢; omega
   have a2 : Late p.s2 p.T2 p.m (k2 v s2) := by
    by_cases hs : s1.a < p.m
    ·have hk2 : knF p.T2 s2.a = 1 := by rw [← ha, ← kn_same hs]; exact hc1 _ q1
     have := l2 s2 hk2
     unfold Late at this ⊢
     cases hq : k2 v s2 with
     | none => trivial
     | some r => rw [hq] at this; cases r with
      | error e => obtain ⟨i, x, y⟩ := this; exact ⟨i, by omega, y⟩
      | ok r => simp only at this ⊢; omega
    ·exact Late.of (h2 v) (by omega)
   exact .inr (.inr (.inl ⟨a1, a2⟩))
 ·by_cases hm' : s1.a + 1 < p.m
  ·exact absurd ((hcc s1 s2 ha hm').2 q2) q1
  ·unfold SM; rw [f1 q1, e2 q2]
   have a2 : Late p.s2 p.T2 p.m (bindP m2 k2 s2) := by
    have := (n2.bind h2) s2 (hc2 _ q2)
    unfold Late at this ⊢
    cases hq : bindP m2 k2 s2 with
    | none => trivial
    | some r => rw [hq] at this; cases r with
     | error e => obtain ⟨i, x, y⟩ := this; exact ⟨i, by omega, y⟩
     | ok r => simp only at this ⊢; omega
   have a1 : Late p.s1 p.T1 p.m (k1 v s1) := by
    by_cases hs : s1.a < p.m
    ·have hk1 : knF p.T1 s1.a = 1 := by rw [kn_same hs, ha]; exact hc2 _ q2
     have := l1 s1 hk1
     unfold Late at this ⊢
     cases hq : k1 v s1 with
     | none => trivial
     | some r => rw [hq] at this; cases r with
      | error e => obtain ⟨i, x, y⟩ := this; exact ⟨i, by omega, y⟩
      | ok r => simp only at this ⊢; omega
    ·exact Late.of (h1 v) (by omega)
   exact .inr (.inr (.inl ⟨a1, a2⟩))
 ·have := hk v s1 s2 ha hn
  unfold SM at this ⊢; rw [f1 q1, f2 q2]; exact this
section
variable {tx : Nat → List UInt8} {src : List UInt8} {T : List TK}
structure IHM (tx : Nat → List UInt8) (src : List UInt8) (T : List TK) (f : Nat) : Prop where
 typ : Mono src T (pTyp tx src T f )
 chan : Mono src T (pChan tx src T f )
 types : Mono src T (pTypes tx src T f )
 typesGo : ∀ (ks : List Int), Mono src T (pTypesGo tx src T f ks)
 res : ∀ (k : Int) (a : Int) (nm : List UInt8) (ks : List Int), Mono src T (pRes tx src T f k a nm ks)
 block : Mono src T (pBlock tx src T f )
 blockGo : ∀ (a : Int) (ks : List Int), Mono src T (pBlockGo tx src T f a ks)
 stm : Mono src T (pStm tx src T f )
 fork : Mono src T (pFork tx src T f )
 choice : Mono src T (pChoice tx src T f )
 choiceGo : ∀ (a : Int) (ks : List Int), Mono src T (pChoiceGo tx src T f a ks)
 arm : Mono src T (pArm tx src T f )
 expr : Mono src T (pExpr tx src T f )
 bin : ∀ (lv : Int), Mono src T (pBin tx src T f lv)
 binGo : ∀ (lv : Int) (e : Int), Mono src T (pBinGo tx src T f lv e)
 un : Mono src T (pUn tx src T f )
 post : Mono src T (pPost tx src T f )
 postGo : ∀ (e : Int), Mono src T (pPostGo tx src T f e)
 list : ∀ (t : List UInt8), Mono src T (pList tx src T f t)
 listGo : ∀ (t : List UInt8) (ks : List Int), Mono src T (pListGo tx src T f t ks)
 prim : Mono src T (pPrim tx src T f )
 prog : ∀ (a : Int), Mono src T (pProg tx src T f a)
 progGo : ∀ (a : Int) (nm : List UInt8) (ks : List Int), Mono src T (pProgGo tx src T f a nm ks)
theorem mono_all : ∀ f, IHM tx src T f := by
 intro f
 induction f with
 | zero =>
  constructor
  all_goals intros
  all_goals exact Mono.none
 | succ f ih =>
  constructor
  ·intros; rw [pTyp]; exact (Mono.place.bind fun _ => (Mono.knd.bind fun _ => (Mono.ite (Mono.name.bind fun _ => Mono.node) (Mono.got.bind fun _ => (Mono.ite Mono.node (Mono.got.bind fun _ => (Mono.ite Mono.node (Mono.got.bind fun _ => (Mono.ite (Mono.want.bind fun _ => (ih.typ.bind fun _ => Mono.node)) (Mono.is.bind fun _ => (Mono.ite ih.chan (Mono.got.bind fun _ => (Mono.ite (ih.typ.bind fun _ => (Mono.want.bind fun _ => (ih.types.bind fun _ => Mono.node))) (Mono.got.bind fun _ => (Mono.ite (Mono.want.bind fun _ => (Mono.got.bind fun _ => ((Mono.ite Mono.pure ih.types).bind fun _ => (ih.res _ _ _ _)))) Mono.fail)))))))))))))))
  ·intros; rw [pChan]; exact (Mono.want.bind fun _ => (Mono.want.bind fun _ => (ih.typ.bind fun _ => Mono.node)))
  ·intros; rw [pTypes]; exact (ih.typ.bind fun _ => (ih.typesGo _))
  ·intros; rw [pTypesGo]; exact (Mono.lim.bind fun _ => (Mono.got.bind fun _ => (Mono.ite (ih.typ.bind fun _ => (ih.typesGo _)) (Mono.want.bind fun _ => Mono.pure))))
  ·intros; rw [pRes]; exact (Mono.lim.bind fun _ => (Mono.got.bind fun _ => ((Mono.ite (ih.typ.bind fun _ => Mono.pure) Mono.pure).bind fun _ => ((Mono.ite (ih.block.bind fun _ => Mono.pure) Mono.pure).bind fun _ => Mono.node))))
  ·intros; rw [pBlock]; exact (Mono.want.bind fun _ => (ih.blockGo _ _))
  ·intros; rw [pBlockGo]; exact (Mono.lim.bind fun _ => (Mono.got.bind fun _ => (Mono.ite Mono.node (ih.stm.bind fun _ => (ih.blockGo _ _)))))
  ·intros; rw [pStm]; exact (Mono.place.bind fun _ => (Mono.got.bind fun _ => (Mono.ite (Mono.name.bind fun _ => (Mono.want.bind fun _ => (ih.expr.bind fun _ => Mono.ended))) (Mono.got.bind fun _ => (Mono.ite (Mono.name.bind fun _ => (Mono.want.bind fun _ => (ih.typ.bind fun _ => (Mono.got.bind fun _ => ((Mono.ite (ih.expr.bind fun _ => Mono.pure) Mono.pure).bind fun _ => Mono.ended))))) (Mono.is.bind fun _ => (Mono.ite ih.fork (Mono.got.bind fun _ => (Mono.ite (ih.expr.bind fun _ => (ih.block.bind fun _ => Mono.node)) (Mono.got.bind fun _ => (Mono.ite (Mono.is.bind fun _ => ((Mono.ite Mono.pure (ih.expr.bind fun _ => Mono.pure)).bind fun _ => Mono.ended)) (Mono.got.bind fun _ => (Mono.ite (ih.expr.bind fun _ => Mono.ended) (Mono.is.bind fun _ => (Mono.ite ih.choice (Mono.is.bind fun _ => (Mono.ite ih.block (ih.expr.bind fun _ => (Mono.place.bind fun _ => (Mono.got.bind fun _ => (Mono.ite (ih.expr.bind fun _ => Mono.ended) (Mono.got.bind fun _ => (Mono.ite (ih.expr.bind fun _ => Mono.ended) Mono.ended)))))))))))))))))))))))
  ·intros; rw [pFork]; exact (Mono.want.bind fun _ => (ih.expr.bind fun _ => (ih.block.bind fun _ => (Mono.got.bind fun _ => ((Mono.ite (Mono.is.bind fun _ => (Mono.ite (ih.fork.bind fun _ => Mono.pure) (ih.block.bind fun _ => Mono.pure))) Mono.pure).bind fun _ => Mono.node)))))
  ·intros; rw [pChoice]; exact (Mono.want.bind fun _ => (Mono.want.bind fun _ => (ih.choiceGo _ _)))
  ·intros; rw [pChoiceGo]; exact (Mono.lim.bind fun _ => (Mono.got.bind fun _ => (Mono.ite Mono.node (ih.arm.bind fun _ => (ih.choiceGo _ _)))))
  ·intros; rw [pArm]; exact (Mono.want.bind fun _ => ((Mono.iteS (Mono.name.bind fun _ => (Mono.want.bind fun _ => (Mono.is.bind fun _ => (Mono.ite Mono.pure Mono.fail)))) Mono.pure).bind fun _ => (Mono.got.bind fun _ => (Mono.ite (ih.un.bind fun _ => (ih.block.bind fun _ => Mono.node)) (ih.expr.bind fun _ => (Mono.want.bind fun _ => (ih.expr.bind fun _ => (ih.block.bind fun _ => Mono.node))))))))
  ·intros; rw [pExpr]; exact (ih.bin _)
  ·intros; rw [pBin]; exact (Mono.ite ih.un ((ih.bin _).bind fun _ => (ih.binGo _ _)))
  ·intros; rw [pBinGo]; exact (Mono.place.bind fun _ => (Mono.op.bind fun _ => (Mono.ite Mono.pure ((ih.bin _).bind fun _ => (Mono.node.bind fun _ => (Mono.ite Mono.pure (ih.binGo _ _)))))))
  ·intros; rw [pUn]; exact (Mono.place.bind fun _ => (Mono.op.bind fun _ => (Mono.ite (ih.un.bind fun _ => Mono.node) ih.post)))
  ·intros; rw [pPost]; exact (ih.prim.bind fun _ => (ih.postGo _))
  ·intros; rw [pPostGo]; exact (Mono.place.bind fun _ => (Mono.got.bind fun _ => (Mono.ite (Mono.got.bind fun _ => ((Mono.ite Mono.pure ((ih.list _).bind fun _ => Mono.pure)).bind fun _ => (Mono.node.bind fun _ => (ih.postGo _)))) (Mono.got.bind fun _ => (Mono.ite (ih.expr.bind fun _ => (Mono.want.bind fun _ => (Mono.node.bind fun _ => (ih.postGo _)))) (Mono.got.bind fun _ => (Mono.ite (Mono.num.bind fun _ => (Mono.node.bind fun _ => (ih.postGo _))) Mono.pure)))))))
  ·intros; rw [pList]; exact (ih.expr.bind fun _ => (ih.listGo _ _))
  ·intros; rw [pListGo]; exact (Mono.lim.bind fun _ => (Mono.got.bind fun _ => (Mono.ite (ih.expr.bind fun _ => (ih.listGo _ _)) (Mono.want.bind fun _ => Mono.pure))))
  ·intros; rw [pPrim]; exact (Mono.place.bind fun _ => (Mono.knd.bind fun _ => (Mono.ite (Mono.num.bind fun _ => Mono.node) (Mono.ite (Mono.name.bind fun _ => Mono.node) (Mono.got.bind fun _ => (Mono.ite Mono.node (Mono.got.bind fun _ => (Mono.ite Mono.node (Mono.got.bind fun _ => (Mono.ite ((ih.list _).bind fun _ => (Mono.ite Mono.node Mono.node)) (Mono.got.bind fun _ => (Mono.ite ((ih.list _).bind fun _ => Mono.node) (Mono.got.bind fun _ => (Mono.ite (Mono.want.bind fun _ => (ih.expr.bind fun _ => (Mono.want.bind fun _ => (ih.expr.bind fun _ => (Mono.want.bind fun _ => Mono.node))))) (Mono.got.bind fun _ => (Mono.ite (Mono.want.bind fun _ => (ih.expr.bind fun _ => (Mono.want.bind fun _ => Mono.node))) (Mono.got.bind fun _ => (Mono.ite (ih.chan.bind fun _ => Mono.node) (Mono.got.bind fun _ => (Mono.ite (ih.prog _) Mono.fail))))))))))))))))))))
  ·intros; rw [pProg]; exact (Mono.opt.bind fun _ => (Mono.want.bind fun _ => (ih.progGo _ _ _)))
  ·intros; rw [pProgGo]; exact (Mono.lim.bind fun _ => (Mono.got.bind fun _ => (Mono.ite (ih.res _ _ _ _) ((Mono.ite Mono.want Mono.pure).bind fun _ => (Mono.place.bind fun _ => (Mono.name.bind fun _ => (Mono.want.bind fun _ => (ih.typ.bind fun _ => (Mono.node.bind fun _ => (ih.progGo _ _ _))))))))))
theorem monoN_all : ∀ f, MonoN src T (pExpr tx src T f) ∧ (∀ lv, MonoN src T (pBin tx src T f lv)) ∧ MonoN src T (pUn tx src T f) ∧ MonoN src T (pPost tx src T f) ∧ MonoN src T (pPrim tx src T f) := by
 intro f
 induction f with
 | zero => exact ⟨fun s _ => trivial, fun _ s _ => trivial, fun s _ => trivial, fun s _ => trivial, fun s _ => trivial⟩
 | succ f ih =>
  obtain ⟨i1, i2, i3, i4, i5⟩ := ih
  have ih := mono_all (tx := tx) (src := src) (T := T) f
  refine ⟨?_, fun lv => ?_, ?_, ?_, ?_⟩
  ·rw [pExpr]; exact i2 1
  ·rw [pBin]
   by_cases c : 5 < lv
   ·rw [if_pos c]; exact i3
   ·rw [if_neg c]; exact (i2 _).bind fun _ => ih.binGo _ _
  ·rw [pUn]
   refine MonoN.place fun a => MonoN.op ?_
   exact i4
  ·rw [pPost]
   exact i5.bind fun _ => ih.postGo _
  ·rw [pPrim]
   refine MonoN.place fun a => MonoN.knd ?_
   rw [if_neg (by decide), if_pos rfl]
   exact MonoN.name.bind fun _ => Mono.node
structure IHF (tx : Nat → List UInt8) (src : List UInt8) (T : List TK) (f : Nat) : Prop where
 typ : FM (pTyp tx src T f ) (pTyp tx src T (f + 1) )
 chan : FM (pChan tx src T f ) (pChan tx src T (f + 1) )
 types : FM (pTypes tx src T f ) (pTypes tx src T (f + 1) )
 typesGo : ∀ (ks : List Int), FM (pTypesGo tx src T f ks) (pTypesGo tx src T (f + 1) ks)
 res : ∀ (k : Int) (a : Int) (nm : List UInt8) (ks : List Int), FM (pRes tx src T f k a nm ks) (pRes tx src T (f + 1) k a nm ks)
 block : FM (pBlock tx src T f ) (pBlock tx src T (f + 1) )
 blockGo : ∀ (a : Int) (ks : List Int), FM (pBlockGo tx src T f a ks) (pBlockGo tx src T (f + 1) a ks)
 stm : FM (pStm tx src T f ) (pStm tx src T (f + 1) )
 fork : FM (pFork tx src T f ) (pFork tx src T (f + 1) )
 choice : FM (pChoice tx src T f ) (pChoice tx src T (f + 1) )
 choiceGo : ∀ (a : Int) (ks : List Int), FM (pChoiceGo tx src T f a ks) (pChoiceGo tx src T (f + 1) a ks)
 arm : FM (pArm tx src T f ) (pArm tx src T (f + 1) )
 expr : FM (pExpr tx src T f ) (pExpr tx src T (f + 1) )
 bin : ∀ (lv : Int), FM (pBin tx src T f lv) (pBin tx src T (f + 1) lv)
 binGo : ∀ (lv : Int) (e : Int), FM (pBinGo tx src T f lv e) (pBinGo tx src T (f + 1) lv e)
 un : FM (pUn tx src T f ) (pUn tx src T (f + 1) )
 post : FM (pPost tx src T f ) (pPost tx src T (f + 1) )
 postGo : ∀ (e : Int), FM (pPostGo tx src T f e) (pPostGo tx src T (f + 1) e)
 list : ∀ (t : List UInt8), FM (pList tx src T f t) (pList tx src T (f + 1) t)
 listGo : ∀ (t : List UInt8) (ks : List Int), FM (pListGo tx src T f t ks) (pListGo tx src T (f + 1) t ks)
 prim : FM (pPrim tx src T f ) (pPrim tx src T (f + 1) )
 prog : ∀ (a : Int), FM (pProg tx src T f a) (pProg tx src T (f + 1) a)
 progGo : ∀ (a : Int) (nm : List UInt8) (ks : List Int), FM (pProgGo tx src T f a nm ks) (pProgGo tx src T (f + 1) a nm ks)
theorem fuel_all : ∀ f, IHF tx src T f := by
 intro f
 induction f with
 | zero =>
  constructor
  all_goals intros
  all_goals exact FM.none
 | succ f ih =>
  constructor
  ·intros; rw [pTyp, pTyp]; exact ((FM.refl _).bind fun _ => ((FM.refl _).bind fun _ => (FM.ite ((FM.refl _).bind fun _ => (FM.refl _)) ((FM.refl _).bind fun _ => (FM.ite (FM.refl _) ((FM.refl _).bind fun _ => (FM.ite (FM.refl _) ((FM.refl _).bind fun _ => (FM.ite ((FM.refl _).bind fun _ => (ih.typ.bind fun _ => (FM.refl _))) ((FM.refl _).bind fun _ => (FM.ite ih.chan ((FM.refl _).bind fun _ => (FM.ite (ih.typ.bind fun _ => ((FM.refl _).bind fun _ => (ih.types.bind fun _ => (FM.refl _)))) ((FM.refl _).bind fun _ => (FM.ite ((FM.refl _).bind fun _ => ((FM.refl _).bind fun _ => ((FM.ite (FM.refl _) ih.types).bind fun _ => (ih.res _ _ _ _)))) (FM.refl _))))))))))))))))
  ·intros; rw [pChan, pChan]; exact ((FM.refl _).bind fun _ => ((FM.refl _).bind fun _ => (ih.typ.bind fun _ => (FM.refl _))))
  ·intros; rw [pTypes, pTypes]; exact (ih.typ.bind fun _ => (ih.typesGo _))
  ·intros; rw [pTypesGo, pTypesGo]; exact ((FM.refl _).bind fun _ => ((FM.refl _).bind fun _ => (FM.ite (ih.typ.bind fun _ => (ih.typesGo _)) ((FM.refl _).bind fun _ => (FM.refl _)))))
  ·intros; rw [pRes, pRes]; exact ((FM.refl _).bind fun _ => ((FM.refl _).bind fun _ => ((FM.ite (ih.typ.bind fun _ => (FM.refl _)) (FM.refl _)).bind fun _ => ((FM.ite (ih.block.bind fun _ => (FM.refl _)) (FM.refl _)).bind fun _ => (FM.refl _)))))
  ·intros; rw [pBlock, pBlock]; exact ((FM.refl _).bind fun _ => (ih.blockGo _ _))
  ·intros; rw [pBlockGo, pBlockGo]; exact ((FM.refl _).bind fun _ => ((FM.refl _).bind fun _ => (FM.ite (FM.refl _) (ih.stm.bind fun _ => (ih.blockGo _ _)))))
  ·intros; rw [pStm, pStm]; exact ((FM.refl _).bind fun _ => ((FM.refl _).bind fun _ => (FM.ite ((FM.refl _).bind fun _ => ((FM.refl _).bind fun _ => (ih.expr.bind fun _ => (FM.refl _)))) ((FM.refl _).bind fun _ => (FM.ite ((FM.refl _).bind fun _ => ((FM.refl _).bind fun _ => (ih.typ.bind fun _ => ((FM.refl _).bind fun _ => ((FM.ite (ih.expr.bind fun _ => (FM.refl _)) (FM.refl _)).bind fun _ => (FM.refl _)))))) ((FM.refl _).bind fun _ => (FM.ite ih.fork ((FM.refl _).bind fun _ => (FM.ite (ih.expr.bind fun _ => (ih.block.bind fun _ => (FM.refl _))) ((FM.refl _).bind fun _ => (FM.ite ((FM.refl _).bind fun _ => ((FM.ite (FM.refl _) (ih.expr.bind fun _ => (FM.refl _))).bind fun _ => (FM.refl _))) ((FM.refl _).bind fun _ => (FM.ite (ih.expr.bind fun _ => (FM.refl _)) ((FM.refl _).bind fun _ => (FM.ite ih.choice ((FM.refl _).bind fun _ => (FM.ite ih.block (ih.expr.bind fun _ => ((FM.refl _).bind fun _ => ((FM.refl _).bind fun _ => (FM.ite (ih.expr.bind fun _ => (FM.refl _)) ((FM.refl _).bind fun _ => (FM.ite (ih.expr.bind fun _ => (FM.refl _)) (FM.refl _))))))))))))))))))))))))
  ·intros; rw [pFork, pFork]; exact ((FM.refl _).bind fun _ => (ih.expr.bind fun _ => (ih.block.bind fun _ => ((FM.refl _).bind fun _ => ((FM.ite ((FM.refl _).bind fun _ => (FM.ite (ih.fork.bind fun _ => (FM.refl _)) (ih.block.bind fun _ => (FM.refl _)))) (FM.refl _)).bind fun _ => (FM.refl _))))))
  ·intros; rw [pChoice, pChoice]; exact ((FM.refl _).bind fun _ => ((FM.refl _).bind fun _ => (ih.choiceGo _ _)))
  ·intros; rw [pChoiceGo, pChoiceGo]; exact ((FM.refl _).bind fun _ => ((FM.refl _).bind fun _ => (FM.ite (FM.refl _) (ih.arm.bind fun _ => (ih.choiceGo _ _)))))
  ·intros; rw [pArm, pArm]; exact ((FM.refl _).bind fun _ => ((FM.refl _).bind fun _ => ((FM.refl _).bind fun _ => (FM.ite (ih.un.bind fun _ => (ih.block.bind fun _ => (FM.refl _))) (ih.expr.bind fun _ => ((FM.refl _).bind fun _ => (ih.expr.bind fun _ => (ih.block.bind fun _ => (FM.refl _)))))))))
  ·intros; rw [pExpr, pExpr]; exact (ih.bin _)
  ·intros; rw [pBin, pBin]; exact (FM.ite ih.un ((ih.bin _).bind fun _ => (ih.binGo _ _)))
  ·intros; rw [pBinGo, pBinGo]; exact ((FM.refl _).bind fun _ => ((FM.refl _).bind fun _ => (FM.ite (FM.refl _) ((ih.bin _).bind fun _ => ((FM.refl _).bind fun _ => (FM.ite (FM.refl _) (ih.binGo _ _)))))))
  ·intros; rw [pUn, pUn]; exact ((FM.refl _).bind fun _ => ((FM.refl _).bind fun _ => (FM.ite (ih.un.bind fun _ => (FM.refl _)) ih.post)))
  ·intros; rw [pPost, pPost]; exact (ih.prim.bind fun _ => (ih.postGo _))
  ·intros; rw [pPostGo, pPostGo]; exact ((FM.refl _).bind fun _ => ((FM.refl _).bind fun _ => (FM.ite ((FM.refl _).bind fun _ => ((FM.ite (FM.refl _) ((ih.list _).bind fun _ => (FM.refl _))).bind fun _ => ((FM.refl _).bind fun _ => (ih.postGo _)))) ((FM.refl _).bind fun _ => (FM.ite (ih.expr.bind fun _ => ((FM.refl _).bind fun _ => ((FM.refl _).bind fun _ => (ih.postGo _)))) ((FM.refl _).bind fun _ => (FM.ite ((FM.refl _).bind fun _ => ((FM.refl _).bind fun _ => (ih.postGo _))) (FM.refl _))))))))
  ·intros; rw [pList, pList]; exact (ih.expr.bind fun _ => (ih.listGo _ _))
  ·intros; rw [pListGo, pListGo]; exact ((FM.refl _).bind fun _ => ((FM.refl _).bind fun _ => (FM.ite (ih.expr.bind fun _ => (ih.listGo _ _)) ((FM.refl _).bind fun _ => (FM.refl _)))))
  ·intros; rw [pPrim, pPrim]; exact ((FM.refl _).bind fun _ => ((FM.refl _).bind fun _ => (FM.ite ((FM.refl _).bind fun _ => (FM.refl _)) (FM.ite ((FM.refl _).bind fun _ => (FM.refl _)) ((FM.refl _).bind fun _ => (FM.ite (FM.refl _) ((FM.refl _).bind fun _ => (FM.ite (FM.refl _) ((FM.refl _).bind fun _ => (FM.ite ((ih.list _).bind fun _ => (FM.ite (FM.refl _) (FM.refl _))) ((FM.refl _).bind fun _ => (FM.ite ((ih.list _).bind fun _ => (FM.refl _)) ((FM.refl _).bind fun _ => (FM.ite ((FM.refl _).bind fun _ => (ih.expr.bind fun _ => ((FM.refl _).bind fun _ => (ih.expr.bind fun _ => ((FM.refl _).bind fun _ => (FM.refl _)))))) ((FM.refl _).bind fun _ => (FM.ite ((FM.refl _).bind fun _ => (ih.expr.bind fun _ => ((FM.refl _).bind fun _ => (FM.refl _)))) ((FM.refl _).bind fun _ => (FM.ite (ih.chan.bind fun _ => (FM.refl _)) ((FM.refl _).bind fun _ => (FM.ite (ih.prog _) (FM.refl _)))))))))))))))))))))
  ·intros; rw [pProg, pProg]; exact ((FM.refl _).bind fun _ => ((FM.refl _).bind fun _ => (ih.progGo _ _ _)))
  ·intros; rw [pProgGo, pProgGo]; exact ((FM.refl _).bind fun _ => ((FM.refl _).bind fun _ => (FM.ite (ih.res _ _ _ _) ((FM.ite (FM.refl _) (FM.refl _)).bind fun _ => ((FM.refl _).bind fun _ => ((FM.refl _).bind fun _ => ((FM.refl _).bind fun _ => (ih.typ.bind fun _ => ((FM.refl _).bind fun _ => (ih.progGo _ _ _))))))))))
theorem fuel_top : ∀ (f : Nat) (ks : List Int), FM (pTop tx src T f ks) (pTop tx src T (f + 1) ks)
 | 0, _ => FM.none
 | f + 1, ks => by
  have ih := fuel_all (tx := tx) (src := src) (T := T) f
  rw [pTop, pTop]; exact ((FM.refl _).bind fun _ => ((FM.refl _).bind fun _ => (FM.ite ((FM.refl _).bind fun _ => ((FM.refl _).bind fun _ => ((FM.refl _).bind fun _ => (ih.typ.bind fun _ => ((FM.refl _).bind fun _ => ((FM.refl _).bind fun _ => (fuel_top f _))))))) (FM.refl _))))
theorem fuel_top2 : ∀ (f : Nat) (n : Int) (ks : List Int), FM (pTop2 tx src T f n ks) (pTop2 tx src T (f + 1) n ks)
 | 0, _, _ => FM.none
 | f + 1, n, ks => by
  have ih := fuel_all (tx := tx) (src := src) (T := T) f
  rw [pTop2, pTop2]; exact (FM.refl _).bind fun _ => FM.iteS (ih.stm.bind fun _ => fuel_top2 f _ _) (FM.refl _)
theorem fuel_program {f g : Nat} (h : f ≤ g) : FM (pProgram tx src T f) (pProgram tx src T g) := by
 induction g with
 | zero =>
  obtain rfl : f = 0 := by omega
  exact FM.refl _
 | succ g ih =>
  by_cases c : f = g + 1
  ·subst c; exact FM.refl _
  ·exact (ih (by omega)).trans (FM.bind (fuel_top g _) fun _ => fuel_top2 g _ _)
end
def SimM (p : Pair) {α : Type} (m1 m2 : PM α) (R : α → α → Prop) : Prop := Sim p m1 m2 R ∧ Mono p.s1 p.T1 m1 ∧ Mono p.s2 p.T2 m2
section
variable {p : Pair} {tx : Nat → List UInt8} {α β : Type}
theorem SimM.bind {m1 m2 : PM α} {k1 k2 : α → PM β} {R' : β → β → Prop} (h : SimM p m1 m2 Eq) (hk : ∀ v, SimM p (k1 v) (k2 v) R') : SimM p (bindP m1 k1) (bindP m2 k2) R' :=
 ⟨Sim.bindE h.1 (fun v => (hk v).1) (fun v => (hk v).2.1) (fun v => (hk v).2.2), h.2.1.bind fun v => (hk v).2.1, h.2.2.bind fun v => (hk v).2.2⟩
theorem SimM.bindT {m1 m2 : PM α} {k1 k2 : α → PM β} {R' : β → β → Prop} (h : SimM p m1 m2 (fun _ _ => True)) (hk : ∀ a b, SimM p (k1 a) (k2 b) R') : SimM p (bindP m1 k1) (bindP m2 k2) R' :=
 ⟨Sim.bind h.1 (fun a b _ => (hk a b).1) (fun v => (hk v v).2.1) (fun v => (hk v v).2.2), h.2.1.bind fun v => (hk v v).2.1, h.2.2.bind fun v => (hk v v).2.2⟩
theorem SimM.ite {c : Prop} [Decidable c] {m1 m2 n1 n2 : PM α} {R : α → α → Prop} (h1 : SimM p m1 m2 R) (h2 : SimM p n1 n2 R) : SimM p (if c then m1 else n1) (if c then m2 else n2) R := by split <;> assumption
theorem SimM.place {k1 k2 : Int → PM β} {R' : β → β → Prop} (hk : ∀ a b, SimM p (k1 a) (k2 b) R') : SimM p (bindP (mPlace p.s1 p.T1) k1) (bindP (mPlace p.s2 p.T2) k2) R' :=
 ⟨Sim.place fun a b => (hk a b).1, Mono.place.bind fun v => (hk v v).2.1, Mono.place.bind fun v => (hk v v).2.2⟩
theorem SimM.want {t : List UInt8} {k1 k2 : Int → PM β} {R' : β → β → Prop} (hk : ∀ a b, SimM p (k1 a) (k2 b) R') : SimM p (bindP (mWant tx p.s1 p.T1 t) k1) (bindP (mWant tx p.s2 p.T2 t) k2) R' :=
 ⟨Sim.want (fun a b => (hk a b).1) (fun v => (hk v v).2.1) (fun v => (hk v v).2.2), Mono.want.bind fun v => (hk v v).2.1, Mono.want.bind fun v => (hk v v).2.2⟩
theorem SimM.knd {k1 k2 : Int → PM β} {R' : β → β → Prop} (hk : ∀ a, SimM p (k1 a) (k2 a) R') : SimM p (bindP (mKnd p.T1) k1) (bindP (mKnd p.T2) k2) R' :=
 ⟨Sim.knd (fun a => (hk a).1) (fun v => (hk v).2.1) (fun v => (hk v).2.2), Mono.knd.bind fun v => (hk v).2.1, Mono.knd.bind fun v => (hk v).2.2⟩
theorem SimM.got {t : List UInt8} : SimM p (mGot tx p.T1 t) (mGot tx p.T2 t) Eq := ⟨Sim.got, Mono.got, Mono.got⟩
theorem SimM.is {t : List UInt8} : SimM p (mIs tx p.T1 t) (mIs tx p.T2 t) Eq := ⟨Sim.is, Mono.is, Mono.is⟩
theorem SimM.node {k a b n : Int} {nm : List UInt8} {ks : List Int} : SimM p (mNode k a nm n ks) (mNode k b nm n ks) Eq := ⟨Sim.node, Mono.node, Mono.node⟩
theorem SimM.name : SimM p (mName p.s1 p.T1) (mName p.s2 p.T2) Eq := ⟨Sim.name, Mono.name, Mono.name⟩
theorem SimM.num : SimM p (mNum p.s1 p.T1) (mNum p.s2 p.T2) Eq := ⟨Sim.num, Mono.num, Mono.num⟩
theorem SimM.opt : SimM p (mOpt p.s1 p.T1) (mOpt p.s2 p.T2) Eq := ⟨Sim.opt, Mono.opt, Mono.opt⟩
theorem SimM.pure {v : α} : SimM p (pureP v) (pureP v) Eq := ⟨Sim.pure, Mono.pure, Mono.pure⟩
theorem SimM.pureT {v w : α} : SimM p (pureP v) (pureP w) (fun _ _ => True) := ⟨Sim.pureT, Mono.pure, Mono.pure⟩
theorem SimM.wantT {t : List UInt8} : SimM p (mWant tx p.s1 p.T1 t) (mWant tx p.s2 p.T2 t) (fun _ _ => True) := ⟨Sim.wantT, Mono.want, Mono.want⟩
theorem SimM.fail {R : α → α → Prop} : SimM p (mFail p.s1 p.T1 : PM α) (mFail p.s2 p.T2) R := ⟨Sim.fail, Mono.fail, Mono.fail⟩
theorem SimM.ended {k a b : Int} {nm : List UInt8} {ks : List Int} : SimM p (mEnd tx p.s1 p.T1 k a nm ks) (mEnd tx p.s2 p.T2 k b nm ks) Eq := ⟨Sim.ended, Mono.ended, Mono.ended⟩
theorem SimM.op {lv : Int} : SimM p (mOp tx p.T1 lv) (mOp tx p.T2 lv) Eq := ⟨Sim.op, Mono.op, Mono.op⟩
theorem SimM.lim {ks : List Int} : SimM p (mLim ks) (mLim ks) Eq := ⟨Sim.lim, Mono.lim, Mono.lim⟩
theorem SimM.none {m1 m2 : PM α} {R : α → α → Prop} (h1 : ∀ s, m1 s = .none) (h2 : ∀ s, m2 s = .none) : SimM p m1 m2 R := ⟨fun s1 s2 _ _ => .inl (h1 s1), fun s => by rw [h1]; trivial, fun s => by rw [h2]; trivial⟩
structure IHP (p : Pair) (tx : Nat → List UInt8) (f : Nat) : Prop where
 typ : SimM p (pTyp tx p.s1 p.T1 f ) (pTyp tx p.s2 p.T2 f ) Eq
 chan : SimM p (pChan tx p.s1 p.T1 f ) (pChan tx p.s2 p.T2 f ) Eq
 types : SimM p (pTypes tx p.s1 p.T1 f ) (pTypes tx p.s2 p.T2 f ) Eq
 typesGo : ∀ (ks : List Int), SimM p (pTypesGo tx p.s1 p.T1 f ks) (pTypesGo tx p.s2 p.T2 f ks) Eq
 res : ∀ (k : Int) (a b : Int) (nm : List UInt8) (ks : List Int), SimM p (pRes tx p.s1 p.T1 f k a nm ks) (pRes tx p.s2 p.T2 f k b nm ks) Eq
 block : SimM p (pBlock tx p.s1 p.T1 f ) (pBlock tx p.s2 p.T2 f ) Eq
 blockGo : ∀ (a b : Int) (ks : List Int), SimM p (pBlockGo tx p.s1 p.T1 f a ks) (pBlockGo tx p.s2 p.T2 f b ks) Eq
 stm : SimM p (pStm tx p.s1 p.T1 f ) (pStm tx p.s2 p.T2 f ) Eq
 fork : SimM p (pFork tx p.s1 p.T1 f ) (pFork tx p.s2 p.T2 f ) Eq
 choice : SimM p (pChoice tx p.s1 p.T1 f ) (pChoice tx p.s2 p.T2 f ) Eq
 choiceGo : ∀ (a b : Int) (ks : List Int), SimM p (pChoiceGo tx p.s1 p.T1 f a ks) (pChoiceGo tx p.s2 p.T2 f b ks) Eq
 arm : SimM p (pArm tx p.s1 p.T1 f ) (pArm tx p.s2 p.T2 f ) Eq
 expr : SimM p (pExpr tx p.s1 p.T1 f ) (pExpr tx p.s2 p.T2 f ) Eq
 bin : ∀ (lv : Int), SimM p (pBin tx p.s1 p.T1 f lv) (pBin tx p.s2 p.T2 f lv) Eq
 binGo : ∀ (lv : Int) (e : Int), SimM p (pBinGo tx p.s1 p.T1 f lv e) (pBinGo tx p.s2 p.T2 f lv e) Eq
 un : SimM p (pUn tx p.s1 p.T1 f ) (pUn tx p.s2 p.T2 f ) Eq
 post : SimM p (pPost tx p.s1 p.T1 f ) (pPost tx p.s2 p.T2 f ) Eq
 postGo : ∀ (e : Int), SimM p (pPostGo tx p.s1 p.T1 f e) (pPostGo tx p.s2 p.T2 f e) Eq
 list : ∀ (t : List UInt8), SimM p (pList tx p.s1 p.T1 f t) (pList tx p.s2 p.T2 f t) Eq
 listGo : ∀ (t : List UInt8) (ks : List Int), SimM p (pListGo tx p.s1 p.T1 f t ks) (pListGo tx p.s2 p.T2 f t ks) Eq
 prim : SimM p (pPrim tx p.s1 p.T1 f ) (pPrim tx p.s2 p.T2 f ) Eq
 prog : ∀ (a b : Int), SimM p (pProg tx p.s1 p.T1 f a) (pProg tx p.s2 p.T2 f b) Eq
 progGo : ∀ (a b : Int) (nm : List UInt8) (ks : List Int), SimM p (pProgGo tx p.s1 p.T1 f a nm ks) (pProgGo tx p.s2 p.T2 f b nm ks) Eq
theorem sim_all : ∀ f, IHP p tx f := by
 intro f
 induction f with
 | zero =>
  constructor
  all_goals intros
  all_goals exact SimM.none (fun _ => rfl) (fun _ => rfl)
 | succ f ih =>
  have q1 := monoN_all (tx := tx) (src := p.s1) (T := p.T1) f
  have q2 := monoN_all (tx := tx) (src := p.s2) (T := p.T2) f
  constructor
  ·intros; rw [pTyp, pTyp]; exact (SimM.place fun _ _ => (SimM.knd fun _ => (SimM.ite (SimM.name.bind fun _ => SimM.node) (SimM.got.bind fun _ => (SimM.ite SimM.node (SimM.got.bind fun _ => (SimM.ite SimM.node (SimM.got.bind fun _ => (SimM.ite (SimM.want fun _ _ => (ih.typ.bind fun _ => SimM.node)) (SimM.is.bind fun _ => (SimM.ite ih.chan (SimM.got.bind fun _ => (SimM.ite (ih.typ.bind fun _ => (SimM.want fun _ _ => (ih.types.bind fun _ => SimM.node))) (SimM.got.bind fun _ => (SimM.ite (SimM.want fun _ _ => (SimM.got.bind fun _ => ((SimM.ite SimM.pure ih.types).bind fun _ => (ih.res _ _ _ _ _)))) SimM.fail)))))))))))))))
  ·intros; rw [pChan, pChan]; exact (SimM.want fun _ _ => (SimM.want fun _ _ => (ih.typ.bind fun _ => SimM.node)))
  ·intros; rw [pTypes, pTypes]; exact (ih.typ.bind fun _ => (ih.typesGo _))
  ·intros; rw [pTypesGo, pTypesGo]; exact (SimM.lim.bind fun _ => (SimM.got.bind fun _ => (SimM.ite (ih.typ.bind fun _ => (ih.typesGo _)) (SimM.want fun _ _ => SimM.pure))))
  ·intros; rw [pRes, pRes]; exact (SimM.lim.bind fun _ => (SimM.got.bind fun _ => ((SimM.ite (ih.typ.bind fun _ => SimM.pure) SimM.pure).bind fun _ => ((SimM.ite (ih.block.bind fun _ => SimM.pure) SimM.pure).bind fun _ => SimM.node))))
  ·intros; rw [pBlock, pBlock]; exact (SimM.want fun _ _ => (ih.blockGo _ _ _))
  ·intros; rw [pBlockGo, pBlockGo]; exact (SimM.lim.bind fun _ => (SimM.got.bind fun _ => (SimM.ite SimM.node (ih.stm.bind fun _ => (ih.blockGo _ _ _)))))
  ·intros; rw [pStm, pStm]; exact (SimM.place fun _ _ => (SimM.got.bind fun _ => (SimM.ite (SimM.name.bind fun _ => (SimM.want fun _ _ => (ih.expr.bind fun _ => SimM.ended))) (SimM.got.bind fun _ => (SimM.ite (SimM.name.bind fun _ => (SimM.want fun _ _ => (ih.typ.bind fun _ => (SimM.got.bind fun _ => ((SimM.ite (ih.expr.bind fun _ => SimM.pure) SimM.pure).bind fun _ => SimM.ended))))) (SimM.is.bind fun _ => (SimM.ite ih.fork (SimM.got.bind fun _ => (SimM.ite (ih.expr.bind fun _ => (ih.block.bind fun _ => SimM.node)) (SimM.got.bind fun _ => (SimM.ite (SimM.is.bind fun _ => ((SimM.ite SimM.pure (ih.expr.bind fun _ => SimM.pure)).bind fun _ => SimM.ended)) (SimM.got.bind fun _ => (SimM.ite (ih.expr.bind fun _ => SimM.ended) (SimM.is.bind fun _ => (SimM.ite ih.choice (SimM.is.bind fun _ => (SimM.ite ih.block (ih.expr.bind fun _ => (SimM.place fun _ _ => (SimM.got.bind fun _ => (SimM.ite (ih.expr.bind fun _ => SimM.ended) (SimM.got.bind fun _ => (SimM.ite (ih.expr.bind fun _ => SimM.ended) SimM.ended)))))))))))))))))))))))
  ·intros; rw [pFork, pFork]; exact (SimM.want fun _ _ => (ih.expr.bind fun _ => (ih.block.bind fun _ => (SimM.got.bind fun _ => ((SimM.ite (SimM.is.bind fun _ => (SimM.ite (ih.fork.bind fun _ => SimM.pure) (ih.block.bind fun _ => SimM.pure))) SimM.pure).bind fun _ => SimM.node)))))
  ·intros; rw [pChoice, pChoice]; exact (SimM.want fun _ _ => (SimM.want fun _ _ => (ih.choiceGo _ _ _)))
  ·intros; rw [pChoiceGo, pChoiceGo]; exact (SimM.lim.bind fun _ => (SimM.got.bind fun _ => (SimM.ite SimM.node (ih.arm.bind fun _ => (ih.choiceGo _ _ _)))))
  ·intros; rw [pArm, pArm]
   have hw : ∀ (a b c : Int), SimM p (bindP (mWant tx p.s1 p.T1 [60, 45, 61]) fun _ => (bindP (pExpr tx p.s1 p.T1 f) fun e => (bindP (pBlock tx p.s1 p.T1 f) fun d => (mNode 44 a [ ] 0 [ c , e , d ])))) (bindP (mWant tx p.s2 p.T2 [60, 45, 61]) fun _ => (bindP (pExpr tx p.s2 p.T2 f) fun e => (bindP (pBlock tx p.s2 p.T2 f) fun d => (mNode 44 b [ ] 0 [ c , e , d ])))) Eq := fun a b c => (SimM.want fun _ _ => (ih.expr.bind fun _ => (ih.block.bind fun _ => SimM.node)))
   have hx : SimM p (bindP (mName p.s1 p.T1) fun nm => (bindP (mWant tx p.s1 p.T1 [61]) fun _ => (bindP (mIs tx p.T1 [60, 45]) fun bq => (if bq = true then (pureP nm) else (mFail p.s1 p.T1))))) (bindP (mName p.s2 p.T2) fun nm => (bindP (mWant tx p.s2 p.T2 [61]) fun _ => (bindP (mIs tx p.T2 [60, 45]) fun bq => (if bq = true then (pureP nm) else (mFail p.s2 p.T2))))) Eq := (SimM.name.bind fun _ => (SimM.want fun _ _ => (SimM.is.bind fun _ => (SimM.ite SimM.pure SimM.fail))))
   have hr : ∀ (a b : Int) (nm : List UInt8), SimM p ((bindP (mGot tx p.T1 [60, 45]) fun bq => (if bq = true then (bindP (pUn tx p.s1 p.T1 f) fun c => (bindP (pBlock tx p.s1 p.T1 f) fun d => (mNode 43 a nm 0 [ c , d ]))) else (bindP (pExpr tx p.s1 p.T1 f) fun c => (bindP (mWant tx p.s1 p.T1 [60, 45, 61]) fun _ => (bindP (pExpr tx p.s1 p.T1 f) fun e => (bindP (pBlock tx p.s1 p.T1 f) fun d => (mNode 44 a [ ] 0 [ c , e , d ])))))))) ((bindP (mGot tx p.T2 [60, 45]) fun bq => (if bq = true then (bindP (pUn tx p.s2 p.T2 f) fun c => (bindP (pBlock tx p.s2 p.T2 f) fun d => (mNode 43 b nm 0 [ c , d ]))) else (bindP (pExpr tx p.s2 p.T2 f) fun c => (bindP (mWant tx p.s2 p.T2 [60, 45, 61]) fun _ => (bindP (pExpr tx p.s2 p.T2 f) fun e => (bindP (pBlock tx p.s2 p.T2 f) fun d => (mNode 44 b [ ] 0 [ c , e , d ])))))))) Eq := fun a b nm => (SimM.got.bind fun _ => (SimM.ite (ih.un.bind fun _ => (ih.block.bind fun _ => SimM.node)) (ih.expr.bind fun _ => (SimM.want fun _ _ => (ih.expr.bind fun _ => (ih.block.bind fun _ => SimM.node))))))
   exact SimM.want fun a b => ⟨Sim.arm (fun s h => h.1) (fun s h => h.1) (fun s1 s2 ha hm => by
    rw [kn_same (p := p) (show s1.a < p.m by omega), kn_same (p := p) hm, ha]) hx.1 (MonoN.name.bind fun _ => (Mono.want.bind fun _ => (Mono.is.bind fun _ => (Mono.ite Mono.pure Mono.fail)))) (MonoN.name.bind fun _ => (Mono.want.bind fun _ => (Mono.is.bind fun _ => (Mono.ite Mono.pure Mono.fail)))) (Mono.name.bind fun _ => (Mono.want.bind fun _ => (Mono.is.bind fun _ => (Mono.ite Mono.pure Mono.fail)))) (Mono.name.bind fun _ => (Mono.want.bind fun _ => (Mono.is.bind fun _ => (Mono.ite Mono.pure Mono.fail))))
    (fun nm => (hr a b nm).1) (fun nm => (hr a b nm).2.1) (fun nm => (hr a b nm).2.2)
    (MonoN.got (MonoN.bind q1.1 fun c => (hw a b c).2.1)) (MonoN.got (MonoN.bind q2.1 fun c => (hw a b c).2.2)),
    (Mono.iteS (Mono.name.bind fun _ => (Mono.want.bind fun _ => (Mono.is.bind fun _ => (Mono.ite Mono.pure Mono.fail)))) Mono.pure).bind fun nm => (hr a b nm).2.1, (Mono.iteS (Mono.name.bind fun _ => (Mono.want.bind fun _ => (Mono.is.bind fun _ => (Mono.ite Mono.pure Mono.fail)))) Mono.pure).bind fun nm => (hr a b nm).2.2⟩
  ·intros; rw [pExpr, pExpr]; exact (ih.bin _)
  ·intros; rw [pBin, pBin]; exact (SimM.ite ih.un ((ih.bin _).bind fun _ => (ih.binGo _ _)))
  ·intros; rw [pBinGo, pBinGo]; exact (SimM.place fun _ _ => (SimM.op.bind fun _ => (SimM.ite SimM.pure ((ih.bin _).bind fun _ => (SimM.node.bind fun _ => (SimM.ite SimM.pure (ih.binGo _ _)))))))
  ·intros; rw [pUn, pUn]; exact (SimM.place fun _ _ => (SimM.op.bind fun _ => (SimM.ite (ih.un.bind fun _ => SimM.node) ih.post)))
  ·intros; rw [pPost, pPost]; exact (ih.prim.bind fun _ => (ih.postGo _))
  ·intros; rw [pPostGo, pPostGo]; exact (SimM.place fun _ _ => (SimM.got.bind fun _ => (SimM.ite (SimM.got.bind fun _ => ((SimM.ite SimM.pure ((ih.list _).bind fun _ => SimM.pure)).bind fun _ => (SimM.node.bind fun _ => (ih.postGo _)))) (SimM.got.bind fun _ => (SimM.ite (ih.expr.bind fun _ => (SimM.want fun _ _ => (SimM.node.bind fun _ => (ih.postGo _)))) (SimM.got.bind fun _ => (SimM.ite (SimM.num.bind fun _ => (SimM.node.bind fun _ => (ih.postGo _))) SimM.pure)))))))
  ·intros; rw [pList, pList]; exact (ih.expr.bind fun _ => (ih.listGo _ _))
  ·intros; rw [pListGo, pListGo]; exact (SimM.lim.bind fun _ => (SimM.got.bind fun _ => (SimM.ite (ih.expr.bind fun _ => (ih.listGo _ _)) (SimM.want fun _ _ => SimM.pure))))
  ·intros; rw [pPrim, pPrim]; exact (SimM.place fun _ _ => (SimM.knd fun _ => (SimM.ite (SimM.num.bind fun _ => SimM.node) (SimM.ite (SimM.name.bind fun _ => SimM.node) (SimM.got.bind fun _ => (SimM.ite SimM.node (SimM.got.bind fun _ => (SimM.ite SimM.node (SimM.got.bind fun _ => (SimM.ite ((ih.list _).bind fun _ => (SimM.ite SimM.node SimM.node)) (SimM.got.bind fun _ => (SimM.ite ((ih.list _).bind fun _ => SimM.node) (SimM.got.bind fun _ => (SimM.ite (SimM.want fun _ _ => (ih.expr.bind fun _ => (SimM.want fun _ _ => (ih.expr.bind fun _ => (SimM.want fun _ _ => SimM.node))))) (SimM.got.bind fun _ => (SimM.ite (SimM.want fun _ _ => (ih.expr.bind fun _ => (SimM.want fun _ _ => SimM.node))) (SimM.got.bind fun _ => (SimM.ite (ih.chan.bind fun _ => SimM.node) (SimM.got.bind fun _ => (SimM.ite (ih.prog _ _) SimM.fail))))))))))))))))))))
  ·intros; rw [pProg, pProg]; exact (SimM.opt.bind fun _ => (SimM.want fun _ _ => (ih.progGo _ _ _ _)))
  ·intros; rw [pProgGo, pProgGo]; exact (SimM.lim.bind fun _ => (SimM.got.bind fun _ => (SimM.ite (ih.res _ _ _ _ _) (SimM.bindT (SimM.ite SimM.wantT SimM.pureT) fun _ _ => (SimM.place fun _ _ => (SimM.name.bind fun _ => (SimM.want fun _ _ => (ih.typ.bind fun _ => (SimM.node.bind fun _ => (ih.progGo _ _ _ _))))))))))
theorem sim_top : ∀ (f : Nat) (ks : List Int), SimM p (pTop tx p.s1 p.T1 f ks) (pTop tx p.s2 p.T2 f ks) Eq
 | 0, _ => SimM.none (fun _ => rfl) (fun _ => rfl)
 | f + 1, ks => by
  have ih := sim_all (p := p) (tx := tx) f
  rw [pTop, pTop]; exact (SimM.lim.bind fun _ => (SimM.is.bind fun _ => (SimM.ite (SimM.want fun _ _ => (SimM.name.bind fun _ => (SimM.want fun _ _ => (ih.typ.bind fun _ => (SimM.want fun _ _ => (SimM.node.bind fun _ => (sim_top f _))))))) SimM.pure)))
theorem some_same {i : Nat} (h : i < p.m) : i < p.T1.length ↔ i < p.T2.length := by
 have := p.ok i h
 constructor
 ·intro c
  rw [List.getElem?_eq_getElem c] at this
  apply Classical.byContradiction; intro q
  rw [List.getElem?_eq_none (by omega)] at this; exact this
 ·intro c
  rw [List.getElem?_eq_getElem c] at this
  apply Classical.byContradiction; intro q
  rw [List.getElem?_eq_none (by omega)] at this; exact this
theorem SimM.iteS {c1 c2 : PS → Prop} [DecidablePred c1] [DecidablePred c2] {m1 m2 n1 n2 : PM α} {R : α → α → Prop} (hc : ∀ s1 s2 : PS, s1.a = s2.a → s1.a < p.m → (c1 s1 ↔ c2 s2)) (hm : SimM p m1 m2 R) (hn : SimM p n1 n2 R) :
  SimM p (fun s => if c1 s then m1 s else n1 s) (fun s => if c2 s then m2 s else n2 s) R := by
 refine ⟨?_, Mono.iteS hm.2.1 hn.2.1, Mono.iteS hm.2.2 hn.2.2⟩
 intro s1 s2 ha hne
 by_cases h : s1.a < p.m
 ·by_cases q : c1 s1
  ·have := hm.1 s1 s2 ha hne
   unfold SM at this ⊢
   simp only [if_pos q, if_pos ((hc s1 s2 ha h).1 q)]; exact this
  ·have := hn.1 s1 s2 ha hne
   unfold SM at this ⊢
   simp only [if_neg q, if_neg (fun r => q ((hc s1 s2 ha h).2 r))]; exact this
 ·exact Sim.late (Mono.iteS hm.2.1 hn.2.1) (Mono.iteS hm.2.2 hn.2.2) ha (by omega)
theorem sim_top2 : ∀ (f : Nat) (n : Int) (ks : List Int), SimM p (pTop2 tx p.s1 p.T1 f n ks) (pTop2 tx p.s2 p.T2 f n ks) Eq
 | 0, _, _ => SimM.none (fun _ => rfl) (fun _ => rfl)
 | f + 1, n, ks => by
  have ih := sim_all (p := p) (tx := tx) f
  rw [pTop2, pTop2]
  refine SimM.lim.bind fun _ => SimM.iteS ?_ (ih.stm.bind fun _ => sim_top2 f n _) SimM.node
  intro s1 s2 ha h
  rw [← ha]
  exact some_same h
theorem sim_program (f : Nat) : Sim p (pProgram tx p.s1 p.T1 f) (pProgram tx p.s2 p.T2 f) Eq := ((sim_top f _).bind fun _ => sim_top2 f _ _).1
end
end Go.Proofs.Ytehmhhlhlipbnaa.Vs
