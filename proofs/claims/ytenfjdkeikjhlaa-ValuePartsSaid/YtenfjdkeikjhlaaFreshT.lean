/-
  Trees that live in what a call has made: whoever keeps that, keeps them.
-/
import Derived.Test.YtenfjdkeikjhlaaVj
import Derived.Test.YtenfjdkeikjhlaaVjV
set_option autoImplicit false
namespace Go.VI
/-- H' keeps what H has from block n on, in families from n on, but for block b and family f. -/
def KeepsN (n : Nat) (b : Option Nat) (f : Option Nat) (H H' : AH) : Prop :=
  ∀ c x, n ≤ c → (∀ q, b = some q → c ≠ q) → H.at c = some x → (∀ g, famid x = some g → n ≤ g) → (famid x = none ∨ famid x ≠ f) → H'.at c = some x
/-- A tree that was made from heap size n on. -/
def FS (n : Nat) (H : AH) (v : V) (a : List AV) : Prop := ∀ H', KeepsN n none none H H' → VA H' v a
/-- Trees, as FS, that do not look at block b and family f. -/
def QL (n b : Nat) (f : Option Nat) (H : AH) (l : List V) (cs : List AV) : Prop := ∀ H', KeepsN n (some b) f H H' → LA H' l cs
theorem KeepsN.refl (n : Nat) (b f : Option Nat) (H : AH) : KeepsN n b f H H := fun _ _ _ _ h _ _ => h
theorem FS.va {n : Nat} {H : AH} {v : V} {a : List AV} (h : FS n H v a) : VA H v a := h H (KeepsN.refl _ _ _ _)
theorem FS.ext {n : Nat} {H H' : AH} {v : V} {a : List AV} (h : FS n H v a) (E : Ext H H') : FS n H' v a := fun H2 k => h H2 fun c x h1 h2 h3 h4 h5 => k c x h1 h2 (E.keep _ _ h3) h4 h5
theorem QL.ext {n b : Nat} {f : Option Nat} {H H' : AH} {l : List V} {cs : List AV} (h : QL n b f H l cs) (E : Ext H H') : QL n b f H' l cs := fun H2 k => h H2 fun c x h1 h2 h3 h4 h5 => k c x h1 h2 (E.keep _ _ h3) h4 h5
theorem FS.lower {n m : Nat} {H : AH} {v : V} {a : List AV} (h : FS n H v a) (hm : m ≤ n) : FS m H v a := fun H2 k => h H2 fun c x h1 h2 h3 h4 h5 => k c x (by omega) h2 h3 (fun g hg => by have := h4 g hg; omega) h5
theorem QL.step {n b b' : Nat} {f f' : Option Nat} {H H' : AH} {l : List V} {cs : List AV} (h : QL n b f H l cs) (W : Wf H) (K : Keeps H H' b f) (p : b' = b ∨ b' = H.n) (q : f' = none ∨ f' = f ∨ f' = some H.n) : QL n b' f' H' l cs := fun H2 k => h H2 fun c x h1 h2 h3 h4 h5 => by
  have hc := W.lt h3
  refine k c x h1 (fun r hr => ?_) (K c x h3 (h2 b rfl) h5) h4 ?_
  · injection hr with hr; subst hr
    rcases p with rfl | rfl
    · exact h2 _ rfl
    · omega
  · rcases q with rfl | rfl | rfl
    · exact Classical.em _
    · exact h5
    · refine .inr fun e => ?_
      have := W.famlt h3 e
      omega
theorem QL.snoc {n m b : Nat} {f : Option Nat} {H : AH} {l : List V} {cs a : List AV} {v : V} (h : QL n b f H l cs) (hv : FS m H v a) (hm : n ≤ m) (hb : b < m) (hf : ∀ g, f = some g → g < m) : QL n b f H (l ++ [v]) (cs ++ a) := fun H2 k =>
  (h H2 k).append (LA.one (hv H2 fun c x h1 h2 h3 h4 h5 => k c x (by omega) (fun q hq => by injection hq with hq; omega) h3 (fun g hg => by have := h4 g hg; omega) (by
    cases hx : famid x with
    | none => exact .inl rfl
    | some g =>
      refine .inr fun e => ?_
      have := h4 g hx
      have := hf g e.symm
      omega)))
/-- a list of one's own, with its trees, is a tree that the call has made -/
theorem FS.mk {n b : Nat} {f : Option Nat} {H : AH} {k i : Int} {l : List V} {s : AV} {cs : List AV} (O : Own H 24 3 s l.length cs b f) (h : QL n b f H l cs) (hb : n ≤ b) (hf : ∀ g, f = some g → n ≤ g) (hl : l.length ≤ 4611686018427387904) : FS n H (.mk k i l) [.int .i64 k, .int .i64 i, s] := fun H2 K => by
  have O2 := O.keep (H' := H2) fun x hx hfx => K b x hb (fun q hq => by cases hq) hx (fun g hg => hf g (by rw [← hfx, hg])) (Classical.em _)
  obtain ⟨off, cap, rfl, hc, hr⟩ := O2.read
  exact .mk _ _ _ _ (.sl l _ off cap cs hr hc hl (h H2 fun c x h1 h2 h3 h4 h5 => K c x h1 (fun q hq => by cases hq) h3 h4 (Classical.em _)))
end Go.VI
