/-
 The reader's lists of kids; what is said of the parser's parts.
-/
import Derived.Test.YtehmhhlhlipbnaaParse4
set_option autoImplicit false
set_option linter.unusedVariables false
set_option linter.unusedSimpArgs false
namespace Go.Proofs.Ytehmhhlhlipbnaa.Vs
open Go.VI Go.Proofs
variable {orc : CallF}
theorem si_fresh {H : AH} {b t : Nat} {ks : List Int} (h : H.at b = some (.row (ks.map (AV.int .i64)) t false none)) (hb : ks.length ≤ 4611686018427387904) : SI H ks (freshSl b ks.length ks.length) := by
 refine .sl ks (.mt b) 0 ks.length ?_ (Nat.le_refl _) hb
 rw [read_mt h (by simp), List.drop_zero, List.take_of_length_le (by simp)]
theorem own_row {H : AH} {b t : Nat} {ks : List Int} (h : H.at b = some (.row (ks.map (AV.int .i64)) t false none)) : Own H t 1 (freshSl b ks.length ks.length) ks.length (ks.map (AV.int .i64)) b none := own_fresh h (by simp)
theorem own_si {H : AH} {ks : List Int} {s : AV} {b : Nat} {f : Option Nat} (O : Own H 3 1 s ks.length (ks.map (AV.int .i64)) b f) (hb : ks.length ≤ 4611686018427387904) : SI H ks s := by
 obtain ⟨off, cap, rfl, hc, hr⟩ := O.read
 exact .sl ks (.mt b) off cap (by rw [Nat.mul_one] at hr; exact hr) hc hb
section
variable {H0 H H' : AH} {sv tv : AV} {tn rb : Nat} {G G' : LK → Prop} {st : PS} {x y y' : LK}
theorem RS.xlt (R : RS H0 sv tv tn rb G H st x) : x.1 < H.n ∧ ∀ g, x.2 = some g → g < H.n := by
 obtain ⟨nv, hA, hN⟩ := R.at_
 rcases hN with ⟨_, _, h⟩ | ⟨_, _, _, _, cs, h, _⟩
 ·rw [h]; exact ⟨R.w.lt hA, fun g hg => by cases hg⟩
 ·exact ⟨h.lt R.w, fun g hg => h.famlt R.w hg⟩
theorem RS.ap (R : RS H0 sv tv tn rb G H st x) (h : G y) : Ap y x ∧ y.1 ≠ rb := by
 obtain ⟨nv, hA, hN⟩ := R.at_
 refine ⟨?_, (R.g y h).1⟩
 rcases hN with ⟨_, _, hx⟩ | ⟨_, _, _, hx, _⟩
 ·subst hx
  refine ⟨(R.g y h).1, ?_⟩
  cases hy : y.2 with
  | none => exact .inl rfl
  | some q => exact .inr (by simp)
 ·exact (hx y h).symm
theorem NXL.anti (hG : ∀ y, G y → G' y) : ∀ {l : List ND} {cs : List AV}, NXL H rb G' l cs → NXL H rb G l cs
 | _, _, .nil => .nil
 | _, _, .cons v l s x cs ho hb hx k => .cons v l s x cs ho hb (fun y h => hx y (hG y h)) (k.anti hG)
theorem RS.anti (R : RS H0 sv tv tn rb G' H st x) (hG : ∀ y, G y → G' y) : RS H0 sv tv tn rb G H st x := by
 obtain ⟨nv, hA, hN⟩ := R.at_
 refine ⟨R.w, R.e, R.r0, R.al, ⟨nv, hA, ?_⟩, fun y hy => R.g y (hG y hy)⟩
 rcases hN with h | ⟨h1, h2, h3, h4, cs, h5, h6⟩
 ·exact .inl h
 ·exact .inr ⟨h1, h2, h3, fun y hy => h4 y (hG y hy), cs, h5, h6.anti (fun y hy => hy.imp (hG y) id)⟩
/-- a list that is new -/
theorem RS.add (R : RS H0 sv tv tn rb G H st x) (E : Ext H H') (h1 : H.n ≤ y.1) (h2 : y.1 < H'.n) (h3 : ∀ g, y.2 = some g → H.n ≤ g ∧ g < H'.n) : RS H0 sv tv tn rb (fun z => G z ∨ z = y) H' st x := by
 have R' := R.ext E
 obtain ⟨nv, hA, hN⟩ := R.at_
 have hrb := R.w.lt hA
 have old : ∀ z : LK, z.1 < H.n → (∀ g, z.2 = some g → g < H.n) → Ap z y := by
  intro z hz hg
  refine ⟨by omega, ?_⟩
  cases hq : z.2 with
  | none => exact .inl rfl
  | some q => exact .inr (fun c => by have := hg q hq; have := (h3 q c.symm).1; omega)
 refine ⟨R'.w, R'.e, R'.r0, R'.al, ⟨nv, E.keep _ _ hA, ?_⟩, ?_⟩
 ·rcases hN with h | ⟨a1, a2, a3, a4, cs, a5, a6⟩
  ·exact .inl h
  ·have hxl := R.xlt
   refine .inr ⟨a1, a2, a3, ?_, cs, a5.ext E, a6.move fun {s n ds z} O hz hy => ⟨O.ext E, ?_⟩⟩
   ·rintro z (hz | rfl)
    ·exact a4 z hz
    ·exact old x hxl.1 hxl.2
   ·rintro w ((hw | rfl) | rfl)
    ·exact hy w (.inl hw)
    ·exact old z (O.lt R.w) (fun g hg => O.famlt R.w hg)
    ·exact hy w (.inr rfl)
 ·rintro z (hz | rfl)
  ·exact R'.g z hz
  ·exact ⟨by omega, h2, fun g hg => (h3 g hg).2⟩
/-- a list has grown -/
theorem RS.app (R : RS H0 sv tv tn rb (fun z => G z ∨ z = y) H st x) (W : Wf H') (hn : H.n ≤ H'.n) (hn1 : H'.n ≤ H.n + 1) (E : Ext H0 H') (K : Keeps H H' y.1 y.2) (h1 : y'.1 = y.1 ∨ y'.1 = H.n) (h2 : y'.2 = none ∨ y'.2 = y.2 ∨ y'.2 = some H.n) (hl : y'.1 < H'.n) (hf : ∀ g, y'.2 = some g → g < H'.n) (hGy : ∀ z, G z → Ap z y) :
  RS H0 sv tv tn rb (fun z => G z ∨ z = y') H' st x ∧ (∀ z, G z → Ap z y') := by
 have hy := R.g y (.inr rfl)
 have stp : ∀ z : LK, z.1 < H.n → (∀ g, z.2 = some g → g < H.n) → Ap z y → Ap z y' := by
  intro z hz hg hA
  refine ⟨?_, ?_⟩
  ·rcases h1 with e | e
   ·rw [e]; exact hA.1
   ·omega
  ·rcases h2 with e | e | e
   ·cases hq : z.2 with
    | none => exact .inl rfl
    | some q => exact .inr (by rw [e]; simp)
   ·rw [e]; exact hA.2
   ·cases hq : z.2 with
    | none => exact .inl rfl
    | some q => exact .inr (by rw [e]; intro c; injection c with c; have := hg q hq; omega)
 obtain ⟨nv, hA, hN⟩ := R.at_
 have hrb := R.w.lt hA
 have kp : ∀ {el : TypeId} {e n : Nat} {s : AV} {ds : List AV} {z : LK}, Own H el e s n ds z.1 z.2 → Ap z y → Own H' el e s n ds z.1 z.2 := fun O hz => O.keep fun o ho hof => K _ _ ho hz.1 (by rw [hof]; exact hz.2)
 refine ⟨⟨W, E, R.r0, R.al, ⟨nv, K _ _ hA (Ne.symm hy.1) (.inl rfl), ?_⟩, ?_⟩, fun z hz => stp z (R.g z (.inl hz)).2.1 (R.g z (.inl hz)).2.2 (hGy z hz)⟩
 ·rcases hN with h | ⟨a1, a2, a3, a4, cs, a5, a6⟩
  ·exact .inl h
  ·have hxl := R.xlt
   have hxy := a4 y (.inr rfl)
   refine .inr ⟨a1, a2, a3, ?_, cs, kp a5 hxy, a6.move fun {s n ds z} O hz hyy => ⟨kp O (hyy y (.inl (.inr rfl))), ?_⟩⟩
   ·rintro z (hz | rfl)
    ·exact a4 z (.inl hz)
    ·exact stp x hxl.1 hxl.2 hxy
   ·rintro w ((hw | rfl) | rfl)
    ·exact hyy w (.inl (.inl hw))
    ·exact stp z (O.lt R.w) (fun g hg => O.famlt R.w hg) (hyy y (.inl (.inr rfl)))
    ·exact hyy w (.inr rfl)
 ·rintro z (hz | rfl)
  ·have := R.g z (.inl hz); exact ⟨this.1, by omega, fun g hg => by have := this.2.2 g hg; omega⟩
  ·refine ⟨?_, hl, hf⟩
   rcases h1 with e | e
   ·rw [e]; exact hy.1
   ·omega
/-- kids that are handed in: none, or in a list that is known -/
def KL (H : AH) (G : LK → Prop) (ks : List Int) (s : AV) : Prop := (ks = [] ∧ s = .nils) ∨ ∃ y, G y ∧ Own H 3 1 s ks.length (ks.map (AV.int .i64)) y.1 y.2
theorem KL.fr {x' : LK} {ks : List Int} {s : AV} (h : KL H G ks s) (R : RS H0 sv tv tn rb G H st x) (F : Fr2 rb H x H' x') : KL H' G ks s := by
 rcases h with h | ⟨y, hy, O⟩
 ·exact .inl h
 ·obtain ⟨h1, h2⟩ := R.ap hy
  exact .inr ⟨y, hy, own_fr O F h2 h1⟩
theorem KL.ext {ks : List Int} {s : AV} (h : KL H G ks s) (E : Ext H H') : KL H' G ks s := by
 rcases h with h | ⟨y, hy, O⟩
 ·exact .inl h
 ·exact .inr ⟨y, hy, O.ext E⟩
theorem KL.si {ks : List Int} {s : AV} (h : KL H G ks s) (hb : ks.length ≤ 4611686018427387904) : SI H ks s := by
 rcases h with ⟨rfl, rfl⟩ | ⟨y, hy, O⟩
 ·exact .nil
 ·exact own_si O hb
end
/-- what is apart from the reader: what was, and a list that has something -/
def GK (G : LK → Prop) (ks : List Int) (y : LK) : LK → Prop := fun z => G z ∨ (1 ≤ ks.length ∧ z = y)
structure KQ (H0 : AH) (n0 : Nat) (sv tv : AV) (tn rb : Nat) (G : LK → Prop) (H : AH) (st : PS) (x : LK) (ks : List Int) (kv : AV) (y : LK) : Prop where
 r : RS H0 sv tv tn rb (GK G ks y) H st x
 l : (ks = [] ∧ kv = .nils) ∨ (1 ≤ ks.length ∧ Own H 3 1 kv ks.length (ks.map (AV.int .i64)) y.1 y.2 ∧ n0 ≤ y.1 ∧ (∀ g, y.2 = some g → n0 ≤ g) ∧ ∀ z, G z → Ap z y)
section
variable {H0 H H' HS : AH} {sv tv kv : AV} {tn rb n0 : Nat} {G : LK → Prop} {st st' : PS} {x x' y : LK} {ks : List Int}
theorem KQ.start (R : RS H0 sv tv tn rb G H st x) : KQ H0 n0 sv tv tn rb G H st x [] .nils (0, none) := ⟨R.anti (fun y h => h.elim id (fun h => absurd h.1 (by simp))), .inl ⟨rfl, rfl⟩⟩
theorem KQ.fr (Q : KQ H0 n0 sv tv tn rb G H st x ks kv y) (R : RS H0 sv tv tn rb (GK G ks y) H' st' x') (F : Fr2 rb H x H' x') : KQ H0 n0 sv tv tn rb G H' st' x' ks kv y := by
 refine ⟨R, ?_⟩
 rcases Q.l with h | ⟨h1, O, h2⟩
 ·exact .inl h
 ·obtain ⟨a1, a2⟩ := Q.r.ap (y := y) (.inr ⟨h1, rfl⟩)
  exact .inr ⟨h1, own_fr O F a2 a1, h2⟩
theorem KQ.ext (Q : KQ H0 n0 sv tv tn rb G H st x ks kv y) (E : Ext H H') : KQ H0 n0 sv tv tn rb G H' st x ks kv y := Q.fr (Q.r.ext E) (Fr2.ofExt E)
theorem KQ.kl (Q : KQ H0 n0 sv tv tn rb G H st x ks kv y) : KL H (GK G ks y) ks kv := by
 rcases Q.l with h | ⟨h1, O, h2⟩
 ·exact .inl h
 ·exact .inr ⟨y, .inr ⟨h1, rfl⟩, O⟩
/-- a list of one's own, out of a new row -/
theorem KQ.row {vs : List Int} (R : RS H0 sv tv tn rb G H st x) (E : Ext H H') (hn : H'.n = H.n + 1) (h0 : n0 ≤ H.n) (A : H'.at H.n = some (.row (vs.map (AV.int .i64)) 3 false none)) (hv : 1 ≤ vs.length) : KQ H0 n0 sv tv tn rb G H' st x vs (freshSl H.n vs.length vs.length) (H.n, none) :=
 ⟨(R.add (y := (H.n, none)) E (Nat.le_refl _) (by show H.n < H'.n; omega) (fun g hg => by cases hg)).anti (fun z h => h.imp id (fun h => h.2)), .inr ⟨hv, own_row A, h0, (fun g hg => by cases hg), fun z hz => ⟨by have := (R.g z hz).2.1; show z.1 ≠ H.n; omega, by cases hq : z.2 with | none => exact .inl rfl | some q => exact .inr (by simp)⟩⟩⟩
/-- what an append keeps -/
structure KA (h H' : AH) (ks : List Int) (y y' : LK) : Prop where
 n : h.n ≤ H'.n
 keep : ∀ c o, h.at c = some o → (1 ≤ ks.length → c ≠ y.1 ∧ (famid o = none ∨ famid o ≠ y.2)) → H'.at c = some o
 b' : (1 ≤ ks.length ∧ y'.1 = y.1) ∨ h.n ≤ y'.1
 f' : ∀ g, y'.2 = some g → (1 ≤ ks.length ∧ y.2 = some g) ∨ h.n ≤ g
theorem Fr2.app {y' : LK} (F : Fr2 rb HS x H x') (W : Wf HS) (Q : KQ H0 HS.n sv tv tn rb G H st x' ks kv y) (A : KA H H' ks y y') : Fr2 rb HS x H' x' := by
 refine ⟨Nat.le_trans F.n A.n, fun c o h h1 h2 h3 => A.keep c o (F.keep c o h h1 h2 h3) fun hk => ?_, F.b', F.f'⟩
 have hc := W.lt h
 rcases Q.l with ⟨rfl, _⟩ | ⟨_, _, l1, l2, _⟩
 ·simp at hk
 ·refine ⟨by omega, ?_⟩
  cases hf : famid o with
  | none => exact .inl rfl
  | some q => exact .inr (fun c => by have := l2 q c.symm; have := W.famlt h hf; omega)
theorem KQ.mono {n1 : Nat} (Q : KQ H0 n0 sv tv tn rb G H st x ks kv y) (h : n1 ≤ n0) : KQ H0 n1 sv tv tn rb G H st x ks kv y := by
 refine ⟨Q.r, ?_⟩
 rcases Q.l with h' | ⟨h1, h2, h3, h4, h5⟩
 ·exact .inl h'
 ·exact .inr ⟨h1, h2, Nat.le_trans h h3, fun g hg => Nat.le_trans h (h4 g hg), h5⟩
/-- a callee may let its caller's list grow -/
structure Fr3 (rb : Nat) (H : AH) (x : LK) (ks : List Int) (y : LK) (H' : AH) (x' : LK) (ks' : List Int) (y' : LK) : Prop where
 n : H.n ≤ H'.n
 keep : ∀ c o, H.at c = some o → c ≠ rb → c ≠ x.1 → (famid o = none ∨ famid o ≠ x.2) → (1 ≤ ks.length → c ≠ y.1 ∧ (famid o = none ∨ famid o ≠ y.2)) → H'.at c = some o
 b' : x'.1 = x.1 ∨ H.n ≤ x'.1
 f' : x'.2 = none ∨ x'.2 = x.2 ∨ ∃ g, x'.2 = some g ∧ H.n ≤ g
 yb : 1 ≤ ks'.length → (1 ≤ ks.length ∧ y'.1 = y.1) ∨ H.n ≤ y'.1
 yf : 1 ≤ ks'.length → ∀ g, y'.2 = some g → (1 ≤ ks.length ∧ y.2 = some g) ∨ H.n ≤ g
theorem Fr3.refl (W : Wf H) : Fr3 rb H x ks y H x ks y := ⟨Nat.le_refl _, fun _ _ h _ _ _ _ => h, .inl rfl, .inr (.inl rfl), fun h => .inl ⟨h, rfl⟩, fun h g hg => .inl ⟨h, hg⟩⟩
theorem Fr3.fr {x2 : LK} {ks' : List Int} {y' : LK} (F : Fr3 rb HS x ks y H x' ks' y') (W : Wf HS) (F2 : Fr2 rb H x' H' x2) : Fr3 rb HS x ks y H' x2 ks' y' := by
 refine ⟨Nat.le_trans F.n F2.n, fun c o h h1 h2 h3 h4 => F2.keep c o (F.keep c o h h1 h2 h3 h4) h1 ?_ ?_, ?_, ?_, F.yb, F.yf⟩
 ·have := W.lt h
  rcases F.b' with e | e
  ·rw [e]; exact h2
  ·omega
 ·rcases h3 with h3 | h3
  ·exact .inl h3
  ·cases hf : famid o with
   | none => exact .inl rfl
   | some q =>
    have hq := W.famlt h hf
    rcases F.f' with e | e | ⟨g, e, hg⟩
    ·exact .inr (by rw [e]; simp)
    ·exact .inr (by rw [e, ← hf]; exact h3)
    ·exact .inr (by rw [e]; intro c; injection c with c; omega)
 ·rcases F2.b' with e | e
  ·rcases F.b' with e2 | e2
   ·exact .inl (e.trans e2)
   ·exact .inr (by omega)
  ·exact .inr (Nat.le_trans F.n e)
 ·rcases F2.f' with e | e | ⟨g, e, hg⟩
  ·exact .inl e
  ·rcases F.f' with e2 | e2 | ⟨g, e2, hg⟩
   ·exact .inl (e.trans e2)
   ·exact .inr (.inl (e.trans e2))
   ·exact .inr (.inr ⟨g, e.trans e2, hg⟩)
  ·exact .inr (.inr ⟨g, e, Nat.le_trans F.n hg⟩)
theorem Fr3.app {ks' ks2 : List Int} {y' y2 : LK} (F : Fr3 rb HS x ks y H x' ks' y') (W : Wf HS) (A : KA H H' ks' y' y2) : Fr3 rb HS x ks y H' x' ks2 y2 := by
 refine ⟨Nat.le_trans F.n A.n, fun c o h h1 h2 h3 h4 => A.keep c o (F.keep c o h h1 h2 h3 h4) fun hk => ?_, F.b', F.f', fun _ => ?_, fun _ g hg => ?_⟩
 ·have hc := W.lt h
  refine ⟨?_, ?_⟩
  ·rcases F.yb hk with ⟨e, e2⟩ | e
   ·rw [e2]; exact (h4 e).1
   ·omega
  ·cases hf : famid o with
   | none => exact .inl rfl
   | some q =>
    have hq := W.famlt h hf
    refine .inr fun c => ?_
    rcases F.yf hk q c.symm with ⟨e, e2⟩ | e
    ·rcases (h4 e).2 with e3 | e3
     ·rw [hf] at e3; cases e3
     ·exact e3 (by rw [hf, e2])
    ·omega
 ·rcases A.b' with ⟨e, e2⟩ | e
  ·rcases F.yb e with ⟨e3, e4⟩ | e3
   ·exact .inl ⟨e3, e2.trans e4⟩
   ·exact .inr (by omega)
  ·exact .inr (Nat.le_trans F.n e)
 ·rcases A.f' g hg with ⟨e, e2⟩ | e
  ·rcases F.yf e g e2 with e3 | e3
   ·exact .inl e3
   ·exact .inr e3
  ·exact .inr (Nat.le_trans F.n e)
/-- such a callee, for its caller -/
theorem Fr2.fr3 {x2 : LK} {ks' : List Int} {y' : LK} (F : Fr2 rb HS x H x') (W : Wf HS) (Q : KQ H0 HS.n sv tv tn rb G H st x' ks kv y) (F3 : Fr3 rb H x' ks y H' x2 ks' y') : Fr2 rb HS x H' x2 := by
 refine ⟨Nat.le_trans F.n F3.n, fun c o h h1 h2 h3 => F3.keep c o (F.keep c o h h1 h2 h3) h1 ?_ ?_ ?_, ?_, ?_⟩
 ·have := W.lt h
  rcases F.b' with e | e
  ·rw [e]; exact h2
  ·omega
 ·rcases h3 with h3 | h3
  ·exact .inl h3
  ·cases hf : famid o with
   | none => exact .inl rfl
   | some q =>
    have hq := W.famlt h hf
    rcases F.f' with e | e | ⟨g, e, hg⟩
    ·exact .inr (by rw [e]; simp)
    ·exact .inr (by rw [e, ← hf]; exact h3)
    ·exact .inr (by rw [e]; intro c; injection c with c; omega)
 ·intro hk
  have hc := W.lt h
  rcases Q.l with ⟨rfl, _⟩ | ⟨_, _, l1, l2, _⟩
  ·simp at hk
  ·refine ⟨by omega, ?_⟩
   cases hf : famid o with
   | none => exact .inl rfl
   | some q => exact .inr (fun c => by have := l2 q c.symm; have := W.famlt h hf; omega)
 ·rcases F3.b' with e | e
  ·rcases F.b' with e2 | e2
   ·exact .inl (e.trans e2)
   ·exact .inr (by omega)
  ·exact .inr (Nat.le_trans F.n e)
 ·rcases F3.f' with e | e | ⟨g, e, hg⟩
  ·exact .inl e
  ·rcases F.f' with e2 | e2 | ⟨g, e2, hg⟩
   ·exact .inl (e.trans e2)
   ·exact .inr (.inl (e.trans e2))
   ·exact .inr (.inr ⟨g, e.trans e2, hg⟩)
  ·exact .inr (.inr ⟨g, e, Nat.le_trans F.n hg⟩)
theorem lim_ok {α : Type} {k : Unit → PM α} (h : bindP (mLim ks) k st ≠ none) : ks.length < 1000000000 := by
 by_cases c : ks.length < 1000000000
 ·exact c
 ·exact absurd (by simp [bindP, mLim, c]) h
end
section
variable {P : Program} {nt : Nat} {all l : List Oper} {K : St → Prop} {e : Env} {H0 h : AH} {ds : List ADef}
variable {d : Nat} {ty : TypeId} {pos : String} {aft : Array Edge} {g : Option (Nat × Bool)}
theorem src_own {s : AV} {n b : Nat} {cs : List AV} {f : Option Nat} (O : Own h 3 1 s n cs b f) : srcCells h 1 s = some (n, cs) ∧ cs.length = n * 1 := by
 have hl := O.len
 obtain ⟨off, cap, rfl, hc, hr⟩ := O.read
 refine ⟨by simp only [srcCells, hr], hl⟩
theorem o_apK {xo yo : Operand} {t u : TypeId} {dd : TypeDesc} {by_ n0 tn rb : Nat} {z sv tv kv w : AV} {G : LK → Prop} {st : PS} {x y : LK} {ks vs : List Int} (W0 : Wf H0) (W : Wf h) (Q : KQ H0 n0 sv tv tn rb G h st x ks kv y) (hn0 : n0 ≤ h.n) (hn1 : H0.n ≤ n0)
  (ht : P.underlying t = some (.slice 3)) (hu : P.underlying u = some dd) (hd : isIntT dd = false) (hc : csz P 3 = some 1) (hb : byt P 3 = some by_) (hz : zeroOf P 3 = some z) (hzl : z.cells.length = 1)
  (hx : ev e xo = some kv) (hy : ev e yo = some w) (ha : srcCells h 1 w = some (vs.length, vs.map (AV.int .i64))) (hv : 1 ≤ vs.length) (hr : (ks.length + vs.length) * (by_ + 1) ≤ 70368744177664)
  (hs : loudK P nt ⟨some d, .call ⟨.builtin .append, #[xo, yo], #[t, u]⟩, ty, pos, aft, g⟩ = true) (hw : wantedA all e ⟨some d, .call ⟨.builtin .append, #[xo, yo], #[t, u]⟩, ty, pos, aft, g⟩ = true)
  (k : ∀ s' H' y', KQ H0 n0 sv tv tn rb G H' st x (ks ++ vs) s' y' → KA h H' ks y y' → WO P orc nt all l K ⟨e.set d s', H', ds⟩) :
  WO P orc nt all (⟨some d, .call ⟨.builtin .append, #[xo, yo], #[t, u]⟩, ty, pos, aft, g⟩ :: l) K ⟨e, h, ds⟩ := by
 rcases Q.l with ⟨rfl, rfl⟩ | ⟨h1, O, h2, h3, h4⟩
 ·refine o_apN W ht hu hd hc hb hz hzl hx hy ha (by simp) (ones_ints _) hv (by simpa using hr) hs hw fun s' H' O W' hn X => ?_
  have R : RS H0 sv tv tn rb G h st x := Q.r.anti (fun z hz => .inl hz)
  exact k s' H' (h.n, none) ⟨(R.add (y := (h.n, none)) X (Nat.le_refl _) (by show h.n < H'.n; omega) (fun g hg => by cases hg)).anti (fun z hz => hz.imp id (fun q => q.2)), .inr ⟨by simpa using hv, by simpa using O, hn0, (fun g hg => by cases hg), fun z hz => ⟨by have := (R.g z hz).2.1; show z.1 ≠ h.n; omega, by cases hq : z.2 with | none => exact .inl rfl | some q => exact .inr (by simp)⟩⟩⟩ ⟨by omega, fun c o ho _ => X.keep _ _ ho, .inr (Nat.le_refl _), fun g hg => by cases hg⟩
 ·refine o_ap W ht hu hd hc hb hz hzl hx hy O ha (by simp) (ones_ints _) hr hs hw fun s' H' b' fm' O' W' hl hu' p q Kp => ?_
  have R : RS H0 sv tv tn rb (fun z => G z ∨ z = y) h st x := Q.r.anti (fun z hz => hz.imp id (fun q => ⟨h1, q⟩))
  have E' : Ext H0 H' := Ext.keeps W0 Q.r.e ⟨by omega, fun g hg => by have := h3 g hg; omega⟩ Kp hl W'
  obtain ⟨R2, A2⟩ := R.app (y' := (b', fm')) W' hl hu' E' Kp p q (O'.lt W') (fun g hg => O'.famlt W' hg) h4
  refine k s' H' (b', fm') ⟨R2.anti (fun z hz => hz.imp id (fun q => q.2)), .inr ⟨by simp; omega, by simpa [List.map_append] using O', ?_, ?_, A2⟩⟩ ⟨hl, fun c o ho hf => Kp c o ho (hf h1).1 (hf h1).2, ?_, ?_⟩
  ·rcases p with e | e <;> (show n0 ≤ b'; omega)
  ·intro g hg
   have hg : fm' = some g := hg
   rcases q with e | e | e
   ·rw [e] at hg; cases hg
   ·exact h3 g (e ▸ hg)
   ·rw [e] at hg; injection hg with hg; omega
  ·rcases p with e | e
   ·exact .inl ⟨h1, e⟩
   ·exact .inr (by show h.n ≤ b'; omega)
  ·intro g hg
   have hg : fm' = some g := hg
   rcases q with e | e | e
   ·rw [e] at hg; cases hg
   ·exact .inl ⟨h1, by rw [← e]; exact hg⟩
   ·rw [e] at hg; injection hg with hg; exact .inr (by omega)
end
theorem node_ok {k a n : Int} {nm : List UInt8} {ks : List Int} {st : PS} (h : mNode k a nm n ks st ≠ none) : st.ns.length < 1000000000 ∧ ks.length < 1000000000 := by
 simp only [mNode] at h
 by_cases c : st.ns.length < 1000000000 ∧ ks.length < 1000000000
 ·exact c
 ·rw [if_neg c] at h; exact absurd rfl h
/-- what is said of a function of the reader: it comes to what the parser makes of the state -/
def CT (orc : CallF) (H0 : AH) (sv tv : AV) (tn rb fn : Nat) (args : List AV) {α : Type} (m : PM α) (rp : α → AV) : Prop :=
 ∀ (HS : AH), Wf HS → Ext H0 HS → ∀ (G : LK → Prop) (st : PS) (x : LK), RS H0 sv tv tn rb G HS st x → m st ≠ none → FinP Try.prog orc fn (.ptr (.mt rb) 0 :: args) HS (fun r H' => OkR H0 sv tv tn rb G HS x (m st) rp r H') (fun r H' => BadR H0 rb HS x (m st) r H')
/-- of one that answers with a list of its own -/
def OkL (H0 : AH) (sv tv : AV) (tn rb : Nat) (G : LK → Prop) (HS : AH) (x : LK) (res : Option (Except Int (List Int × PS))) (r : AV) (H' : AH) : Prop :=
 ∃ ks st' x' y, res = some (.ok (ks, st')) ∧ Own H' 3 1 r ks.length (ks.map (AV.int .i64)) y.1 y.2 ∧ 1 ≤ ks.length ∧ ks.length < 1000000000 ∧ HS.n ≤ y.1 ∧ (∀ g, y.2 = some g → HS.n ≤ g) ∧ RS H0 sv tv tn rb (fun z => G z ∨ z = y) H' st' x' ∧ Fr2 rb HS x H' x'
def CL (orc : CallF) (H0 : AH) (sv tv : AV) (tn rb fn : Nat) (args : List AV) (m : PM (List Int)) : Prop :=
 ∀ (HS : AH), Wf HS → Ext H0 HS → ∀ (G : LK → Prop) (st : PS) (x : LK), RS H0 sv tv tn rb G HS st x → m st ≠ none → FinP Try.prog orc fn (.ptr (.mt rb) 0 :: args) HS (fun r H' => OkL H0 sv tv tn rb G HS x (m st) r H') (fun r H' => BadR H0 rb HS x (m st) r H')
theorem KQ.lenOf {H0 H : AH} {sv tv kv : AV} {tn rb n0 : Nat} {G : LK → Prop} {st : PS} {x y : LK} {ks : List Int} (Q : KQ H0 n0 sv tv tn rb G H st x ks kv y) : VI.lenOf kv = some ks.length := by
 rcases Q.l with ⟨rfl, rfl⟩ | ⟨_, O, _⟩
 ·rfl
 ·obtain ⟨off, cap, rfl, _⟩ := O.read; rfl
theorem KQ.okl {H0 H HS : AH} {sv tv kv : AV} {tn rb : Nat} {G : LK → Prop} {st : PS} {x x' y : LK} {ks : List Int} {res : Option (Except Int (List Int × PS))} (Q : KQ H0 HS.n sv tv tn rb G H st x' ks kv y) (h : 1 ≤ ks.length) (hm : ks.length < 1000000000) (F : Fr2 rb HS x H x') (e : res = some (.ok (ks, st))) : OkL H0 sv tv tn rb G HS x res kv H := by
 rcases Q.l with ⟨rfl, _⟩ | ⟨_, O, h1, h2, h3⟩
 ·simp at h
 ·exact ⟨ks, st, x', y, e, O, h, hm, h1, h2, Q.r.anti (fun z hz => hz.imp id (fun q => ⟨h, q⟩)), F⟩
theorem KQ.ofL {H0 H H' : AH} {sv tv kv : AV} {tn rb n0 : Nat} {G : LK → Prop} {st st' : PS} {x x' y : LK} {ks : List Int} (R : RS H0 sv tv tn rb G H st x) (O : Own H' 3 1 kv ks.length (ks.map (AV.int .i64)) y.1 y.2) (h : 1 ≤ ks.length) (h1 : H.n ≤ y.1) (h2 : ∀ g, y.2 = some g → H.n ≤ g) (R' : RS H0 sv tv tn rb (fun z => G z ∨ z = y) H' st' x') (hn : n0 ≤ H.n) : KQ H0 n0 sv tv tn rb G H' st' x' ks kv y :=
 ⟨R'.anti (fun z hz => hz.imp id (fun q => q.2)), .inr ⟨h, O, Nat.le_trans hn h1, fun g hg => Nat.le_trans hn (h2 g hg), fun z hz => ⟨by have := (R.g z hz).2.1; show z.1 ≠ y.1; omega, by
  cases hq : z.2 with
  | none => exact .inl rfl
  | some q => exact .inr (fun c => by have := (R.g z hz).2.2 q hq; have := h2 q c.symm; omega)⟩⟩⟩
def BadR3 {α : Type} (H0 : AH) (rb : Nat) (HS : AH) (x : LK) (ks : List Int) (y : LK) (res : Option (Except Int (α × PS))) (p : AV) (H' : AH) : Prop := ∃ a, res = some (.error a) ∧ p = panA a ∧ Wf H' ∧ Ext H0 H' ∧ ∃ x' ks' y', Fr3 rb HS x ks y H' x' ks' y'
/-- of withResult, which lets its caller's list grow -/
def CR (orc : CallF) (H0 : AH) (sv tv : AV) (tn rb : Nat) (tx : Nat → List UInt8) (src : List UInt8) (T : List TK) (f : Nat) : Prop :=
 ∀ (HS : AH), Wf HS → Ext H0 HS → ∀ (G : LK → Prop) (st : PS) (x y : LK) (k a : Int) (nm : List UInt8) (ks : List Int) (kv : AV), KQ H0 H0.n sv tv tn rb G HS st x ks kv y → pRes tx src T f k a nm ks st ≠ none →
  FinP Try.prog orc 75 [.ptr (.mt rb) 0, .int .i64 k, .int .i64 a, .str nm, kv] HS (fun r H' => ∃ v st' x' ks' y', pRes tx src T f k a nm ks st = some (.ok (v, st')) ∧ r = .int .i64 v ∧ RS H0 sv tv tn rb G H' st' x' ∧ Fr3 rb HS x ks y H' x' ks' y') (fun r H' => BadR3 H0 rb HS x ks y (pRes tx src T f k a nm ks st) r H')
structure IH (orc : CallF) (H0 : AH) (sv tv : AV) (rb : Nat) (tx : Nat → List UInt8) (src : List UInt8) (T : List TK) (f : Nat) : Prop where
 typ : CT orc H0 sv tv T.length rb 51 [] (pTyp tx src T f) (AV.int .i64)
 chan : CT orc H0 sv tv T.length rb 73 [] (pChan tx src T f) (AV.int .i64)
 types : CL orc H0 sv tv T.length rb 74 [] (pTypes tx src T f)
 res : CR orc H0 sv tv T.length rb tx src T f
 block : CT orc H0 sv tv T.length rb 79 [] (pBlock tx src T f) (AV.int .i64)
 stm : CT orc H0 sv tv T.length rb 53 [] (pStm tx src T f) (AV.int .i64)
 fork : CT orc H0 sv tv T.length rb 78 [] (pFork tx src T f) (AV.int .i64)
 choice : CT orc H0 sv tv T.length rb 80 [] (pChoice tx src T f) (AV.int .i64)
 arm : CT orc H0 sv tv T.length rb 88 [] (pArm tx src T f) (AV.int .i64)
 expr : CT orc H0 sv tv T.length rb 77 [] (pExpr tx src T f) (AV.int .i64)
 bin : ∀ lv : Int, 1 ≤ lv → lv ≤ 6 → CT orc H0 sv tv T.length rb 87 [.int .i64 lv] (pBin tx src T f lv) (AV.int .i64)
 un : CT orc H0 sv tv T.length rb 91 [] (pUn tx src T f) (AV.int .i64)
 post : CT orc H0 sv tv T.length rb 94 [] (pPost tx src T f) (AV.int .i64)
 prim : CT orc H0 sv tv T.length rb 98 [] (pPrim tx src T f) (AV.int .i64)
 list : ∀ t : List UInt8, CL orc H0 sv tv T.length rb 99 [.str t] (pList tx src T f t)
 prog : ∀ a : Int, CT orc H0 sv tv T.length rb 102 [.int .i64 a] (pProg tx src T f a) (AV.int .i64)
end Go.Proofs.Ytehmhhlhlipbnaa.Vs
