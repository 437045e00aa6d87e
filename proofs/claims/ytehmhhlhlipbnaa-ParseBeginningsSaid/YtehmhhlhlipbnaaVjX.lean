/-
 A growing list of one's own, of elements of several cells, or nil.
-/
import Derived.Test.YtehmhhlhlipbnaaVjT
import Derived.Test.YtehmhhlhlipbnaaVjV
set_option autoImplicit false
set_option linter.unusedVariables false
set_option linter.unusedSimpArgs false
namespace Go.VI
/-- a growing list: its block lies from H0 on, below n -/
def GX (H0 : AH) (n : Nat) (H : AH) (el : TypeId) (e : Nat) (cs : List AV) (len : Nat) (s : AV) : Prop :=
 (len = 0 ∧ cs = [] ∧ s = .nils) ∨ (1 ≤ len ∧ ∃ b f, New H0 b f ∧ b < n ∧ Own H el e s len cs b f)
section
variable {H0 H H' : AH} {n len e : Nat} {el : TypeId} {cs : List AV} {s : AV}
theorem GX.nil : GX H0 n H el e [] 0 .nils := .inl ⟨rfl, rfl, rfl⟩
theorem GX.ext (G : GX H0 n H el e cs len s) (E : Ext H H') : GX H0 n H' el e cs len s := by
 rcases G with G | ⟨h, b, f, N, hb, O⟩
 ·exact .inl G
 ·exact .inr ⟨h, b, f, N, hb, O.ext E⟩
theorem GX.put (G : GX H0 n H el e cs len s) {c : Nat} (K : Keeps H H' c none) (hc : n ≤ c) : GX H0 n H' el e cs len s := by
 rcases G with G | ⟨h, b, f, N, hb, O⟩
 ·exact .inl G
 ·exact .inr ⟨h, b, f, N, hb, O.keep fun x hx _ => K.own hx (by omega)⟩
theorem GX.cap (G : GX H0 n H el e cs len s) (W : Wf H) : GX H0 H.n H el e cs len s := by
 rcases G with G | ⟨h, b, f, N, hb, O⟩
 ·exact .inl G
 ·exact .inr ⟨h, b, f, N, O.lt W, O⟩
theorem GX.read (G : GX H0 n H el e cs len s) (h : 1 ≤ len) : ∃ loc off cap, s = .sl loc off len cap ∧ len ≤ cap ∧ H.read loc off (len * e) = some cs := by
 rcases G with ⟨h0, _⟩ | ⟨_, b, f, N, hb, O⟩
 ·omega
 ·obtain ⟨off, cap, h1, h2, h3⟩ := O.read
  exact ⟨.mt b, off, cap, h1, h2, h3⟩
theorem GX.length (G : GX H0 n H el e cs len s) : cs.length = len * e := by
 rcases G with ⟨rfl, rfl, _⟩ | ⟨_, b, f, N, hb, O⟩
 ·simp
 ·exact O.len
theorem GX.lenOf (G : GX H0 n H el e cs len s) : VI.lenOf s = some len := by
 rcases G with ⟨rfl, _, rfl⟩ | ⟨_, b, f, N, hb, O⟩
 ·rfl
 ·obtain ⟨off, cap, h1, _, _⟩ := O.read
  rw [h1]; rfl
theorem GX.one (G : GX H0 n H el e cs len s) : s.one = true := by
 rcases G with ⟨rfl, _, rfl⟩ | ⟨_, b, f, N, hb, O⟩
 ·rfl
 ·obtain ⟨off, cap, h1, _, _⟩ := O.read
  rw [h1]; rfl
end
section
variable {P : Program} {orc : CallF} {nt : Nat} {all l : List Oper} {K : St → Prop} {e : Env} {H0 h : AH} {ds : List ADef}
variable {d : Nat} {ty : TypeId} {pos : String} {aft : Array Edge} {g : Option (Nat × Bool)}
/-- the same, and what else is kept -/
theorem o_apF {x y : Operand} {t u el : TypeId} {dd : TypeDesc} {by_ b n e' len : Nat} {z s : AV} {cs new : List AV} (W0 : Wf H0) (W : Wf h) (E : Ext H0 h)
  (ht : P.underlying t = some (.slice el)) (hu : P.underlying u = some dd) (hd : isIntT dd = false) (hc : csz P el = some (e' + 1)) (hb : byt P el = some by_) (hz : zeroOf P el = some z) (hzl : z.cells.length = e' + 1)
  (hx : ev e x = some s) (hy : ev e y = some (freshSl b 1 1)) (G : GX H0 n h el (e' + 1) cs len s) (ha : h.at b = some (.row new el false none)) (hnl : new.length = e' + 1) (h1 : ones new = true) (hr : (len + 1) * (by_ + 1) ≤ 70368744177664)
  (hs : loudK P nt ⟨some d, .call ⟨.builtin .append, #[x, y], #[t, u]⟩, ty, pos, aft, g⟩ = true) (hw : wantedA all e ⟨some d, .call ⟨.builtin .append, #[x, y], #[t, u]⟩, ty, pos, aft, g⟩ = true)
  (k : ∀ s' H', GX H0 H'.n H' el (e' + 1) (cs ++ new) (len + 1) s' → Wf H' → Ext H0 H' → (∀ c, (n ≤ c ∨ c < H0.n) → ∀ x, h.at c = some x → (famid x = none ∨ ∀ f, famid x = some f → f < H0.n) → H'.at c = some x) → WO P orc nt all l K ⟨e.set d s', H', ds⟩) :
  WO P orc nt all (⟨some d, .call ⟨.builtin .append, #[x, y], #[t, u]⟩, ty, pos, aft, g⟩ :: l) K ⟨e, h, ds⟩ := by
 rcases G with ⟨rfl, rfl, rfl⟩ | ⟨hn, c, f, N, hcn, O⟩
 ·refine o_apN W ht hu hd hc hb hz hzl hx hy (src_fresh (n := 1) ha (by omega)) (by omega) h1 (Nat.le_refl _) (by simpa using hr) hs hw fun s' H' O W' hn X => k s' H' (.inr ⟨by simp, h.n, none, ⟨E.n, fun f hf => by cases hf⟩, O.lt W', by simpa using O⟩) W' (E.trans X) (fun c _ x hx _ => X.keep _ _ hx)
 ·refine o_ap W ht hu hd hc hb hz hzl hx hy O (src_fresh (n := 1) ha (by omega)) (by omega) h1 hr hs hw fun s' H' b' fm' O' W' hl hu' p q Kp => k s' H' (.inr ⟨by omega, b', fm', N.step E.n p q, O'.lt W', O'⟩) W' (Ext.keeps W0 E N Kp hl W') (fun q hq x hx hf => Kp q x hx (by have := N.1; omega) ?_)
  rcases hf with hf | hf
  ·exact .inl hf
  ·cases hfx : famid x with
   | none => exact .inl rfl
   | some fx =>
    refine .inr fun e => ?_
    have h1 := hf fx hfx
    have h2 := N.2 fx e.symm
    omega
end
end Go.VI
