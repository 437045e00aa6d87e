/-
 A growing list of numbers of one's own, or nil; max; lists of bools in a row.
-/
import Derived.Test.YtehmhhlhlipbnaaVjT
import Derived.Test.YtehmhhlhlipbnaaVjV
set_option autoImplicit false
set_option linter.unusedVariables false
set_option linter.unusedSimpArgs false
namespace Go.VI
section
variable {P : Program} {e : Env} {h : AH} {x y : Operand} {k : IntKind} {a b : Int}
theorem r_max {ts : Array TypeId} (hx : ev e x = some (.int k a)) (hy : ev e y = some (.int k b)) : readOp P e h (.call ⟨.builtin .max, #[x, y], ts⟩) = some (.int k (max a b)) := by
 simp only [readOp, readCall, readBuiltin, doMax, evs, hx, hy, maxA, ltI_eq]
 congr 2
 by_cases c : a < b
 ·rw [decide_eq_true c, if_pos rfl]; omega
 ·rw [decide_eq_false c]; simp; omega
end
section
variable {H0 H H' H'' : AH} {l : List Int} {s : AV}
def GI (H0 H : AH) (l : List Int) (s : AV) : Prop := (l = [] ∧ s = .nils) ∨ (1 ≤ l.length ∧ ∃ b f, New H0 b f ∧ Own H 3 1 s l.length (l.map (AV.int .i64)) b f)
theorem GI.ext (G : GI H0 H l s) (E : Ext H H') : GI H0 H' l s := by
 rcases G with G | ⟨h, b, f, N, O⟩
 ·exact .inl G
 ·exact .inr ⟨h, b, f, N, O.ext E⟩
theorem GI.put (G : GI H0 H l s) (W : Wf H) (X : Ext H H') {c : Nat} (hc : H.n ≤ c) (K : Keeps H' H'' c none) : GI H0 H'' l s := by
 rcases G with G | ⟨h, b, f, N, O⟩
 ·exact .inl G
 ·exact .inr ⟨h, b, f, N, (O.ext X).keep fun x hx _ => K.own hx (by have := O.lt W; omega)⟩
theorem GI.si (G : GI H0 H l s) (hb : l.length ≤ 4611686018427387904) : SI H l s := by
 rcases G with ⟨rfl, rfl⟩ | ⟨h, b, f, N, O⟩
 ·exact .nil
 ·obtain ⟨off, cap, rfl, hc, hr⟩ := O.read
  exact .sl l (.mt b) off cap (by rw [Nat.mul_one] at hr; exact hr) hc hb
end
section
variable {P : Program} {orc : CallF} {nt : Nat} {all l : List Oper} {K : St → Prop} {e : Env} {H0 h : AH} {ds : List ADef}
variable {d : Nat} {ty : TypeId} {pos : String} {aft : Array Edge} {g : Option (Nat × Bool)}
theorem o_apG {x y : Operand} {t u : TypeId} {dd : TypeDesc} {by_ b : Nat} {z s : AV} {ns : List Int} {v : Int} (W0 : Wf H0) (W : Wf h) (E : Ext H0 h)
  (ht : P.underlying t = some (.slice 3)) (hu : P.underlying u = some dd) (hd : isIntT dd = false) (hc : csz P 3 = some 1) (hb : byt P 3 = some by_) (hz : zeroOf P 3 = some z) (hzl : z.cells.length = 1)
  (hx : ev e x = some s) (hy : ev e y = some (freshSl b 1 1)) (G : GI H0 h ns s) (ha : h.at b = some (.row [.int .i64 v] 3 false none)) (hr : (ns.length + 1) * (by_ + 1) ≤ 70368744177664)
  (hs : loudK P nt ⟨some d, .call ⟨.builtin .append, #[x, y], #[t, u]⟩, ty, pos, aft, g⟩ = true) (hw : wantedA all e ⟨some d, .call ⟨.builtin .append, #[x, y], #[t, u]⟩, ty, pos, aft, g⟩ = true)
  (k : ∀ s' H', GI H0 H' (ns ++ [v]) s' → Wf H' → Ext H0 H' → WO P orc nt all l K ⟨e.set d s', H', ds⟩) :
  WO P orc nt all (⟨some d, .call ⟨.builtin .append, #[x, y], #[t, u]⟩, ty, pos, aft, g⟩ :: l) K ⟨e, h, ds⟩ := by
 rcases G with ⟨rfl, rfl⟩ | ⟨hn, c, f, N, O⟩
 ·refine o_apN W ht hu hd hc hb hz hzl hx hy (src_fresh (n := 1) ha rfl) rfl rfl (Nat.le_refl _) (by simpa using hr) hs hw fun s' H' O W' hn X => k s' H' (.inr ⟨by simp, h.n, none, ⟨E.n, fun f hf => by cases hf⟩, O⟩) W' (E.trans X)
 ·refine o_ap W ht hu hd hc hb hz hzl hx hy O (src_fresh (n := 1) ha rfl) rfl rfl hr hs hw fun s' H' b' fm' O' W' hl hu' p q Kp => k s' H' (.inr ⟨by simp, b', fm', N.step E.n p q, ?_⟩) W' (Ext.keeps W0 E N Kp hl W')
  rw [List.length_append, List.length_singleton, List.map_append]; exact O'
end
section
variable {H : AH} {b t a : Nat} {fs : List Bool}
end
end Go.VI
