/-
 Calls that may panic.
-/
import Derived.Test.YtehmhhlhlipbnaaVj
set_option autoImplicit false
set_option linter.unusedVariables false
set_option linter.unusedSimpArgs false
namespace Go.VI
section
variable (P : Program) (orc : CallF) (nt : Nat)
/-- What a call answers, or panics with. -/
def FinP (f : FuncId) (args : List AV) (H : AH) (Q E : AV → AH → Prop) : Prop := ∃ o H', (∃ n, acall P orc n f args H = some (o, H')) ∧ match o with | .ret v => Q v H' | .pan v => E v H'
/-- What the operations of a region in the text's order come to, or panic with. -/
def WOP (all l : List Oper) (K : St → Prop) (E : AV → St → Prop) (s : St) : Prop := ∃ r, (∃ n, aops P nt (acall P orc n) all l s = some r) ∧ match r with | .ok s' => K s' | .pan v s' => E v s'
end
section
variable {P : Program} {orc : CallF} {nt : Nat} {Q : AExit → St → Prop} {s : St} {all l : List Oper} {K : St → Prop} {E : AV → St → Prop} {o : Oper} {e : Env} {h : AH} {ds : List ADef}
variable {d : Nat} {ty : TypeId} {pos : String} {aft : Array Edge} {g : Option (Nat × Bool)}
theorem FinP.of {f : FuncId} {args : List AV} {H : AH} {R R' : AV → AH → Prop} (h : Fin P orc f args H R) : FinP P orc f args H R R' := by
 obtain ⟨v, H', h1, h2⟩ := h; exact ⟨.ret v, H', h1, h2⟩
theorem FinP.mono {f : FuncId} {args : List AV} {H : AH} {R R' S S' : AV → AH → Prop} (h : FinP P orc f args H R S) (k : ∀ v H', R v H' → R' v H') (k' : ∀ v H', S v H' → S' v H') : FinP P orc f args H R' S' := by
 obtain ⟨o, H', h1, h2⟩ := h
 cases o with
 | ret v => exact ⟨.ret v, H', h1, k _ _ h2⟩
 | pan v => exact ⟨.pan v, H', h1, k' _ _ h2⟩
theorem FinP.ok {f : FuncId} {args : List AV} {H : AH} {R R' : AV → AH → Prop} (h : FinP P orc f args H R R') (k : ∀ v H', ¬ R' v H') : Fin P orc f args H R := by
 obtain ⟨o, H', h1, h2⟩ := h
 cases o with
 | ret v => exact ⟨v, H', h1, h2⟩
 | pan v => exact absurd h2 (k v H')
theorem o_nilP (k : K s) : WOP P orc nt all [] K E s := ⟨.ok s, ⟨0, by simp only [aops]⟩, k⟩
/-- One step, which does not panic. -/
theorem o_stepP (h : WO P orc nt all [o] (fun s1 => WOP P orc nt all l K E s1) s) : WOP P orc nt all (o :: l) K E s := by
 obtain ⟨s1, ⟨n, h1⟩, r, ⟨m, h2⟩, h3⟩ := h
 refine ⟨r, ⟨max n m, ?_⟩, h3⟩
 have h1' := aops_mono (acall_le (P := P) (orc := orc) (Nat.le_max_left n m)) _ _ _ h1
 have h2' := aops_mono (acall_le (P := P) (orc := orc) (Nat.le_max_right n m)) _ _ _ h2
 simp only [aops] at h1' ⊢
 split at h1'
 ·rename_i hw
  simp only [hw, if_true]
  split at h1'
  ·split at h1'
   ·rename_i he
    injection h1' with h1'; injection h1' with h1'; subst h1'
    exact h2'
   ·cases h1'
  ·cases h1'
  ·split at h1'
   ·injection h1' with h1'; injection h1' with h1'; subst h1'
    exact h2'
   ·cases h1'
  ·cases h1'
 ·rename_i hw
  simp only [hw]
  split at h1'
  ·injection h1' with h1'; injection h1' with h1'; subst h1'
   exact h2'
  ·cases h1'
theorem o_clP {c : Call} {fo : Operand} {f : FuncId} {first cap vs args : List AV} {R S : AV → AH → Prop} (hf : c.callee = .value fo) (he : ev e fo = some (.fn (.func f) first cap)) (hv : evs e c.args.toList = some vs) (ha : first ++ vs ++ cap = args)
  (hc : FinP P orc f args h R S) (hs : loudK P nt ⟨some d, .call c, ty, pos, aft, g⟩ = true) (hw : wantedA all e ⟨some d, .call c, ty, pos, aft, g⟩ = true)
  (kE : ∀ v h', S v h' → E v ⟨e, h', ds⟩) (k : ∀ v h', R v h' → WOP P orc nt all l K E ⟨e.set d v, h', ds⟩) : WOP P orc nt all (⟨some d, .call c, ty, pos, aft, g⟩ :: l) K E ⟨e, h, ds⟩ := by
 obtain ⟨o, h', ⟨m, hc⟩, hr⟩ := hc
 have hs' := hs
 unfold loudK at hs'
 rw [Bool.and_eq_true] at hs'
 have hk : kindOp P (.call c) = .loud := by
  have := hs'.1
  simp only at this
  generalize kindOp P (.call c) = q at this; cases q <;> first | rfl | cases this
 cases o with
 | ret v =>
  obtain ⟨r, ⟨n, h1⟩, h2⟩ := k v h' hr
  refine ⟨r, ⟨max n m, ?_⟩, h2⟩
  have hl : loudOp P (acall P orc (max n m)) e h (.call c) = some (.val v h') := by
   subst ha
   simp only [loudOp, doCall, hf, doCallV, he, hv, acall_le (Nat.le_max_right n m) _ _ _ _ hc, ofOut]
  simp only [aops, hw, if_true, opA, hk, hl, putE_of (o := ⟨some d, .call c, ty, pos, aft, g⟩) hs'.2]
  exact aops_mono (acall_le (Nat.le_max_left n m)) _ _ _ h1
 | pan v =>
  refine ⟨.pan v ⟨e, h', ds⟩, ⟨m, ?_⟩, kE v h' hr⟩
  have hl : loudOp P (acall P orc m) e h (.call c) = some (.pan v h') := by
   subst ha
   simp only [loudOp, doCall, hf, doCallV, he, hv, hc, ofOut]
  simp only [aops, hw, if_true, opA, hk, hl]
theorem o_paP {x : Operand} {t : TypeId} {v : AV} (hx : ev e x = some (.ifc t v)) (hw : wantedA all e ⟨none, .panic x, ty, pos, aft, g⟩ = true) (k : E (.ifc t v) ⟨e, h, ds⟩) : WOP P orc nt all (⟨none, .panic x, ty, pos, aft, g⟩ :: l) K E ⟨e, h, ds⟩ := by
 refine ⟨.pan (.ifc t v) ⟨e, h, ds⟩, ⟨0, ?_⟩, k⟩
 simp only [aops, hw, if_true, opA, kindOp, loudOp, doPanic, hx]
theorem w_regionP {id : Nat} {ops : Array Oper} (h : WOP P orc nt ops.toList ops.toList (Q .normal) (fun v s => Q (.pan v) s) s) : WP P orc nt (.region id ops false) Q s := by
 obtain ⟨r, ⟨n, h1⟩, h2⟩ := h
 cases r with
 | ok s' => exact ⟨.normal, s', ⟨n, by simp only [aexec, regionA, Bool.false_eq_true, if_false, h1]⟩, h2⟩
 | pan v s' => exact ⟨.pan v, s', ⟨n, by simp only [aexec, regionA, Bool.false_eq_true, if_false, h1]⟩, h2⟩
/-- What a function that may panic comes to. -/
def finQ (P : Program) (fn : Func) (R S : AV → AH → Prop) (x : AExit) (s : St) : Prop :=
 match x with
 | .normal => s.d = [] ∧ ∃ v, resultA P fn.results.toList s = some v ∧ R v s.h
 | .ret => s.d = [] ∧ ∃ v, resultA P fn.results.toList s = some v ∧ R v s.h
 | .pan v => s.d = [] ∧ S v s.h
 | _ => False
theorem fin_ofP {f : FuncId} {fn : Func} {c : Code} {args : List AV} {H : AH} {R S : AV → AH → Prop} (hf : P.funcs[f]? = some fn) (hb : fn.body = some c) (hl : args.length ≤ fn.ntmps) (ho : orc f args H = none)
  (k : WP P orc fn.ntmps c (finQ P fn R S) ⟨envOf 0 args .lf, H, []⟩) (hx : hasNext c = false := by kernel_rfl) : FinP P orc f args H R S := by
 obtain ⟨x, s', ⟨n, h1⟩, hq⟩ := k
 cases x with
 | normal =>
  obtain ⟨hd, v, hv, hr⟩ := hq
  exact ⟨.ret v, s'.h, ⟨n + 1, by simp only [acall, ho, orElseA, abody, hf, hb, hl, hx, if_true, h1, hd, hv, Option.map_some]⟩, hr⟩
 | ret =>
  obtain ⟨hd, v, hv, hr⟩ := hq
  exact ⟨.ret v, s'.h, ⟨n + 1, by simp only [acall, ho, orElseA, abody, hf, hb, hl, hx, if_true, h1, hd, hv, Option.map_some]⟩, hr⟩
 | pan v =>
  obtain ⟨hd, hr⟩ := hq
  exact ⟨.pan v, s'.h, ⟨n + 1, by simp only [acall, ho, orElseA, abody, hf, hb, hl, hx, if_true, h1, hd]⟩, hr⟩
 | exit _ => exact hq.elim
 | goto _ => exact hq.elim
theorem r_ifc {e : Env} {h : AH} {x : Operand} {t : TypeId} {v : AV} {dd : TypeDesc} (ht : P.underlying t = some dd) (hx : ev e x = some v) (hd : (match dd with | .interface .. => false | _ => true) = true := by rfl) : readOp P e h (.makeInterface t x) = some (.ifc t v) := by
 simp only [readOp, doIfc, ht, hx]
 cases dd <;> first | rfl | cases hd
theorem r_nilChk {e : Env} {h : AH} {x : Operand} {l : Loc} {o : Nat} (hx : ev e x = some (.ptr l o)) : readOp P e h (.nilCheck x) = some (.ptr l o) := by simp only [readOp, doNil, hx]
theorem a_build2 {e : Env} {x y : Operand} {t el : TypeId} {z : Int} {a b : Int} (ht : P.underlying t = some (.slice el)) (hs : csz P el = some 1) (hz : zeroOf P el = some (.int .i64 z)) (hx : ev e x = some (.int .i64 a)) (hy : ev e y = some (.int .i64 b)) :
  allocOp P e (.buildSlice t 2 #[(0, x), (1, y)]) = some (.row [.int .i64 a, .int .i64 b] el false none, fun c => freshSl c 2 2) := by
 simp only [allocOp, doBuildSlice, ht, evParts, hx, hy, buildSl1, hs, hz]
 rfl
theorem a_build3 {e : Env} {x y w : Operand} {t el : TypeId} {z : Int} {a b c : Int} (ht : P.underlying t = some (.slice el)) (hs : csz P el = some 1) (hz : zeroOf P el = some (.int .i64 z)) (hx : ev e x = some (.int .i64 a)) (hy : ev e y = some (.int .i64 b)) (hw : ev e w = some (.int .i64 c)) :
  allocOp P e (.buildSlice t 3 #[(0, x), (1, y), (2, w)]) = some (.row [.int .i64 a, .int .i64 b, .int .i64 c] el false none, fun d => freshSl d 3 3) := by
 simp only [allocOp, doBuildSlice, ht, evParts, hx, hy, hw, buildSl1, hs, hz]
 rfl
end
end Go.VI
