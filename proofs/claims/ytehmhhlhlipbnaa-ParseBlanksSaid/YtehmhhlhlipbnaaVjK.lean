/-
 The same rules, with what is seen in the environment left to be found.
-/
import Derived.Test.YtehmhhlhlipbnaaVj
import Derived.Test.YtehmhhlhlipbnaaVjP
set_option autoImplicit false
set_option linter.unusedVariables false
namespace Go.VI
theorem tE {e : Env} {x : Operand} {v : AV} (h : ev e x = some v := by first | (simp only [ev, envOf, val_set, ofValue, ofCell, ↓reduceIte, Nat.reduceEqDiff, vA] <;> rfl) | (simp only [ev, envOf, val_set, ofValue, ofCell, ↓reduceIte, Nat.reduceEqDiff] <;> rfl)) : ev e x = some v := h
theorem tS {e : Env} {x : List Operand} {v : List AV} (h : evs e x = some v := by first | (simp only [evs, ev, envOf, val_set, ofValue, ofCell, ↓reduceIte, Nat.reduceEqDiff, vA] <;> rfl) | (simp only [evs, ev, envOf, val_set, ofValue, ofCell, ↓reduceIte, Nat.reduceEqDiff] <;> rfl)) : evs e x = some v := h
theorem tP {e : Env} {x : List (Nat × Operand)} {v : List (Nat × AV)} (h : evParts e x = some v := by first | (simp only [evParts, ev, envOf, val_set, ofValue, ofCell, ↓reduceIte, Nat.reduceEqDiff, vA] <;> rfl) | (simp only [evParts, ev, envOf, val_set, ofValue, ofCell, ↓reduceIte, Nat.reduceEqDiff] <;> rfl)) : evParts e x = some v := h
theorem tV {e : Env} {t : Nat} {v : AV} (h : e.val t = v := by first | (simp only [val_set, ↓reduceIte, Nat.reduceEqDiff, vA] <;> rfl) | (simp only [val_set, ↓reduceIte, Nat.reduceEqDiff] <;> rfl)) : e.val t = v := h
theorem tR {P : Program} {rs : List ResultVar} {s : St} {v : AV} (h : resultA P rs s = some v := by first | (simp only [resultA, resultsA, envOf, val_set, ↓reduceIte, Nat.reduceEqDiff, Option.map_some, vA] <;> rfl) | (simp only [resultA, resultsA, envOf, val_set, ↓reduceIte, Nat.reduceEqDiff, Option.map_some] <;> rfl)) : resultA P rs s = some v := h
section
variable {P : Program} {orc : CallF} {nt : Nat} {all l : List Oper} {K : St → Prop} {E : AV → St → Prop} {e : Env} {h : AH} {ds : List ADef}
variable {d : Nat} {ty : TypeId} {pos : String} {aft : Array Edge} {g : Option (Nat × Bool)}
theorem o_rdP {op : Op} {v : AV} (hv : readOp P e h op = some v) (hs : readK P nt ⟨some d, op, ty, pos, aft, g⟩ = true) (hw : wantedA all e ⟨some d, op, ty, pos, aft, g⟩ = true)
  (k : WOP P orc nt all l K E ⟨e.set d v, h, ds⟩) : WOP P orc nt all (⟨some d, op, ty, pos, aft, g⟩ :: l) K E ⟨e, h, ds⟩ := o_stepP (o_rd hv hs hw (o_nil k))
theorem o_mv {x : Operand} {v : AV} (k : WO P orc nt all l K ⟨e.set d v, h, ds⟩) (hv : readOp P e h (.move x) = some v := by exact r_move tE) (hs : readK P nt ⟨some d, .move x, ty, pos, aft, g⟩ = true := by rfl) (hw : wantedA all e ⟨some d, .move x, ty, pos, aft, g⟩ = true := by rfl) :
  WO P orc nt all (⟨some d, .move x, ty, pos, aft, g⟩ :: l) K ⟨e, h, ds⟩ := o_rd hv hs hw k
theorem o_as {x : Operand} {v : AV} (k : WO P orc nt all l K ⟨e.set d v, h, ds⟩) (hv : readOp P e h (.assign x) = some v := by exact r_assign tE) (hs : readK P nt ⟨some d, .assign x, ty, pos, aft, g⟩ = true := by rfl) (hw : wantedA all e ⟨some d, .assign x, ty, pos, aft, g⟩ = true := by rfl) :
  WO P orc nt all (⟨some d, .assign x, ty, pos, aft, g⟩ :: l) K ⟨e, h, ds⟩ := o_rd hv hs hw k
theorem o_mvP {x : Operand} {v : AV} (k : WOP P orc nt all l K E ⟨e.set d v, h, ds⟩) (hv : readOp P e h (.move x) = some v := by exact r_move tE) (hs : readK P nt ⟨some d, .move x, ty, pos, aft, g⟩ = true := by rfl) (hw : wantedA all e ⟨some d, .move x, ty, pos, aft, g⟩ = true := by rfl) :
  WOP P orc nt all (⟨some d, .move x, ty, pos, aft, g⟩ :: l) K E ⟨e, h, ds⟩ := o_rdP hv hs hw k
theorem o_asP {x : Operand} {v : AV} (k : WOP P orc nt all l K E ⟨e.set d v, h, ds⟩) (hv : readOp P e h (.assign x) = some v := by exact r_assign tE) (hs : readK P nt ⟨some d, .assign x, ty, pos, aft, g⟩ = true := by rfl) (hw : wantedA all e ⟨some d, .assign x, ty, pos, aft, g⟩ = true := by rfl) :
  WOP P orc nt all (⟨some d, .assign x, ty, pos, aft, g⟩ :: l) K E ⟨e, h, ds⟩ := o_rdP hv hs hw k
variable {nt' : Nat} {Q : AExit → St → Prop} {s : St} {id : Nat} {ops : Array Oper} {b : Code}
theorem w_sr (h : WO P orc nt ops.toList ops.toList (thenQ (WP P orc nt b Q) Q .normal) s) : WP P orc nt (.seq (.region id ops false) b) Q s := w_seq (w_region h)
theorem w_srP (h : WOP P orc nt ops.toList ops.toList (thenQ (WP P orc nt b Q) Q .normal) (fun v s => thenQ (WP P orc nt b Q) Q (.pan v) s) s) : WP P orc nt (.seq (.region id ops false) b) Q s := w_seq (w_regionP h)
end
end Go.VI
