/-
 A function that defers one closure, which recovers: what it answers, by the abstract machine.
-/
import Derived.Test.YtehmhhlhlipbnaaVi2
import Derived.Test.YtehmhhlhlipbnaaVj
import Derived.Test.YtehmhhlhlipbnaaVjP
import Derived.Defers
import Derived.Recover
set_option autoImplicit false
set_option linter.unusedVariables false
namespace Go.VI
open Go.RowKit
def restOf : Code → Code
 | .seq _ b => b
 | c => c
/-- the first operation of a closure that recovers -/
def recOp (d : Nat) (pos : String) : Code := .region 0 #[⟨some d, .call ⟨.builtin .recover, #[], #[]⟩, 20, pos, #[], none⟩] false
def isRest : AExit → Bool
 | .normal => true
 | .ret => true
 | _ => false
/-- what the closure finds -/
def found : AExit → Option AV
 | .normal => some .nili
 | .ret => some .nili
 | .pan v => some v
 | _ => none
def tryEnd (P : Program) (fn gn : Func) (d : Code) (t : Nat) (call : CallF) (n : Nat) (g : FuncId) (s : St) (v : AV) : List ADef → Option (Out × AH)
 | [.fn g' cap []] =>
  if g' = g ∧ cap.length ≤ gn.ntmps ∧ t < gn.ntmps then
   match aexec P gn.ntmps call n (restOf d) ⟨(envOf 0 cap .lf).set t v, s.h, []⟩ with
   | some (y, s2) =>
    if isRest y = true ∧ s2.d.isEmpty = true ∧ (resultA P gn.results.toList s2).isSome = true then (resultA P fn.results.toList ⟨s.e, s2.h, []⟩).map fun r => (.ret r, s2.h) else none
   | none => none
  else none
 | _ => none
def tryN (P : Program) (fn gn : Func) (c d : Code) (t : Nat) (orc : CallF) (f g : FuncId) (n : Nat) : CallF := fun f' args H =>
 if f' = f then
  if args.length ≤ fn.ntmps then
   match aexec P fn.ntmps (acall P orc n) n c ⟨envOf 0 args .lf, H, []⟩ with
   | some (x, s) => match found x with
    | some v => tryEnd P fn gn d t (acall P orc n) n g s v s.d
    | none => none
   | none => none
  else none
 else none

section
variable {P : Program} {w w' w0 : World} {β β' : Bt} {H H' : AH} {nt : Nat} {e : Env} {a : Act} {M : Mem}
theorem erel_mono (hb : β.le β') (E : ERel β M nt e a) : ERel β' M nt e a := ⟨E.size, fun t => (E.val t).mono hb⟩
theorem erel_act {ds : List Deferred} (E : ERel β M nt e a) : ERel β M nt e { a with defers := ds } := ⟨E.size, E.val⟩
/-- the closure, whatever it finds -/
theorem closure_sound (hm : P.follows .mixedOrders = true) {call : CallF} (C : CallSound P w0 call) {gn : Func} {d : Code} {t : Nat} {pos : String} {n : Nat} {g : FuncId} (hg : P.funcs[g]? = some gn) (hd : gn.body = some d) (hs : d = .seq (recOp t pos) (restOf d)) {cap : List AV} {vs : List Value} (hv : VRs β (memOf w0) cap vs) (hl : cap.length ≤ gn.ntmps) (ht : t < gn.ntmps) (R : Rel P w0 β H w) {v : AV} {v' : Value} (hv' : VR β (memOf w0) v v') {y : AExit} {s2 : St}
  (hx : aexec P gn.ntmps call n (restOf d) ⟨(envOf 0 cap .lf).set t v, H, []⟩ = some (y, s2)) (hy : isRest y = true) (hd2 : s2.d.isEmpty = true) (hr : (resultA P gn.results.toList s2).isSome = true) {u u' : FrameMode}
  (hu : ∀ (c₀ : Frame) (cs : List Frame), c₀.mode = u → (recoverD (c₀ :: cs) = some (v', { c₀ with mode := u' } :: cs)) ∨ (recoverD (c₀ :: cs) = none ∧ v' = .nilIface ∧ u' = u)) :
  CallsD P g vs.toArray u w fun e u2 w' => (∃ r, e = .returned r) ∧ u2 = u' ∧ ∃ β', Moves P w0 β β' H s2.h w' := by
 refine callsD_of_wpS hg hd fun c₀ cs hc => ?_
 rw [hs]
 apply wpS_seq
 apply wpS_region
 have hrun : ∀ (o : Oper) (a : Act), o.op = .call ⟨.builtin .recover, #[], #[]⟩ → (execOp a.eval o).run P w = .ok .recover w := by
  intro o a ho
  simp [execOp, ho, resolve, invoke, builtin]
 have E0 := env_enter (M := memOf w0) (β := β) (nt := gn.ntmps) hv hl
 have hput : putE gn.ntmps (envOf 0 cap .lf) (some t) v = some ((envOf 0 cap .lf).set t v) := by
  simp only [putE]
  have : Nat.blt t gn.ntmps = true := by rw [blt_iff]; exact decide_eq_true ht
  rw [this]
 obtain ⟨E1, D1⟩ := put_rel E0 hput hv'
 have S1 : SRel P w0 β gn.ntmps ⟨(envOf 0 cap .lf).set t v, H, []⟩ ((⟨vs.toArray ++ Array.replicate (gn.ntmps - vs.toArray.size) undef, []⟩ : Act).put (some t) v') w := ⟨E1, R, by rw [D1]; exact trivial⟩
 have fin : ∀ cs' : List Frame, cs' = { c₀ with mode := u' } :: cs → (restOf d).wp P (fun e a' w' => bodyPostS P gn c₀ cs (fun e u2 w' => (∃ r, e = .returned r) ∧ u2 = u' ∧ ∃ β', Moves P w0 β β' H s2.h w') e a' cs' w') ((⟨vs.toArray ++ Array.replicate (gn.ntmps - vs.toArray.size) undef, []⟩ : Act).put (some t) v') w := by
  rintro cs' rfl
  refine aexec_sound C hm n (restOf d) _ y s2 β _ w _ hx S1 ?_
  obtain ⟨r, hr⟩ := Option.isSome_iff_exists.1 hr
  have key : ∀ a' w' β', SRel P w0 β' gn.ntmps s2 a' w' → Moves P w0 β β' H s2.h w' → a'.defers = [] ∧ ∃ u2, ({ c₀ with mode := u' } :: cs : List Frame) = { c₀ with mode := u2 } :: cs ∧ ∃ v, (results gn a'.tmps).run P w' = .ok v w' ∧ ((∃ r, Ending.returned v = .returned r) ∧ u2 = u' ∧ ∃ β', Moves P w0 β β' H s2.h w') := by
   intro a' w' β' S' m
   obtain ⟨r', h1, h2⟩ := result_sound S' hr
   refine ⟨?_, u', rfl, r', h1, ⟨r', rfl⟩, rfl, β', m⟩
   have := S'.d
   cases hsd : s2.d with
   | cons _ _ => rw [hsd] at hd2; cases hd2
   | nil =>
    rw [hsd] at this
    cases hdd : a'.defers with
    | nil => rfl
    | cons _ _ => rw [hdd] at this; exact this.elim
  cases y with
  | normal => exact fun a' w' β' S' m => key a' w' β' S' m
  | ret => exact fun a' w' β' S' m => key a' w' β' S' m
  | exit _ => cases hy
  | goto _ => cases hy
  | pan _ => cases hy
 have hw : Region.wanted (⟨some t, .call ⟨.builtin .recover, #[], #[]⟩, 20, pos, #[], none⟩ : Oper) (yielded #[⟨some t, .call ⟨.builtin .recover, #[], #[]⟩, 20, pos, #[], none⟩] (⟨vs.toArray ++ Array.replicate (gn.ntmps - vs.toArray.size) undef, []⟩ : Act).tmps) = true := rfl
 show wpOpsS P _ _ [0] _ _ _
 have hr1 := hrun (⟨some t, .call ⟨.builtin .recover, #[], #[]⟩, 20, pos, #[], none⟩ : Oper) (⟨vs.toArray ++ Array.replicate (gn.ntmps - vs.toArray.size) undef, []⟩ : Act) rfl
 simp only [wpOpsS, List.getElem?_toArray, List.getElem?_cons_zero, hw, if_true, hr1]
 rcases hu c₀ cs hc with h | ⟨h, rfl, rfl⟩
 ·rw [h]
  simp only [Exit.thenS]
  exact wpS_of_wp (fin _ rfl)
 ·rw [h]
  simp only [Exit.thenS]
  refine wpS_of_wp (fin _ ?_)
  subst hc; rfl
theorem tryN_sound (hm : P.follows .mixedOrders = true) (hn : NamesOk P) {orc : CallF} (O : CallSound P w0 orc) {fn gn : Func} {c d : Code} {t : Nat} {pos : String} {f g : FuncId} (hf : P.funcs[f]? = some fn) (hb : fn.body = some c) (hg : P.funcs[g]? = some gn) (hd : gn.body = some d) (hs : d = .seq (recOp t pos) (restOf d)) (n : Nat) : CallSound P w0 (tryN P fn gn c d t orc f g n) := by
 intro f' args H r H' h
 unfold tryN at h
 split at h
 ·rename_i hff; subst hff
  split at h
  ·rename_i hl
   split at h
   ·rename_i x s hx
    split at h
    ·rename_i v hfx
     unfold tryEnd at h
     split at h
     ·rename_i g' cap hsd
      split at h
      ·rename_i hc
       obtain ⟨rfl, hcl, htn⟩ := hc
       split at h
       ·rename_i y s2 hx2
        split at h
        ·rename_i hq
         obtain ⟨hy, hd2, hr2⟩ := hq
         obtain ⟨rv, hrv, hrr⟩ := Option.map_eq_some_iff.1 h
         injection hrr with e1 e2; subst e1; subst e2
         have C := acall_sound hm hn O n
         have Eg : Enters P g' := ⟨gn, hg, hn g' gn hg, by rw [hd]; rfl⟩
         refine ⟨⟨fn, hf, hn f' fn hf, by rw [hb]; rfl⟩, fun β w vs R hv => calls_of_wp_defers hf hb ?_⟩
         have S : SRel P w0 β fn.ntmps ⟨envOf 0 args .lf, H, []⟩ { tmps := vs.toArray ++ Array.replicate (fn.ntmps - vs.toArray.size) undef, defers := [] } w := ⟨env_enter hv hl, R, trivial⟩
         -- behind the body: the closure
         have door : ∀ (a' : Act) (w' : World) (β' : Bt) (v' : Value) (u u' : FrameMode), SRel P w0 β' fn.ntmps s a' w' → Moves P w0 β β' H s.h w' → VR β' (memOf w0) v v' → u ≠ .run → settle u' = .returning →
           (∀ (c₀ : Frame) (cs : List Frame), c₀.mode = u → (recoverD (c₀ :: cs) = some (v', { c₀ with mode := u' } :: cs)) ∨ (recoverD (c₀ :: cs) = none ∧ v' = .nilIface ∧ u' = u)) →
           Leaves P fn a'.tmps (fun e w' => ∃ β', Moves P w0 β β' H s2.h w' ∧ OutE β' (memOf w0) (.ret rv) e) a'.defers u w' := by
          intro a' w' β' v' u u' S' m hv' hur hset hu
          have hD := S'.d
          rw [hsd] at hD
          cases hdd : a'.defers with
          | nil => rw [hdd] at hD; exact hD.elim
          | cons dd ds =>
           rw [hdd] at hD
           obtain ⟨hD1, hD2⟩ := hD
           cases ds with
           | cons _ _ => exact hD2.elim
           | nil =>
            obtain ⟨cs', ws, rfl, hcv, hws⟩ := hD1
            cases hws
            refine leaves_cons (f := g') (args := cs'.toArray) hur ?_ ?_
            ·simp only [invoke]
             have e0 : (#[] : Array Value) ++ cs'.toArray = cs'.toArray := by simp
             rw [show ([] : List Value).toArray = #[] from rfl, e0]
             exact run_callFunc Eg w'
            ·refine (closure_sound hm C hg hd hs hcv hcl htn S'.h hv' hx2 hy hd2 hr2 hu).mono ?_
             rintro e u2 w2 ⟨⟨r2, rfl⟩, rfl, β2, m2⟩
             show Leaves P fn a'.tmps _ [] (settle u2) w2
             rw [hset]
             have S2 : SRel P w0 β2 fn.ntmps ⟨s.e, s2.h, []⟩ { a' with defers := [] } w2 := ⟨erel_act (erel_mono m2.le S'.e), m2.rel, trivial⟩
             obtain ⟨r', h1, h2⟩ := result_sound S2 hrv
             exact ⟨r', h1, β2, m.trans m2, r', rfl, h2⟩
         refine aexec_sound C hm n c _ x s β _ w _ hx S ?_
         cases x with
         | normal =>
          injection hfx with hfx; subst hfx
          exact fun a' w' β' S' m => door a' w' β' .nilIface .returning .returning S' m .nili (by simp) rfl (fun c₀ cs hc => .inr ⟨by simp [recoverD, hc], rfl, rfl⟩)
         | ret =>
          injection hfx with hfx; subst hfx
          exact fun a' w' β' S' m => door a' w' β' .nilIface .returning .returning S' m .nili (by simp) rfl (fun c₀ cs hc => .inr ⟨by simp [recoverD, hc], rfl, rfl⟩)
         | exit _ => cases hfx
         | goto _ => cases hfx
         | pan p =>
          injection hfx with hfx; subst hfx
          exact fun a' w' β' v' S' m hv' => door a' w' β' v' (.panicking [{ v := v', recovered := false }]) (.panicking [{ v := v', recovered := true }]) S' m hv' (by simp) rfl (fun c₀ cs hc => .inl (by simp [recoverD, hc]))
        ·cases h
       ·cases h
      ·cases h
     ·cases h
    ·cases h
   ·cases h
  ·cases h
 ·cases h
end
section
variable {P : Program} {orc : CallF} {nt : Nat} {all l : List Oper} {K : St → Prop} {e : Env} {h : AH} {ds : List ADef}
variable {ty : TypeId} {pos : String} {aft : Array Edge} {g : Option (Nat × Bool)}
theorem o_df {x : Operand} {f : FuncId} {first cap : List AV} (hx : ev e x = some (.fn (.func f) first cap)) (hw : wantedA all e ⟨none, .defer ⟨.value x, #[], #[]⟩, ty, pos, aft, g⟩ = true) (k : WO P orc nt all l K ⟨e, h, .fn f cap first :: ds⟩) :
  WO P orc nt all (⟨none, .defer ⟨.value x, #[], #[]⟩, ty, pos, aft, g⟩ :: l) K ⟨e, h, ds⟩ := by
 obtain ⟨s', ⟨n, h1⟩, h2⟩ := k
 refine ⟨s', ⟨n, ?_⟩, h2⟩
 simp only [aops, hw, if_true, opA, kindOp, loudOp, doDefer, deferV, hx, evs, List.append_nil, putE]
 exact h1
end
section
variable {P : Program} {w w' w0 : World} {β β' : Bt} {H H' : AH} {nt : Nat} {e : Env} {a : Act} {M : Mem}
/-- over all fuels -/
noncomputable def tryA (P : Program) (fn gn : Func) (c d : Code) (t : Nat) (orc : CallF) (f g : FuncId) : CallF := fun f' args H =>
 open Classical in if h : ∃ n r, tryN P fn gn c d t orc f g n f' args H = some r then some h.choose_spec.choose else none
theorem tryA_sound (hm : P.follows .mixedOrders = true) (hn : NamesOk P) {orc : CallF} (O : CallSound P w0 orc) {fn gn : Func} {c d : Code} {t : Nat} {pos : String} {f g : FuncId} (hf : P.funcs[f]? = some fn) (hb : fn.body = some c) (hg : P.funcs[g]? = some gn) (hd : gn.body = some d) (hs : d = .seq (recOp t pos) (restOf d)) : CallSound P w0 (tryA P fn gn c d t orc f g) := by
 intro f' args H r H' h
 unfold tryA at h
 split at h
 ·rename_i hx
  injection h with h
  exact tryN_sound hm hn O hf hb hg hd hs hx.choose f' args H r H' (by rw [← h]; exact hx.choose_spec.choose_spec)
 ·cases h
theorem tryN_mono {fn gn : Func} {c d : Code} {t : Nat} {orc : CallF} {f g : FuncId} {n m : Nat} (hn : n ≤ m) {f' : FuncId} {args : List AV} {H : AH} {r : Out × AH} (h : tryN P fn gn c d t orc f g n f' args H = some r) : tryN P fn gn c d t orc f g m f' args H = some r := by
 unfold tryN at h ⊢
 split at h
 ·rename_i hff
  rw [if_pos hff]
  split at h
  ·rename_i hl
   rw [if_pos hl]
   split at h
   ·rename_i x s hx
    rw [aexec_mono (acall_le hn) hn _ _ _ hx]
    split at h
    ·rename_i v hv
     simp only [hv]
     unfold tryEnd at h ⊢
     split at h
     ·rename_i g' cap hsd
      split at h
      ·rename_i hc
       simp only [if_pos hc]
       split at h
       ·rename_i y s2 hx2
        rw [aexec_mono (acall_le hn) hn _ _ _ hx2]
        exact h
       ·cases h
      ·cases h
     ·cases h
    ·cases h
   ·cases h
  ·cases h
 ·cases h
theorem tryA_of {fn gn : Func} {c d : Code} {t : Nat} {orc : CallF} {f g : FuncId} {n : Nat} {f' : FuncId} {args : List AV} {H : AH} {r : Out × AH} (h : tryN P fn gn c d t orc f g n f' args H = some r) : tryA P fn gn c d t orc f g f' args H = some r := by
 have hx : ∃ n r, tryN P fn gn c d t orc f g n f' args H = some r := ⟨n, r, h⟩
 unfold tryA
 rw [dif_pos hx]
 have h1 := tryN_mono (Nat.le_max_left n hx.choose) h
 have h2 := tryN_mono (Nat.le_max_right n hx.choose) hx.choose_spec.choose_spec
 rw [h1] at h2
 exact h2.symm
end
end Go.VI
