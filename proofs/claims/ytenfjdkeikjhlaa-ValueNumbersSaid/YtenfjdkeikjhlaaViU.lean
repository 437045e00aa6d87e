/-
  Code and calls.
-/
import Derived.Test.YtenfjdkeikjhlaaViT3
import Derived.Scope
set_option autoImplicit false
set_option linter.unusedVariables false
namespace Go.VI
open Go.RowKit

section
variable {P : Program} {w w' w0 : World} {β β' : Bt} {H H' : AH} {nt : Nat} {e : Env} {a : Act} {M : Mem}

def CPost (P : Program) (w0 : World) (β : Bt) (nt : Nat) (H : AH) (Q : Exit → Act → World → Prop) (x : AExit) (s : St) : Prop :=
  match x with
  | .normal => ∀ a' w' β', SRel P w0 β' nt s a' w' → Moves P w0 β β' H s.h w' → Q .normal a' w'
  | .exit id => ∀ a' w' β', SRel P w0 β' nt s a' w' → Moves P w0 β β' H s.h w' → Q (.exit id) a' w'
  | .ret => ∀ a' w' β', SRel P w0 β' nt s a' w' → Moves P w0 β β' H s.h w' → Q .ret a' w'
  | .pan v => ∀ a' w' β' v', SRel P w0 β' nt s a' w' → Moves P w0 β β' H s.h w' → VR β' (memOf w0) v v' → Q (.panic [{ v := v', recovered := false }]) a' w'
theorem CPost.after {H1 H2 : AH} {β1 β2 : Bt} {w2 : World} {Q : Exit → Act → World → Prop} {x : AExit} {s : St} (k : CPost P w0 β1 nt H1 Q x s) (h : Moves P w0 β1 β2 H1 H2 w2) : CPost P w0 β2 nt H2 Q x s := by
  cases x with
  | normal => exact fun a' w' β' S m => k a' w' β' S (h.trans m)
  | exit id => exact fun a' w' β' S m => k a' w' β' S (h.trans m)
  | ret => exact fun a' w' β' S m => k a' w' β' S (h.trans m)
  | pan v => exact fun a' w' β' v' S m hv => k a' w' β' v' S (h.trans m) hv
theorem CPost.map {Q Q' : Exit → Act → World → Prop} {x : AExit} {s : St} (k : CPost P w0 β nt H Q x s) (h1 : x ≠ .normal → ∀ e a w, (e ≠ .normal) → Q e a w → Q' e a w) (h2 : x ≠ .normal) : CPost P w0 β nt H Q' x s := by
  cases x with
  | normal => exact absurd rfl h2
  | exit id => exact fun a' w' β' S m => h1 h2 _ _ _ (by simp) (k a' w' β' S m)
  | ret => exact fun a' w' β' S m => h1 h2 _ _ _ (by simp) (k a' w' β' S m)
  | pan v => exact fun a' w' β' v' S m hv => h1 h2 _ _ _ (by simp) (k a' w' β' v' S m hv)
theorem then_other {K : Act → World → Prop} {Q : Exit → Act → World → Prop} {e : Exit} {a : Act} {w : World} (he : e ≠ .normal) (h : Q e a w) : Exit.then K Q e a w := by
  cases e <;> first | exact absurd rfl he | exact h

theorem pass_loop {m : Machine} {b : Frame} {k : List Item} {cs : List Frame} {c : Code} {e : Exit} {a : Act} {w : World} (he : e ≠ .normal) (harr : Arrives P m b (.inLoop c :: k) cs e a w) : Arrives P m b k cs e a w := by
  cases e with
  | normal => exact absurd rfl he
  | exit id => exact .pass (x := .inLoop c) rfl (fun _ _ => .inl (by simp)) harr
  | goto l => exact .pass (x := .inLoop c) rfl (fun _ _ => .inl (by simp)) harr
  | ret => exact .pass (x := .inLoop c) rfl (fun _ _ => .inl (by simp)) harr
  | panic ch => exact .pass (x := .inLoop c) rfl (fun _ _ => .inl (by simp)) harr
  | outgrown => exact .pass (x := .inLoop c) rfl (fun _ _ => .inl (by simp)) harr
theorem iter_sound {c : Code} {body : St → Option (AExit × St)} {Q : Exit → Act → World → Prop}
    (hb : ∀ s x s' β a w Q', body s = some (x, s') → SRel P w0 β nt s a w → CPost P w0 β nt s.h Q' x s' → c.wp P Q' a w) :
    ∀ (n : Nat) (s : St) (x : AExit) (s' : St) (β : Bt) (a : Act) (w : World), iter body n s = some (x, s') → SRel P w0 β nt s a w → CPost P w0 β nt s.h Q x s' →
      ∀ (b : Frame) (k : List Item) (cs : List Frame), ∃ e a' w', Q e a' w' ∧ Arrives P (lone (b.at a (.code c :: .inLoop c :: k)) cs w) b k cs e a' w'
  | 0, s, x, s', β, a, w, h, _, _, _, _, _ => by cases h
  | n + 1, s, x, s', β, a, w, h, S, K, b, k, cs => by
    simp only [iter] at h
    cases hbo : body s with
    | none => rw [hbo] at h; cases h
    | some r =>
      obtain ⟨y, s1⟩ := r
      rw [hbo] at h
      by_cases hy : y = .normal
      · subst hy
        simp only at h
        -- the round, with what follows a normal end
        have hr := hb s .normal s1 β a w (fun e a' w' => (e = .normal ∧ ∃ β1, SRel P w0 β1 nt s1 a' w' ∧ Moves P w0 β β1 s.h s1.h w') ∨ (e ≠ .normal ∧ Q e a' w')) hbo S (fun a' w' β' S' m => .inl ⟨rfl, β', S', m⟩)
        obtain ⟨e, a₁, w₁, hq, harr⟩ := hr b (.inLoop c :: k) cs
        rcases hq with ⟨rfl, β1, S1, m1⟩ | ⟨hne, hq⟩
        · obtain ⟨e₂, a₂, w₂, hq₂, harr₂⟩ := iter_sound hb n s1 x s' β1 a₁ w₁ h S1 (K.after m1) b k cs
          exact ⟨e₂, a₂, w₂, hq₂, .of_steps (Steps.trans harr (.one step_inLoop)) harr₂⟩
        · exact ⟨_, a₁, w₁, hq, pass_loop hne harr⟩
      · have h' : some (y, s1) = some (x, s') := by cases y <;> first | exact absurd rfl hy | exact h
        injection h' with h'; injection h' with h1 h2; subst h1; subst h2
        have hr := hb s y s1 β a w (fun e a' w' => e ≠ .normal ∧ Q e a' w') hbo S (K.map (fun _ e a' w' he hq => ⟨he, hq⟩) hy)
        obtain ⟨e, a₁, w₁, ⟨hne, hq⟩, harr⟩ := hr b (.inLoop c :: k) cs
        exact ⟨_, a₁, w₁, hq, pass_loop hne harr⟩

theorem aexec_sound {call : CallF} (C : CallSound P w0 call) (hm : P.follows .mixedOrders = true) (fuel : Nat) : ∀ (c : Code) (s : St) (x : AExit) (s' : St) (β : Bt) (a : Act) (w : World) (Q : Exit → Act → World → Prop),
    aexec P nt call fuel c s = some (x, s') → SRel P w0 β nt s a w → CPost P w0 β nt s.h Q x s' → c.wp P Q a w
  | .skip, s, x, s', β, a, w, Q, h, S, K => by
    simp only [aexec, Option.some.injEq, Prod.mk.injEq] at h; obtain ⟨rfl, rfl⟩ := h
    exact wp_skip (K a w β S (.refl S.h))
  | .label l, s, x, s', β, a, w, Q, h, S, K => by
    simp only [aexec, Option.some.injEq, Prod.mk.injEq] at h; obtain ⟨rfl, rfl⟩ := h
    exact wp_label (K a w β S (.refl S.h))
  | .region id ops draw, s, x, s', β, a, w, Q, h, S, K => by
    simp only [aexec] at h
    have K' : ∀ r, regionA P nt call ops draw s = some r → RegPost P w0 β nt s.h (Q .normal) Q r := by
      intro r hr
      rw [hr] at h
      cases r with
      | ok s1 => injection h with h; injection h with h1 h2; subst h1; subst h2; exact K
      | pan v s1 => injection h with h; injection h with h1 h2; subst h1; subst h2; exact K
    cases hr : regionA P nt call ops draw s with
    | none => rw [hr] at h; cases h
    | some r =>
      have K1 := K' r hr
      unfold regionA at hr
      split at hr
      · rename_i hd
        simp only at hr
        split at hr
        · rename_i hp
          obtain ⟨s1, h1, rfl⟩ := Option.map_eq_some_iff.1 hr
          rw [hd]
          exact draw_sound C hm hp h1 S K1
        · cases hr
      · rename_i hd
        have hd : draw = false := by simpa using hd
        subst hd
        have := aops_sound C (ops := ops) (Q := Q) 0 ops.toList s r β a w (fun j => by rw [Nat.zero_add]) hr S K1
        refine wp_region ?_
        have e : (List.range ops.toList.length).map (0 + ·) = List.range ops.size := by simp
        rw [e] at this
        exact this
  | .seq c1 c2, s, x, s', β, a, w, Q, h, S, K => by
    simp only [aexec] at h
    refine wp_seq ?_
    cases h1 : aexec P nt call fuel c1 s with
    | none => rw [h1] at h; cases h
    | some r =>
      obtain ⟨y, s1⟩ := r
      rw [h1] at h
      by_cases hy : y = .normal
      · subst hy
        simp only at h
        refine aexec_sound C hm fuel c1 s .normal s1 β a w _ h1 S fun a1 w1 β1 S1 m1 => ?_
        exact aexec_sound C hm fuel c2 s1 x s' β1 a1 w1 Q h S1 (K.after m1)
      · have h' : some (y, s1) = some (x, s') := by cases y <;> first | exact absurd rfl hy | exact h
        injection h' with h'; injection h' with e1 e2; subst e1; subst e2
        exact aexec_sound C hm fuel c1 s y s1 β a w _ h1 S (K.map (fun _ e a' w' he hq => then_other he hq) hy)
  | .cond c c1 c2, s, x, s', β, a, w, Q, h, S, K => by
    simp only [aexec] at h
    split at h
    · rename_i hc
      have k := ev_sound S.e hc
      have hb : a.eval c = .bool true := by generalize a.eval c = v at k; cases k; rfl
      exact wp_cond_true hb (aexec_sound C hm fuel c1 s x s' β a w Q h S K)
    · rename_i hc
      have k := ev_sound S.e hc
      have hb : a.eval c = .bool false := by generalize a.eval c = v at k; cases k; rfl
      exact wp_cond_false hb (aexec_sound C hm fuel c2 s x s' β a w Q h S K)
    · cases h
  | .block id c, s, x, s', β, a, w, Q, h, S, K => by
    simp only [aexec] at h
    refine wp_block ?_
    cases h1 : aexec P nt call fuel c s with
    | none => rw [h1] at h; cases h
    | some r =>
      obtain ⟨y, s1⟩ := r
      rw [h1] at h
      refine aexec_sound C hm fuel c s y s1 β a w _ h1 S ?_
      cases y with
      | normal => injection h with h; injection h with e1 e2; subst e1; subst e2; exact K
      | ret => injection h with h; injection h with e1 e2; subst e1; subst e2; exact K
      | pan v => injection h with h; injection h with e1 e2; subst e1; subst e2; exact K
      | exit j =>
        simp only at h
        split at h
        · rename_i hj
          subst hj
          injection h with h; injection h with e1 e2; subst e1; subst e2
          intro a' w' β' S' m
          have := K a' w' β' S' m
          simp only [Exit.inBlock, if_true]; exact this
        · rename_i hj
          injection h with h; injection h with e1 e2; subst e1; subst e2
          intro a' w' β' S' m
          have := K a' w' β' S' m
          simp only [Exit.inBlock, hj, if_false]; exact this
  | .loop c, s, x, s', β, a, w, Q, h, S, K => by
    simp only [aexec] at h
    intro b k cs
    obtain ⟨e, a', w', hq, harr⟩ := iter_sound (c := c) (fun s x s' β a w Q' h1 S1 K1 => aexec_sound C hm fuel c s x s' β a w Q' h1 S1 K1) fuel s x s' β a w h S K b k cs
    exact ⟨e, a', w', hq, .of_steps (.one step_loop) harr⟩
  | .exit id, s, x, s', β, a, w, Q, h, S, K => by
    simp only [aexec, Option.some.injEq, Prod.mk.injEq] at h; obtain ⟨rfl, rfl⟩ := h
    exact wp_exit (K a w β S (.refl S.h))
  | .ret, s, x, s', β, a, w, Q, h, S, K => by
    simp only [aexec, Option.some.injEq, Prod.mk.injEq] at h; obtain ⟨rfl, rfl⟩ := h
    exact wp_ret (K a w β S (.refl S.h))
  | .rangeFunc .., s, x, s', β, a, w, Q, h, S, K => by simp only [aexec] at h; cases h
  | .scope c, s, x, s', β, a, w, Q, h, S, K => by
    simp only [aexec] at h
    refine wp_scope_straight (aexec_sound C hm fuel c s x s' β a w _ h S ?_)
    cases x <;> exact K
  | .goto _, s, x, s', β, a, w, Q, h, S, K => by simp only [aexec] at h; cases h
  | .refuse _, s, x, s', β, a, w, Q, h, S, K => by simp only [aexec] at h; cases h

/-! results -/
theorem run_asAddr' {x : Addr} : (asAddr (.pointer (some x))).run P w = .ok x w := rfl
theorem results_sound {s : St} (S : SRel P w0 β nt s a w) : ∀ {rs : List ResultVar} {vs : List AV}, resultsA P s rs = some vs →
    ∃ ws, VRs β (memOf w0) vs ws ∧ (rs.mapM fun | .tmp t => pure (a.tmps.getD t undef) | .cell c t => do loadVar t (← asAddr (a.tmps.getD c undef)) : Sem (List Value)).run P w = .ok ws w
  | [], vs, h => by simp only [resultsA, Option.some.injEq] at h; subst h; exact ⟨[], .nil, by simp⟩
  | .tmp t :: r, vs, h => by
    simp only [resultsA] at h
    obtain ⟨l, h1, rfl⟩ := Option.map_eq_some_iff.1 h
    obtain ⟨ws, h2, h3⟩ := results_sound S h1
    exact ⟨_ :: ws, .cons _ _ _ _ (S.e.val t) h2, by simp only [List.mapM_cons, Sem.run_bind, Sem.run_pure, Result.andThen_ok, h3]⟩
  | .cell c t :: r, vs, h => by
    simp only [resultsA] at h
    have hv := S.e.val c
    split at h
    · rename_i l o sz vs' hc ha hs hr
      rw [hc] at hv
      split at h
      · rename_i cs hcs
        injection h with h; subst h
        obtain ⟨ws, h2, h3⟩ := results_sound S hr
        generalize hx : a.tmps.getD c undef = vx at hv
        cases hv with | ptr _ _ cb co hl =>
        obtain ⟨hlen, us, hu, hcell⟩ := read_sound S.h hl hcs
        have e := run_cells (P := P) (w := w) cb (co + o) us hcell
        rw [← hu.length, hlen] at e
        exact ⟨.agg us.toArray :: ws, .cons _ _ _ _ (.agg _ _ hu) h2, by
          have e2 : (loadVar t { block := cb, off := co + o }).run P w = .ok (.agg us.toArray) w := by simp only [loadVar, Sem.run_bind, Sem.run_pure, Result.andThen_ok, run_isAgg ha, if_true, run_csz hs, e]
          simp only [List.mapM_cons, hx, run_asAddr', Sem.run_bind, Sem.run_pure, Result.andThen_ok, e2, h3]⟩
      · cases h
    · rename_i l o vs' hc ha hr
      rw [hc] at hv
      split at h
      · rename_i v1 hcs
        injection h with h; subst h
        obtain ⟨ws, h2, h3⟩ := results_sound S hr
        generalize hx : a.tmps.getD c undef = vx at hv
        cases hv with | ptr _ _ cb co hl =>
        obtain ⟨_, us, hu, hcell⟩ := read_sound S.h hl hcs
        obtain ⟨y, hy, hyr⟩ := hu.get (i := 0) (x := v1) rfl
        have e := hcell 0 y hy
        rw [Nat.add_zero] at e
        refine ⟨y :: ws, .cons _ _ _ _ hyr h2, ?_⟩
        have e2 : (loadVar t { block := cb, off := co + o }).run P w = .ok y w := by simp only [loadVar, Sem.run_bind, Result.andThen_ok, run_isAgg ha, Bool.false_eq_true, if_false, run_load, e]
        simp only [List.mapM_cons, hx, run_asAddr', Sem.run_bind, Sem.run_pure, Result.andThen_ok, e2, h3]
      · cases h
    · cases h
theorem result_sound {s : St} (S : SRel P w0 β nt s a w) {fn : Func} {v : AV} (h : resultA P fn.results.toList s = some v) : ∃ v', (results fn a.tmps).run P w = .ok v' w ∧ VR β (memOf w0) v v' := by
  unfold resultA at h
  have key : ∀ vs, resultsA P s fn.results.toList = some vs → ∃ ws, VRs β (memOf w0) vs ws ∧ (fn.results.mapM fun | .tmp t => pure (a.tmps.getD t undef) | .cell c t => do loadVar t (← asAddr (a.tmps.getD c undef)) : Sem (Array Value)).run P w = .ok ws.toArray w := by
    intro vs hvs
    obtain ⟨ws, h1, h2⟩ := results_sound S hvs
    refine ⟨ws, h1, ?_⟩
    rw [Array.mapM_eq_mapM_toList, Sem.run_map, h2]; rfl
  split at h
  · rename_i v0 hvs
    injection h with h; subst h
    obtain ⟨ws, h1, h2⟩ := key _ hvs
    cases h1 with | cons _ y _ r hy hr =>
    cases hr
    exact ⟨y, by unfold results; simp only [Sem.run_bind]; erw [h2]; simp, hy⟩
  · rename_i vs hne hvs
    injection h with h; subst h
    obtain ⟨ws, h1, h2⟩ := key _ hvs
    refine ⟨.tuple ws.toArray, ?_, .tup _ _ h1⟩
    unfold results
    simp only [Sem.run_bind]
    erw [h2]
    have hl : ws.length ≠ 1 := fun c => by
      have := h1.length
      rw [c] at this
      match vs, this with
      | [v], _ => exact hne v rfl
    simp [hl]
  · cases h

theorem envOf_val : ∀ (args : List AV) (i : Nat) (e : Env) (t : Nat), Env.val (envOf i args e) t = if i ≤ t ∧ t < i + args.length then args.getD (t - i) (.tup []) else e.val t
  | [], i, e, t => by simp only [envOf, List.length_nil, Nat.add_zero]; rw [if_neg (by omega)]
  | v :: r, i, e, t => by
    simp only [envOf]
    rw [envOf_val r (i + 1) _ t, val_set]
    by_cases h1 : i + 1 ≤ t ∧ t < i + 1 + r.length
    · rw [if_pos h1, if_pos ⟨by omega, by simp; omega⟩]
      rw [show t - i = (t - (i + 1)) + 1 by omega]; simp
    · rw [if_neg h1]
      by_cases h2 : t = i
      · subst h2; simp
      · rw [if_neg h2, if_neg (by simp; omega)]
theorem env_enter {args : List AV} {vs : List Value} (hv : VRs β M args vs) (hl : args.length ≤ nt) : ERel β M nt (envOf 0 args .lf) { tmps := vs.toArray ++ Array.replicate (nt - vs.toArray.size) undef, defers := [] } := by
  have hlen := hv.length
  refine ⟨by simp; omega, fun t => ?_⟩
  rw [envOf_val]
  by_cases h : t < args.length
  · rw [if_pos ⟨Nat.zero_le _, by omega⟩]
    obtain ⟨y, hy, hr⟩ := hv.get (i := t) (x := args[t]) (by simp [h])
    have e1 : args.getD (t - 0) (.tup []) = args[t] := by simp [List.getD, h]
    have e2 : (vs.toArray ++ Array.replicate (nt - vs.toArray.size) undef).getD t undef = y := by
      rw [Array.getD_eq_getD_getElem?, Array.getElem?_append_left (by simp; omega)]
      simp [hy]
    rw [e1]; simp only [e2]; exact hr
  · rw [if_neg (by omega)]
    have e1 : Env.val (.lf : Env) t = .tup [] := by simp [Env.val, Tr.get_lf]
    have e2 : (vs.toArray ++ Array.replicate (nt - vs.toArray.size) undef).getD t undef = undef := by
      rw [Array.getD_eq_getD_getElem?, Array.getElem?_append_right (by simp; omega), Array.getElem?_replicate]
      split <;> rfl
    rw [e1]; simp only [e2]; exact undef_sound

/-- No function is one of the two that the model takes by name. -/
def NamesOk (P : Program) : Prop := ∀ (f : Nat) (fn : Func), P.funcs[f]? = some fn → (fn.name == "runtime.NumGoroutine") = false

theorem abody_sound (hm : P.follows .mixedOrders = true) (hn : NamesOk P) {call : CallF} (C : CallSound P w0 call) (n : Nat) : CallSound P w0 (abody P call n) := by
  intro f args H r H' h
  unfold abody at h
  split at h
  · rename_i fn hf
    split at h
    · rename_i c hb
      split at h
      · rename_i hl
        refine ⟨⟨fn, hf, hn f fn hf, by rw [hb]; rfl⟩, fun β w vs R hv => ?_⟩
        refine calls_of_wp hf hb ?_
        have S : SRel P w0 β fn.ntmps ⟨envOf 0 args .lf, H, []⟩ { tmps := vs.toArray ++ Array.replicate (fn.ntmps - vs.toArray.size) undef, defers := [] } w := ⟨env_enter hv hl, R, trivial⟩
        have fin : ∀ (s : St), (match s.d with | [] => (resultA P fn.results.toList s).map fun v => (Out.ret v, s.h) | _ => none) = some (r, H') →
            ∀ a' w' β', SRel P w0 β' fn.ntmps s a' w' → Moves P w0 β β' H s.h w' → a'.defers = [] ∧ ∃ v, (results fn a'.tmps).run P w' = .ok v w' ∧ (∃ β'', Moves P w0 β β'' H H' w' ∧ OutE β'' (memOf w0) r (.returned v)) := by
          intro s hs a' w' β' S' m
          split at hs
          · rename_i hd
            obtain ⟨v, hv1, hv2⟩ := Option.map_eq_some_iff.1 hs
            injection hv2 with e1 e2; subst e1; subst e2
            obtain ⟨v', h1, h2⟩ := result_sound S' hv1
            refine ⟨?_, v', h1, β', m, v', rfl, h2⟩
            have := S'.d; rw [hd] at this
            cases hdd : a'.defers with
            | nil => rfl
            | cons _ _ => rw [hdd] at this; exact this.elim
          · cases hs
        split at h
        · rename_i s hx
          exact aexec_sound C hm n c _ .normal s β _ w _ hx S (fun a' w' β' S' m => fin s h a' w' β' S' m)
        · rename_i s hx
          exact aexec_sound C hm n c _ .ret s β _ w _ hx S (fun a' w' β' S' m => fin s h a' w' β' S' m)
        · rename_i v s hx
          split at h
          · rename_i hd
            injection h with h; injection h with e1 e2; subst e1; subst e2
            refine aexec_sound C hm n c _ (.pan v) s β _ w _ hx S (fun a' w' β' v' S' m hv' => ?_)
            refine ⟨?_, β', m, v', rfl, hv'⟩
            have := S'.d; rw [hd] at this
            cases hdd : a'.defers with
            | nil => rfl
            | cons _ _ => rw [hdd] at this; exact this.elim
          · cases h
        · cases h
      · cases h
    · cases h
  · cases h
theorem acall_sound (hm : P.follows .mixedOrders = true) (hn : NamesOk P) {orc : CallF} (O : CallSound P w0 orc) : ∀ n, CallSound P w0 (acall P orc n)
  | 0 => O
  | n + 1 => fun f args H r H' h => by
    simp only [acall] at h
    cases ho : orc f args H with
    | some x => rw [ho] at h; exact O f args H r H' (by rw [ho]; exact h)
    | none => rw [ho] at h; exact abody_sound hm hn (acall_sound hm hn O n) n f args H r H' h
theorem noOrc_sound : CallSound P w0 noOrc := fun _ _ _ _ _ h => by cases h
end
end Go.VI
