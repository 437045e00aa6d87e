/-
  What the abstract machine looks up, the model looks up: slices, conversions, maps.
-/
import Derived.Test.YtenfjdkeikjhlaaViF
set_option autoImplicit false
set_option linter.unusedVariables false
namespace Go.VI
open Go.RowKit

section
variable {P : Program} {w w0 : World} {β : Bt} {H : AH} {nt : Nat} {e : Env} {a : Act} {M : Mem}

def OptR (β : Bt) (M : Mem) : Option AV → Option Value → Prop
  | none, none => True
  | some x, some y => VR β M x y
  | _, _ => False
theorem optEv_sound (E : ERel β M nt e a) {x : Option Operand} {v : Option AV} (h : optEv e x = some v) : OptR β M v (x.map a.eval) := by
  cases x with
  | none => simp only [optEv, Option.some.injEq] at h; subst h; trivial
  | some x =>
    simp only [optEv] at h
    obtain ⟨y, hy, rfl⟩ := Option.map_eq_some_iff.1 h
    exact ev_sound E hy
theorem bound_spec {v : AV} {y k : Nat} {vv : Value} (h : bound v y = some k) (hv : VR β M v vv) : k ≤ y ∧ ∃ j, vv = .int j (k : Int) := by
  unfold bound at h
  split at h
  · rename_i j n
    split at h
    · rename_i hle
      injection h with h; subst h
      cases hv
      exact ⟨Nat.le_of_ble_eq_true hle, j, rfl⟩
    · cases h
  · cases h
theorem run_bound (j : IntKind) {k y : Nat} (h : k ≤ y) (code : BoundsCode) (w : World) : (Instr.sliceBound (.int j (k : Int)) y code).run P w = .ok k w := by
  have := run_sliceBound (P := P) (w := w) j (k : Int) y code (by omega) (by omega)
  simpa using this
/-- The three bounds, cut in a real capacity that may be greater. -/
theorem bounds_sound {isSlice : Bool} {lo hi mx : Option AV} {vlo vhi vmx : Option Value} {len cap cap' m b k : Nat} (hl : OptR β M lo vlo) (hh : OptR β M hi vhi) (hm : OptR β M mx vmx)
    (h1 : optBound mx cap cap = some m) (h2 : highOf hi mx len m = some b) (h3 : optBound lo b 0 = some k) (hc : cap ≤ cap') (w : World) :
    (Instr.sliceBounds isSlice len cap' vlo vhi vmx).run P w = .ok (k, b, if mx.isSome then m else cap') w ∧ b ≤ m ∧ (hi = none → b = len ∧ mx = none) ∧ k ≤ b ∧ (mx = none → m = cap) ∧ m ≤ cap := by
  have low : (vlo = none ∧ k = 0) ∨ ∃ j, vlo = some (.int j (k : Int)) ∧ k ≤ b := by
    cases lo with
    | none =>
      cases vlo with
      | none => simp only [optBound, Option.some.injEq] at h3; exact .inl ⟨rfl, h3.symm⟩
      | some _ => exact hl.elim
    | some x =>
      cases vlo with
      | none => exact hl.elim
      | some v =>
        obtain ⟨h4, j, rfl⟩ := bound_spec (h3 : bound x b = some k) hl
        exact .inr ⟨j, rfl, h4⟩
  have hkb : k ≤ b := by rcases low with ⟨_, h⟩ | ⟨_, _, h⟩ <;> omega
  cases mx with
  | none =>
    cases vmx with
    | some _ => exact hm.elim
    | none =>
    simp only [optBound, Option.some.injEq] at h1; subst h1
    cases hi with
    | none =>
      cases vhi with
      | some _ => exact hh.elim
      | none =>
      have h2' : len ≤ cap ∧ len = b := by
        simp only [highOf, Option.isSome_none] at h2
        split at h2
        · rename_i hle; injection h2 with h2; exact ⟨Nat.le_of_ble_eq_true hle, h2⟩
        · cases h2
      obtain ⟨h2l, h2e⟩ := h2'
      subst h2e
      refine ⟨?_, h2l, fun _ => ⟨rfl, rfl⟩, hkb, fun _ => rfl, Nat.le_refl _⟩
      rcases low with ⟨rfl, rfl⟩ | ⟨j, rfl, h4⟩
      · simp [Instr.sliceBounds]
      · simp [Instr.sliceBounds, run_bound j h4]
    | some x =>
      cases vhi with
      | none => exact hh.elim
      | some v =>
      obtain ⟨h4, j, rfl⟩ := bound_spec (h2 : bound x _ = some b) hh
      refine ⟨?_, h4, fun h => (by cases h), hkb, fun _ => rfl, Nat.le_refl _⟩
      have h5 := run_bound (P := P) j (Nat.le_trans h4 hc) (if isSlice then .sliceAcap else .sliceAlen) w
      rcases low with ⟨rfl, rfl⟩ | ⟨j, rfl, h4⟩
      · simp [Instr.sliceBounds, h5]
      · simp [Instr.sliceBounds, h5, run_bound j h4]
  | some y =>
    cases vmx with
    | none => exact hm.elim
    | some vy =>
    obtain ⟨h6, j6, rfl⟩ := bound_spec (h1 : bound y cap = some m) hm
    cases hi with
    | none => simp [highOf] at h2
    | some x =>
      cases vhi with
      | none => exact hh.elim
      | some v =>
      obtain ⟨h4, j, rfl⟩ := bound_spec (h2 : bound x m = some b) hh
      refine ⟨?_, h4, fun h => (by cases h), hkb, fun h => (by cases h), h6⟩
      have h5 := run_bound (P := P) j h4 .slice3B w
      have h7 := run_bound (P := P) j6 (Nat.le_trans h6 hc) (if isSlice then .slice3Acap else .slice3Alen) w
      rcases low with ⟨rfl, rfl⟩ | ⟨j, rfl, h4⟩
      · simp [Instr.sliceBounds, h5, h7]
      · simp [Instr.sliceBounds, h5, h7, run_bound j h4]

theorem sliceStr_sound {s : ByteArray} {lo hi : Option AV} {vlo vhi : Option Value} {t : TypeId} {v : AV} (hu : P.underlying t = some .string) (hl : OptR β M lo vlo) (hh : OptR β M hi vhi) (h : sliceStr s.data.toList lo hi = some v) (w : World) :
    Gives P w β M (Instr.sliceAt t (.string s) vlo vhi none) v := by
  unfold sliceStr at h
  split at h
  · rename_i b hb
    split at h
    · rename_i k hk
      injection h with h; subst h
      have hb' : highOf hi none s.data.toList.length s.data.toList.length = some b := by
        cases hi with
        | none => simp only [optBound, Option.some.injEq] at hb; subst hb; simp [highOf, Nat.ble_self_eq_true]
        | some x => simpa [highOf, optBound] using hb
      obtain ⟨h1, h2, h3, h4, _, _⟩ := bounds_sound (P := P) (isSlice := false) (mx := none) (vmx := none) hl hh trivial (by rfl : optBound none s.data.toList.length s.data.toList.length = some _) hb' hk (Nat.le_refl _) w
      have hbs : b ≤ s.data.toList.length := h2
      have hsz : s.data.toList.length = s.size := by simp
      rw [hsz] at h1
      refine ⟨.string (s.extract k b), ?_, ?_⟩
      · simp only [Instr.sliceAt, Sem.run_bind, run_underlying hu, Result.andThen_ok, Instr.slice, Option.isSome_none, Bool.false_eq_true, if_false, Sem.run_pure, h1]
      · have e : (s.data.toList.take b).drop k = (s.extract k b).data.toList := by
          simp [ByteArray.data_extract, List.extract_eq_take_drop, List.drop_take]
        rw [e]; exact .str _
    · cases h
  · cases h

theorem cap_le (R : Rel P w0 β H w) {l : Loc} {off cap cap' : Nat} (h : CapL β l off cap cap') : cap ≤ cap' := by
  cases l with
  | im _ => exact Nat.le_of_eq h.symm
  | mt b =>
    obtain ⟨p, hb, h1, h2⟩ := h
    obtain ⟨_, _, _, h3, h4⟩ := R.dom b p hb
    by_cases c : off + cap * p.e = p.n
    · have := h1 c
      have h5 : cap * p.e ≤ cap' * p.e := by omega
      exact Nat.le_of_mul_le_mul_right h5 h4
    · exact Nat.le_of_eq (h2 c).symm
/-- the capacity of what is cut -/
theorem cap_cut (R : Rel P w0 β H w) {el : TypeId} {s : Nat} (hs : csz P el = some s) {l : Loc} {off cap cap' k m : Nat} {mx : Bool} (hc : CapL β l off cap cap') (hk : k ≤ m) (hm : m ≤ cap)
    (hcut : cutOk H el l = true) (hmx : mx = false → m = cap) (hend : (mx && atEnd H l (off + m * s)) = false) :
    CapL β l (off + k * s) (m - k) ((if mx then m else cap') - k) := by
  have hle := cap_le R hc
  cases l with
  | im _ =>
    simp only [CapL] at hc ⊢
    cases mx
    · simp only [hmx rfl, hc, Bool.false_eq_true, if_false]
    · rfl
  | mt b =>
    obtain ⟨p, hb, h1, h2⟩ := hc
    refine ⟨p, hb, ?_⟩
    simp only [cutOk] at hcut
    split at hcut
    · rename_i cells el' op fam hat
      obtain ⟨hn, hcl, hop, _⟩ := R.row hb hat
      cases op with
      | false =>
        have hr := hcl rfl
        have hcc : cap' = cap := by
          by_cases c : off + cap * p.e = p.n
          · have h5 := h1 c
            have h6 : cap' * p.e = cap * p.e := by omega
            exact Nat.eq_of_mul_eq_mul_right (R.dom b p hb).2.2.2.2 h6
          · exact h2 c
        subst hcc
        cases mx
        · have := hmx rfl; subst this
          exact ⟨fun h => by rw [hr]; exact h, fun _ => rfl⟩
        · exact ⟨fun h => by rw [hr]; exact h, fun _ => rfl⟩
      | true =>
        have he : el' = el := by simpa [beq_iff] using hcut
        subst he
        have hpe : p.e = s := by have := hop rfl; rw [hs] at this; exact (Option.some.inj this).symm
        have e1 : ∀ q, k ≤ q → off + k * s + (q - k) * p.e = off + q * p.e := fun q hq => by
          rw [hpe, Nat.sub_mul]; have := Nat.mul_le_mul_right s hq; omega
        cases mx
        · have := hmx rfl; subst this
          simp only [Bool.false_eq_true, if_false]
          rw [CapR, e1 _ hk, e1 _ (Nat.le_trans hk hle)]
          exact ⟨h1, fun h => by rw [h2 h]⟩
        · simp only [if_true]
          rw [CapR, e1 _ hk]
          refine ⟨fun h => ?_, fun _ => rfl⟩
          exfalso
          simp only [Bool.true_and, atEnd, hat, beq_iff] at hend
          rw [decide_eq_false_iff_not] at hend
          exact hend (by rw [← hn, ← h, hpe])
    · cases hcut

theorem slice_sound (R : Rel P w0 β H w) {t : TypeId} {x : Operand} {lo hi mx : Option Operand} {v : AV} (E : ERel β (memOf w0) nt e a) (h : doSlice P e H t x lo hi mx = some v) :
    Gives P w β (memOf w0) (Instr.sliceAt t (a.eval x) (lo.map a.eval) (hi.map a.eval) (mx.map a.eval)) v := by
  unfold doSlice at h
  split at h
  · rename_i d y lo' hi' mx' hu hx hlo hhi hmx
    have k0 := ev_sound E hx
    have k1 := optEv_sound E hlo
    have k2 := optEv_sound E hhi
    have k3 := optEv_sound E hmx
    generalize a.eval x = vx at *
    generalize lo.map a.eval = vlo at *
    generalize hi.map a.eval = vhi at *
    generalize mx.map a.eval = vmx at *
    unfold sliceBy at h
    split at h
    · rename_i s
      split at h
      · cases h
      · rename_i hn
        generalize hq : AV.str s = q at k0
        cases k0 <;> cases hq
        have : mx' = none := by cases mx' with | none => rfl | some _ => simp at hn
        subst this
        cases vmx with
        | some _ => exact k3.elim
        | none => exact sliceStr_sound hu k1 k2 h w
    · cases k0
      split at h
      · rename_i sz hsz
        unfold sliceNil at h
        split at h
        · rename_i m b k hm hb hk
          injection h with h; subst h
          have hm0 : m = 0 := by
            cases mx' with
            | none => simpa [optBound] using hm.symm
            | some y => cases vmx with
              | none => exact k3.elim
              | some _ => have := (bound_spec (hm : bound y 0 = some m) k3).1; omega
          subst hm0
          obtain ⟨h1, h2, h3, h4, h5, h6⟩ := bounds_sound (P := P) (isSlice := true) (len := 0) k1 k2 k3 hm hb (by
            have hb0 : b = 0 := by
              cases hi' with
              | none => simp only [highOf] at hb; split at hb <;> simp_all
              | some y => cases vhi with
                | none => exact k2.elim
                | some _ => have := (bound_spec (hb : bound y 0 = some b) k2).1; omega
            subst hb0; exact hk) (Nat.le_refl _) w
          have hb0 : b = 0 := by omega
          subst hb0
          have hk0 : k = 0 := by omega
          subst hk0
          exact ⟨.slice none 0 0, by simp only [Instr.sliceAt, Sem.run_bind, run_underlying hu, Result.andThen_ok, Instr.slice, h1, ite_self, run_csz hsz]; simp, .nils⟩
        · cases h
      · cases h
    · rename_i elem l o len cap
      split at h
      · rename_i s hs
        unfold sliceSl at h
        split at h
        · cases h
        · rename_i m hm
          split at h
          · rename_i hcut hend
            split at h
            · cases h
            · rename_i b hb
              split at h
              · cases h
              · rename_i k hk
                split at h
                · rename_i hkm
                  have hkm := Nat.le_of_ble_eq_true hkm
                  injection h with h; subst h
                  cases k0 with
                  | sl _ _ _ _ cap' c o' hl hc =>
                    obtain ⟨h1, h2, h3, h4, h5, h6⟩ := bounds_sound (P := P) (isSlice := true) (len := len) k1 k2 k3 hm hb hk (cap_le R hc) w
                    have hcc := cap_cut R hs hc hkm h6 hcut (fun hx => h5 (by cases mx' with | none => rfl | some _ => cases hx)) hend
                    by_cases hz : (if mx'.isSome then m else cap') = k
                    · have hcm : m = k := by
                        cases mx' with
                        | none => have := h5 rfl; have := cap_le R hc; simp at hz; omega
                        | some _ => simpa using hz
                      have hbk : b = k := by omega
                      subst hbk
                      rw [hz, Nat.sub_self] at hcc
                      refine ⟨.slice (some ⟨c, o' + o, none⟩) 0 0, ?_, ?_⟩
                      · simp only [Instr.sliceAt, Sem.run_bind, run_underlying hu, Result.andThen_ok, Instr.slice, h1, run_csz hs, hz, if_true, Nat.sub_self, Sem.run_pure]
                      · rw [Nat.sub_self]; exact .sl0 _ _ _ c o' _ hl hcc
                    · refine ⟨.slice (some ⟨c, o' + (o + k * (s + 1)), none⟩) (b - k) ((if mx'.isSome then m else cap') - k), ?_, .sl _ _ _ _ _ c o' hl hcc⟩
                      simp only [Instr.sliceAt, Sem.run_bind, run_underlying hu, Result.andThen_ok, Instr.slice, h1, run_csz hs, if_neg hz, Sem.run_pure, Option.map_some, add_plain', Nat.add_assoc]
                  | sl0 _ _ _ c o' ad hl hc =>
                    obtain ⟨h1, h2, h3, h4, h5, h6⟩ := bounds_sound (P := P) (isSlice := true) (len := 0) k1 k2 k3 hm hb hk (cap_le R hc) w
                    have hcap0 : cap = 0 := by have := cap_le R hc; omega
                    have hcc := cap_cut R hs hc hkm h6 hcut (fun hx => h5 (by cases mx' with | none => rfl | some _ => cases hx)) hend
                    have hm0 : m = 0 := by omega
                    have hk0 : k = 0 := by omega
                    have hb0 : b = 0 := by omega
                    subst hm0 hk0 hb0
                    have hz : (if mx'.isSome then 0 else 0) = 0 := by simp
                    rw [hz] at h1 hcc
                    refine ⟨.slice (some ad) 0 0, ?_, .sl0 _ _ _ c o' _ hl hcc⟩
                    simp only [Instr.sliceAt, Sem.run_bind, run_underlying hu, Result.andThen_ok, Instr.slice, h1, run_csz hs, if_true, Nat.sub_self, Sem.run_pure]
                · cases h
          · cases h
      · cases h
    · rename_i n elem l o
      split at h
      · rename_i s hs
        unfold sliceArr at h
        split at h
        · rename_i m hm hcl
          split at h
          · cases h
          · rename_i b hb
            split at h
            · cases h
            · rename_i k hk
              injection h with h; subst h
              cases k0 with | ptr _ _ c o' hl =>
              obtain ⟨h1, h2, h3, h4, h5, h6⟩ := bounds_sound (P := P) (isSlice := false) (len := n) k1 k2 k3 hm hb hk (Nat.le_refl _) w
              have hm' : (if mx'.isSome then m else n) = m := by
                cases mx' with
                | none => simp [h5 rfl]
                | some _ => simp
              rw [hm'] at h1
              have hcap : ∀ off q, CapL β l off q q := fun off q => by
                cases l with
                | im _ => rfl
                | mt b' =>
                  simp only [closed] at hcl
                  split at hcl
                  · rename_i cells el' op fam hat
                    cases hl with | mt _ p hb' =>
                    obtain ⟨_, hcl', _, _⟩ := R.row hb' hat
                    exact ⟨p, hb', fun h => by rw [hcl' (by simpa using hcl)]; exact h, fun _ => rfl⟩
                  · cases hcl
              by_cases hz : m = k
              · have hbk : b = k := by omega
                subst hz; subst hbk
                refine ⟨.slice (some ⟨c, o' + o, none⟩) 0 0, ?_, ?_⟩
                · simp only [Instr.sliceAt, Instr.sureAddr, Sem.run_bind, run_underlying hu, Result.andThen_ok, h1, run_csz hs, if_true, Nat.sub_self, Sem.run_pure]
                · rw [Nat.sub_self]; exact .sl0 _ _ _ c o' _ hl (hcap _ _)
              · refine ⟨.slice (some ⟨c, o' + (o + k * (s + 1)), none⟩) (b - k) (m - k), ?_, .sl _ _ _ _ _ c o' hl (hcap _ _)⟩
                simp only [Instr.sliceAt, Instr.sureAddr, Sem.run_bind, run_underlying hu, Result.andThen_ok, h1, run_csz hs, if_neg hz, Sem.run_pure, add_plain', Nat.add_assoc]
        · cases h
      · cases h
    · cases h
  · cases h

/-! ### conversions -/
theorem bytesOf_sound : ∀ {cs : List AV} {l : List UInt8} {vs : List Value}, bytesOf cs = some l → VRs β M cs vs →
    ∃ ns : List Int, vs = ns.map (fun n => .int .u8 n) ∧ l = ns.map (fun n => UInt8.ofNat n.toNat)
  | [], l, vs, h, hv => by simp only [bytesOf, Option.some.injEq] at h; subst h; cases hv; exact ⟨[], rfl, rfl⟩
  | x :: r, l, vs, h, hv => by
    cases hv with | cons _ y _ s h1 h2 =>
    unfold bytesOf at h
    split at h
    · cases ‹_ :: _ = []›
    · rename_i n r' heq
      injection heq with e1 e2
      subst e1; subst e2
      split at h
      · rename_i l' hl
        injection h with h; subst h
        obtain ⟨ns, rfl, rfl⟩ := bytesOf_sound hl h2
        cases h1
        exact ⟨n :: ns, rfl, rfl⟩
      · cases h
    · cases h
theorem run_bytesToString {c o : Nat} {ns : List Int} (cap : Nat) (h : ∀ j v, (ns.map fun n => Value.int .u8 n)[j]? = some v → w.cell? ⟨c, o + j, none⟩ = some v) :
    (Conv.bytesToString (.slice (some ⟨c, o, none⟩) ns.length cap)).run P w = .ok (.string ⟨(ns.map fun n => UInt8.ofNat n.toNat).toArray⟩) w := by
  have h1 := run_cells (P := P) (w := w) c o _ h
  rw [List.length_map] at h1
  simp only [Conv.bytesToString, Sem.run_bind, h1, Result.andThen_ok]
  have key : ∀ (f : Value → ByteArray → Sem (ForInStep ByteArray)), (∀ n r, f (.int .u8 n) r = pure (.yield (r.push (UInt8.ofNat n.toNat)))) →
      ∀ (l : List Int) (s : ByteArray), (forIn (l.map fun n => Value.int .u8 n) s f).run P w = .ok ⟨s.data ++ (l.map fun n => UInt8.ofNat n.toNat).toArray⟩ w := by
    intro f hf l
    induction l with
    | nil => intro s; simp
    | cons n l ih =>
      intro s
      simp only [List.map_cons, List.forIn_cons, hf, Sem.run_bind, Sem.run_pure, Result.andThen_ok]
      rw [ih]
      simp [ByteArray.push]
  rw [← Array.forIn_toList]
  rw [key _ (fun n r => rfl) ns ByteArray.empty]
  simp
theorem convert_sound (R : Rel P w0 β H w) {s d : TypeId} {x : Operand} {v : AV} (E : ERel β (memOf w0) nt e a) (h : doConvert P e H s d x = some v) : Gives P w β (memOf w0) (convert s d (a.eval x)) v := by
  unfold doConvert at h
  split at h
  · rename_i j k j' n hs hd hx
    injection h with h; subst h
    have k0 := ev_sound E hx
    generalize a.eval x = vx at *
    cases k0
    rw [wrapA_eq]
    exact ⟨_, by simp [convert, run_underlying hs, run_underlying hd, Conv.intToInt], .int _ _⟩
  · rename_i str hs hd hx
    injection h with h; subst h
    have k0 := ev_sound E hx
    generalize a.eval x = vx at *
    generalize hq : AV.str str = q at k0 ⊢
    cases k0 <;> cases hq
    exact ⟨_, by simp only [convert, Sem.run_bind, run_underlying hs, run_underlying hd, Result.andThen_ok, Sem.run_pure], .str _⟩
  · rename_i el y hs hd hx
    have k0 := ev_sound E hx
    generalize a.eval x = vx at *
    unfold bytesStr at h
    split at h
    · rename_i hu hz
      injection h with h; subst h
      cases k0
      exact ⟨.string .empty, by simp only [convert, Sem.run_bind, run_underlying hs, run_underlying hd, run_underlying hu, Result.andThen_ok, Conv.bytesToString, Sem.run_pure], .str .empty⟩
    · rename_i l o len cap hu hz
      split at h
      · rename_i cs hr
        obtain ⟨r, hb, rfl⟩ := Option.map_eq_some_iff.1 h
        have fin : ∀ ns : List Int, VR β (memOf w0) (.str (ns.map fun n => UInt8.ofNat n.toNat)) (.string ⟨(ns.map fun n => UInt8.ofNat n.toNat).toArray⟩) := fun ns => by
          have := VR.str (β := β) (M := memOf w0) ⟨(ns.map fun n => UInt8.ofNat n.toNat).toArray⟩
          simpa using this
        cases k0 with
        | sl _ _ _ _ cap' c o' hl hc =>
          obtain ⟨hlen, vs, hv, hcell⟩ := read_sound R hl hr
          obtain ⟨ns, rfl, rfl⟩ := bytesOf_sound hb hv
          have hn : ns.length = len := by have := hv.length; simp at this; omega
          have := run_bytesToString (P := P) cap' hcell
          rw [hn] at this
          exact ⟨_, by simp only [convert, Sem.run_bind, run_underlying hs, run_underlying hd, run_underlying hu, Result.andThen_ok]; exact this, fin ns⟩
        | sl0 _ _ _ c o' ad hl hc =>
          obtain ⟨hlen, vs, hv, hcell⟩ := read_sound R hl hr
          have : cs = [] := List.eq_nil_of_length_eq_zero hlen
          subst this
          simp only [bytesOf, Option.some.injEq] at hb
          subst hb
          refine ⟨.string .empty, ?_, .str .empty⟩
          simp only [convert, Sem.run_bind, run_underlying hs, run_underlying hd, run_underlying hu, Result.andThen_ok, Conv.bytesToString, loadCells, loadCellsFrom, Sem.run_pure]
          simp
      · cases h
    · cases h
  · cases h
end
end Go.VI
