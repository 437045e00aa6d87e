-- written for this claim over a table of functions with stand-ins
import Derived.Test.YtapagakfckjhdaaPKindsSamex0
import Derived.Test.YtapagakfckjhdaaPKindsSamex1
import Derived.Test.YtapagakfckjhdaaPKindsSamex2
import Derived.Test.YtapagakfckjhdaaPKindsSamex3
import Derived.Test.YtapagakfckjhdaaPKindsSamex5
namespace Go.Proofs.Ytapagakfckjhdaa.PKindsSame
open Go.RowKit Go.Proofs.YtapagakfckjhdaaW.PrintWords Go.Proofs.YtapagakfckjhdaaW.PrintLast Go.Proofs.YtapagakfckjhdaaW.PrintMore
attribute [local go_sem] max2_int min2_int max_two min_two max_three min_three max_four min_four   -- for this text's walks alone
set_option linter.unusedVariables false
set_option linter.unusedSimpArgs false

/-! ### squintlaw04_KindsSame: function 5 -/
mutual
def squintlaw04_KindsSame.j0 : Nat → List (S43) → Int → Int → Bool → Option (Bool)
  | 0, _, _, _, _ => none
  | k + 1, x0, x1, x2, x22 => if x22 = true then (some true) else ((squintlaw04_shown.f).bind fun t208 => ((squintlaw04_ownRows.f k x0).bind fun t209 => ((kinds_Same.f k t209 x1 x2).bind fun t212 => ((kinds_Same.f k t209 x2 x1).bind fun t213 => ((squintlaw04_rows.f k t209 x0).bind fun t214 => ((squintref04_Same.f k x0 x1 x2).bind fun t215 => (if t208 = true then (if t214 = true then (if (t212 != t215) = true then (squintlaw04_KindsSame.j1 k x1 x2 t209 true) else (squintlaw04_KindsSame.j1 k x1 x2 t209 (t213 != t215))) else (squintlaw04_KindsSame.j1 k x1 x2 t209 true)) else (squintlaw04_KindsSame.j1 k x1 x2 t209 true))))))))
def squintlaw04_KindsSame.j1 : Nat → Int → Int → List (S43) → Bool → Option (Bool)
  | 0, _, _, _, _ => none
  | k + 1, x1, x2, x8, x56 => if x56 = true then (some false) else (squintlaw04_KindsSame.l0 k x1 x2 x8 0)
def squintlaw04_KindsSame.l0 : Nat → Int → Int → List (S43) → Int → Option (Bool)
  | 0, _, _, _, _ => none
  | k + 1, x1, x2, x8, x13 => if x13 < (x8.length : Int) then (if 0 ≤ x13 then (if ((rd_T43 x8 x13).f0) = 3 then (squintlaw04_KindsSame.l0 k x1 x2 (x8.set (x13 : Int).toNat (⟨5, (rd_T43 x8 x13).f1, (rd_T43 x8 x13).f2⟩ : S43)) (wrap64 (x13 + 1))) else (if ((rd_T43 x8 x13).f0) = 2 then (squintlaw04_KindsSame.l0 k x1 x2 (x8.set (x13 : Int).toNat (⟨1, (rd_T43 x8 x13).f1, (rd_T43 x8 x13).f2⟩ : S43)) (wrap64 (x13 + 1))) else (squintlaw04_KindsSame.l0 k x1 x2 x8 (wrap64 (x13 + 1))))) else (none)) else ((squintlaw04_ownRows.f k x8).bind fun t216 => ((kinds_Same.f k x8 x1 x2).bind fun t219 => ((squintref04_Same.f k t216 x1 x2).bind fun t220 => (some (t219 == t220)))))
end
def squintlaw04_KindsSame.f (k : Nat) (l0 : List (S43)) (a1 : Int) (a2 : Int) : Option (Bool) := (squintlaw04_ofRows.f k l0).bind fun t204 => ((squintlaw04_beyond.f k t204).bind fun t207 => (if t207 = true then (squintlaw04_KindsSame.j0 k l0 a1 a2 true) else (squintlaw04_KindsSame.j0 k l0 a1 a2 (decide ((l0.length : Int) > 2000)))))
theorem squintlaw04_KindsSame.mono_l : ∀ k, (∀ y0 y1 y2 y3, LeO (squintlaw04_KindsSame.j0 k y0 y1 y2 y3) (squintlaw04_KindsSame.j0 (k + 1) y0 y1 y2 y3)) ∧ (∀ y0 y1 y2 y3, LeO (squintlaw04_KindsSame.j1 k y0 y1 y2 y3) (squintlaw04_KindsSame.j1 (k + 1) y0 y1 y2 y3)) ∧ (∀ y0 y1 y2 y3, LeO (squintlaw04_KindsSame.l0 k y0 y1 y2 y3) (squintlaw04_KindsSame.l0 (k + 1) y0 y1 y2 y3))
  | 0 => ⟨fun _ _ _ _ r h => by simp [squintlaw04_KindsSame.j0] at h, fun _ _ _ _ r h => by simp [squintlaw04_KindsSame.j1] at h, fun _ _ _ _ r h => by simp [squintlaw04_KindsSame.l0] at h⟩
  | k + 1 => by
    obtain ⟨ih0, ih1, ih2⟩ := squintlaw04_KindsSame.mono_l k
    refine ⟨?_, ?_, ?_⟩
    · intro y0 y1 y2 y3
      unfold squintlaw04_KindsSame.j0
      repeat' first
      | (with_reducible exact ih0 _ _ _ _)
      | (with_reducible exact ih1 _ _ _ _)
      | (with_reducible exact ih2 _ _ _ _)
      | (with_reducible exact kinds_Same.mono _ _ _ _)
      | (with_reducible exact squintlaw04_beyond.mono _ _)
      | (with_reducible exact squintlaw04_ofRows.mono _ _)
      | (with_reducible exact squintlaw04_ownRows.mono _ _)
      | (with_reducible exact squintlaw04_rows.mono _ _ _)
      | (with_reducible exact squintref04_Same.mono _ _ _ _)
      | (with_reducible exact LeO.refl _)
      | (with_reducible exact LeO.none _)
      | (with_reducible refine LeO.ite ?_ ?_)
      | (with_reducible refine LeO.bind ?_ (fun _ => ?_))
      | exact ih0 _ _ _ _
      | exact ih1 _ _ _ _
      | exact ih2 _ _ _ _
      | exact kinds_Same.mono _ _ _ _
      | exact squintlaw04_beyond.mono _ _
      | exact squintlaw04_ofRows.mono _ _
      | exact squintlaw04_ownRows.mono _ _
      | exact squintlaw04_rows.mono _ _ _
      | exact squintref04_Same.mono _ _ _ _
      | exact LeO.none _
      | refine LeO.ite ?_ ?_
      | refine LeO.bind ?_ (fun _ => ?_)
    · intro y0 y1 y2 y3
      unfold squintlaw04_KindsSame.j1
      repeat' first
      | (with_reducible exact ih0 _ _ _ _)
      | (with_reducible exact ih1 _ _ _ _)
      | (with_reducible exact ih2 _ _ _ _)
      | (with_reducible exact kinds_Same.mono _ _ _ _)
      | (with_reducible exact squintlaw04_beyond.mono _ _)
      | (with_reducible exact squintlaw04_ofRows.mono _ _)
      | (with_reducible exact squintlaw04_ownRows.mono _ _)
      | (with_reducible exact squintlaw04_rows.mono _ _ _)
      | (with_reducible exact squintref04_Same.mono _ _ _ _)
      | (with_reducible exact LeO.refl _)
      | (with_reducible exact LeO.none _)
      | (with_reducible refine LeO.ite ?_ ?_)
      | (with_reducible refine LeO.bind ?_ (fun _ => ?_))
      | exact ih0 _ _ _ _
      | exact ih1 _ _ _ _
      | exact ih2 _ _ _ _
      | exact kinds_Same.mono _ _ _ _
      | exact squintlaw04_beyond.mono _ _
      | exact squintlaw04_ofRows.mono _ _
      | exact squintlaw04_ownRows.mono _ _
      | exact squintlaw04_rows.mono _ _ _
      | exact squintref04_Same.mono _ _ _ _
      | exact LeO.none _
      | refine LeO.ite ?_ ?_
      | refine LeO.bind ?_ (fun _ => ?_)
    · intro y0 y1 y2 y3
      unfold squintlaw04_KindsSame.l0
      repeat' first
      | (with_reducible exact ih0 _ _ _ _)
      | (with_reducible exact ih1 _ _ _ _)
      | (with_reducible exact ih2 _ _ _ _)
      | (with_reducible exact kinds_Same.mono _ _ _ _)
      | (with_reducible exact squintlaw04_beyond.mono _ _)
      | (with_reducible exact squintlaw04_ofRows.mono _ _)
      | (with_reducible exact squintlaw04_ownRows.mono _ _)
      | (with_reducible exact squintlaw04_rows.mono _ _ _)
      | (with_reducible exact squintref04_Same.mono _ _ _ _)
      | (with_reducible exact LeO.refl _)
      | (with_reducible exact LeO.none _)
      | (with_reducible refine LeO.ite ?_ ?_)
      | (with_reducible refine LeO.bind ?_ (fun _ => ?_))
      | exact ih0 _ _ _ _
      | exact ih1 _ _ _ _
      | exact ih2 _ _ _ _
      | exact kinds_Same.mono _ _ _ _
      | exact squintlaw04_beyond.mono _ _
      | exact squintlaw04_ofRows.mono _ _
      | exact squintlaw04_ownRows.mono _ _
      | exact squintlaw04_rows.mono _ _ _
      | exact squintref04_Same.mono _ _ _ _
      | exact LeO.none _
      | refine LeO.ite ?_ ?_
      | refine LeO.bind ?_ (fun _ => ?_)
theorem squintlaw04_KindsSame.mono : ∀ a0 a1 a2 k, LeO (squintlaw04_KindsSame.f k a0 a1 a2) (squintlaw04_KindsSame.f (k + 1) a0 a1 a2) := by
  intro a0 a1 a2 k
  obtain ⟨ih0, ih1, ih2⟩ := squintlaw04_KindsSame.mono_l k
  unfold squintlaw04_KindsSame.f
  repeat' first
      | (with_reducible exact ih0 _ _ _ _)
      | (with_reducible exact ih1 _ _ _ _)
      | (with_reducible exact ih2 _ _ _ _)
      | (with_reducible exact kinds_Same.mono _ _ _ _)
      | (with_reducible exact squintlaw04_beyond.mono _ _)
      | (with_reducible exact squintlaw04_ofRows.mono _ _)
      | (with_reducible exact squintlaw04_ownRows.mono _ _)
      | (with_reducible exact squintlaw04_rows.mono _ _ _)
      | (with_reducible exact squintref04_Same.mono _ _ _ _)
      | (with_reducible exact LeO.refl _)
      | (with_reducible exact LeO.none _)
      | (with_reducible refine LeO.ite ?_ ?_)
      | (with_reducible refine LeO.bind ?_ (fun _ => ?_))
      | exact ih0 _ _ _ _
      | exact ih1 _ _ _ _
      | exact ih2 _ _ _ _
      | exact kinds_Same.mono _ _ _ _
      | exact squintlaw04_beyond.mono _ _
      | exact squintlaw04_ofRows.mono _ _
      | exact squintlaw04_ownRows.mono _ _
      | exact squintlaw04_rows.mono _ _ _
      | exact squintref04_Same.mono _ _ _ _
      | exact LeO.none _
      | refine LeO.ite ?_ ?_
      | refine LeO.bind ?_ (fun _ => ?_)
set_option maxHeartbeats 8000000 in
set_option maxRecDepth 100000 in
theorem squintlaw04_KindsSame.calls (k : Nat) (A0 : Option Addr) (c0 : Nat) (l0 : List (S43)) (a1 : Int) (a2 : Int) (r : Bool) (w : World) (hr0 : Kd.C k43 w A0 l0.length l0) (hc0 : l0.length ≤ c0) (h : squintlaw04_KindsSame.f k l0 a1 a2 = some r) :
    Calls Try.prog 5 #[.slice A0 l0.length c0, .int .i64 a1, .int .i64 a2] w fun e w' => e = .returned (.bool r) ∧ Below w.heap.size w w' := by
  have HR0 := Aside0.mk hr0
  have HC0 := Aside0.mk hc0
  clear hr0 hc0
  have HB := Aside0.mk (Below.refl w.heap.size w)
  have H : ((squintlaw04_ofRows.f k l0).bind fun t204 => ((squintlaw04_beyond.f k t204).bind fun t207 => (if t207 = true then (squintlaw04_KindsSame.j0 k l0 a1 a2 true) else (squintlaw04_KindsSame.j0 k l0 a1 a2 (decide ((l0.length : Int) > 2000)))))) = some r := h
  clear h
  have HC4 := Aside0.mk H
  clear H
  go_enter Try.func5, Try.ntmps5
  go_upto_region 1 with (fail)
  go_cut [22] (fun v22 wc => ∃ (kq : Nat) (x22_3 : Bool), v22 = .bool x22_3 ∧ Aside0 (squintlaw04_KindsSame.j0 kq l0 a1 a2 x22_3 = some r) ∧ Aside0 (kq ≤ k) ∧ Aside0 (Below w.heap.size w wc))
  case first =>
    have H := HC4.out
    clear HC4
    replace H := Option.bind_eq_some_iff.mp H
    obtain ⟨t204, A50, H⟩ := H
    replace H : ((squintlaw04_beyond.f k t204).bind fun t207 => (if t207 = true then (squintlaw04_KindsSame.j0 k l0 a1 a2 true) else (squintlaw04_KindsSame.j0 k l0 a1 a2 (decide ((l0.length : Int) > 2000))))) = some r := H
    have A5 := Aside0.mk A50
    clear A50
    replace H := Option.bind_eq_some_iff.mp H
    obtain ⟨t207, A60, H⟩ := H
    replace H : (if t207 = true then (squintlaw04_KindsSame.j0 k l0 a1 a2 true) else (squintlaw04_KindsSame.j0 k l0 a1 a2 (decide ((l0.length : Int) > 2000)))) = some r := H
    have A6 := Aside0.mk A60
    clear A60
    by_cases c7 : t207 = true
    · subst c7
      have H1 : (squintlaw04_KindsSame.j0 k l0 a1 a2 true) = some r := by rw [if_pos rfl] at H; exact H
      clear H
      have H := H1
      clear H1
      have H' := Aside0.mk H
      clear H
      go_wp2_with (first | ((with_reducible refine gate_callee (f := 17) rfl ?_); refine goesL_ (some 16) rfl rfl Try.func17 (by kernel_rfl) rfl #[.slice A0 l0.length c0] rfl (by (try simp only [List.map_toArray, List.map_cons, List.map_nil]); first | done | rfl | (simp only [List.length_drop, List.length_take]; rfl)) ?_; (with_reducible refine (squintlaw04_ofRows.calls k _ _ l0 t204 _ ?side1 ?side2 A5.out).mono ?_); (case side1 => repeat (first | exact (Kd.C_below HR0.out HB.out) | (with_reducible refine Kd.C_alloc ?_ _) | (with_reducible refine Kd.C_drewN ?_ _) | (with_reducible refine Kd.C_drew ?_))); (case side2 => exact HC0.out); rintro e w8 ⟨v205, rfl, ho0, hb⟩; refine ⟨_, rfl, ?_⟩; have n0_ := Aside0.mk (Kd.R_lower ho0 (below_size (by repeat (first | (with_reducible first | exact HB.out | apply below_alloc | apply pw_below_drewN | apply below_drew1) | exact HB.out)))); have n1_ := Aside0.mk (below_step (by repeat (first | (with_reducible first | exact HB.out | apply below_alloc | apply pw_below_drewN | apply below_drew1) | exact HB.out)) hb); clear HB; have HO206 := n0_; have HB := n1_; clear n0_ n1_; (try clear hb); (try clear hb2); (try clear hk); (try clear hi); (try clear ho0); obtain ⟨Ao9, co9, eo9⟩ := Kd.R_slice HO206.out; subst eo9) | ((with_reducible refine gate_callee (f := 9) rfl ?_); refine goesL_ (some 17) rfl rfl Try.func9 (by kernel_rfl) rfl #[.slice Ao9 t204.length co9] rfl (by (try simp only [List.map_toArray, List.map_cons, List.map_nil]); first | done | rfl | (simp only [List.length_drop, List.length_take]; rfl)) ?_; (with_reducible refine (squintlaw04_beyond.calls k _ _ t204 true _ ?side1 ?side2 A6.out).mono ?_); (case side1 => repeat (first | exact (Kd.R_reads' HO206.out).2.2 | (with_reducible refine Kd.C_alloc ?_ _) | (with_reducible refine Kd.C_drewN ?_ _) | (with_reducible refine Kd.C_drew ?_))); (case side2 => exact (Kd.R_reads' HO206.out).2.1); rintro e w' ⟨rfl, ⟨nd, rfl⟩⟩; refine ⟨_, rfl, ?_⟩))
      go_meet
      case rel => exact ⟨_, (true), (by first | rfl | (simp; done) | (simp [*]; done)), H', ⟨by first | omega | exact Nat.le_refl _⟩, ⟨by repeat (first | (with_reducible first | exact HB.out | apply below_alloc | apply pw_below_drewN | apply below_drew1) | exact HB.out)⟩⟩
    · replace c7 := Bool.eq_false_iff.mpr c7
      subst c7
      have H1 : (squintlaw04_KindsSame.j0 k l0 a1 a2 (decide ((l0.length : Int) > 2000))) = some r := by rw [if_neg (show ¬ (false = true) by decide)] at H; exact H
      clear H
      have H := H1
      clear H1
      have H' := Aside0.mk H
      clear H
      go_wp2_with (first | ((with_reducible refine gate_callee (f := 17) rfl ?_); refine goesL_ (some 16) rfl rfl Try.func17 (by kernel_rfl) rfl #[.slice A0 l0.length c0] rfl (by (try simp only [List.map_toArray, List.map_cons, List.map_nil]); first | done | rfl | (simp only [List.length_drop, List.length_take]; rfl)) ?_; (with_reducible refine (squintlaw04_ofRows.calls k _ _ l0 t204 _ ?side1 ?side2 A5.out).mono ?_); (case side1 => repeat (first | exact (Kd.C_below HR0.out HB.out) | (with_reducible refine Kd.C_alloc ?_ _) | (with_reducible refine Kd.C_drewN ?_ _) | (with_reducible refine Kd.C_drew ?_))); (case side2 => exact HC0.out); rintro e w10 ⟨v205, rfl, ho0, hb⟩; refine ⟨_, rfl, ?_⟩; have n0_ := Aside0.mk (Kd.R_lower ho0 (below_size (by repeat (first | (with_reducible first | exact HB.out | apply below_alloc | apply pw_below_drewN | apply below_drew1) | exact HB.out)))); have n1_ := Aside0.mk (below_step (by repeat (first | (with_reducible first | exact HB.out | apply below_alloc | apply pw_below_drewN | apply below_drew1) | exact HB.out)) hb); clear HB; have HO206 := n0_; have HB := n1_; clear n0_ n1_; (try clear hb); (try clear hb2); (try clear hk); (try clear hi); (try clear ho0); obtain ⟨Ao11, co11, eo11⟩ := Kd.R_slice HO206.out; subst eo11) | ((with_reducible refine gate_callee (f := 9) rfl ?_); refine goesL_ (some 17) rfl rfl Try.func9 (by kernel_rfl) rfl #[.slice Ao11 t204.length co11] rfl (by (try simp only [List.map_toArray, List.map_cons, List.map_nil]); first | done | rfl | (simp only [List.length_drop, List.length_take]; rfl)) ?_; (with_reducible refine (squintlaw04_beyond.calls k _ _ t204 false _ ?side1 ?side2 A6.out).mono ?_); (case side1 => repeat (first | exact (Kd.R_reads' HO206.out).2.2 | (with_reducible refine Kd.C_alloc ?_ _) | (with_reducible refine Kd.C_drewN ?_ _) | (with_reducible refine Kd.C_drew ?_))); (case side2 => exact (Kd.R_reads' HO206.out).2.1); rintro e w' ⟨rfl, ⟨nd, rfl⟩⟩; refine ⟨_, rfl, ?_⟩))
      go_meet
      case rel => exact ⟨_, (decide ((l0.length : Int) > 2000)), (by first | rfl | (simp; done) | (simp [*]; done)), H', ⟨by first | omega | exact Nat.le_refl _⟩, ⟨by repeat (first | (with_reducible first | exact HB.out | apply below_alloc | apply pw_below_drewN | apply below_drew1) | exact HB.out)⟩⟩
  case rest =>
    clear HC4
    try clear c1
    try clear p2
    try clear c5
    try clear c7
    try clear c9
    obtain ⟨kq, x22_3, rfl, HA, HJ3, HB⟩ := hcut
    cases kq with
    | zero => exact absurd HA.out (by simp [squintlaw04_KindsSame.j0])
    | succ kj3 =>
      have H := HA.out
      clear HA
      simp only [squintlaw04_KindsSame.j0] at H
      by_cases c12 : x22_3 = true
      · subst c12
        have H1 : (some true) = some r := by rw [if_pos rfl] at H; exact H
        clear H
        have H := H1
        clear H1
        obtain rfl := Option.some.inj H
        go_wp2
        go_ret
        exact ⟨by first | rfl | (simp [errW_none, errW_some] <;> rfl) | (simp [*, errW_none, errW_some] <;> rfl), by repeat (first | (with_reducible first | exact HB.out | apply below_alloc | apply pw_below_drewN | apply below_drew1) | exact HB.out)⟩
      · replace c12 := Bool.eq_false_iff.mpr c12
        subst c12
        have H1 : ((squintlaw04_shown.f).bind fun t208 => ((squintlaw04_ownRows.f kj3 l0).bind fun t209 => ((kinds_Same.f kj3 t209 a1 a2).bind fun t212 => ((kinds_Same.f kj3 t209 a2 a1).bind fun t213 => ((squintlaw04_rows.f kj3 t209 l0).bind fun t214 => ((squintref04_Same.f kj3 l0 a1 a2).bind fun t215 => (if t208 = true then (if t214 = true then (if (t212 != t215) = true then (squintlaw04_KindsSame.j1 kj3 a1 a2 t209 true) else (squintlaw04_KindsSame.j1 kj3 a1 a2 t209 (t213 != t215))) else (squintlaw04_KindsSame.j1 kj3 a1 a2 t209 true)) else (squintlaw04_KindsSame.j1 kj3 a1 a2 t209 true)))))))) = some r := by rw [if_neg (show ¬ (false = true) by decide)] at H; exact H
        clear H
        have H := H1
        clear H1
        replace H := Option.bind_eq_some_iff.mp H
        obtain ⟨t208, A130, H⟩ := H
        replace H : ((squintlaw04_ownRows.f kj3 l0).bind fun t209 => ((kinds_Same.f kj3 t209 a1 a2).bind fun t212 => ((kinds_Same.f kj3 t209 a2 a1).bind fun t213 => ((squintlaw04_rows.f kj3 t209 l0).bind fun t214 => ((squintref04_Same.f kj3 l0 a1 a2).bind fun t215 => (if t208 = true then (if t214 = true then (if (t212 != t215) = true then (squintlaw04_KindsSame.j1 kj3 a1 a2 t209 true) else (squintlaw04_KindsSame.j1 kj3 a1 a2 t209 (t213 != t215))) else (squintlaw04_KindsSame.j1 kj3 a1 a2 t209 true)) else (squintlaw04_KindsSame.j1 kj3 a1 a2 t209 true))))))) = some r := H
        have A13 := Aside0.mk A130
        clear A130
        replace H := Option.bind_eq_some_iff.mp H
        obtain ⟨t209, A140, H⟩ := H
        replace H : ((kinds_Same.f kj3 t209 a1 a2).bind fun t212 => ((kinds_Same.f kj3 t209 a2 a1).bind fun t213 => ((squintlaw04_rows.f kj3 t209 l0).bind fun t214 => ((squintref04_Same.f kj3 l0 a1 a2).bind fun t215 => (if t208 = true then (if t214 = true then (if (t212 != t215) = true then (squintlaw04_KindsSame.j1 kj3 a1 a2 t209 true) else (squintlaw04_KindsSame.j1 kj3 a1 a2 t209 (t213 != t215))) else (squintlaw04_KindsSame.j1 kj3 a1 a2 t209 true)) else (squintlaw04_KindsSame.j1 kj3 a1 a2 t209 true)))))) = some r := H
        have A14 := Aside0.mk A140
        clear A140
        replace H := Option.bind_eq_some_iff.mp H
        obtain ⟨t212, A150, H⟩ := H
        replace H : ((kinds_Same.f kj3 t209 a2 a1).bind fun t213 => ((squintlaw04_rows.f kj3 t209 l0).bind fun t214 => ((squintref04_Same.f kj3 l0 a1 a2).bind fun t215 => (if t208 = true then (if t214 = true then (if (t212 != t215) = true then (squintlaw04_KindsSame.j1 kj3 a1 a2 t209 true) else (squintlaw04_KindsSame.j1 kj3 a1 a2 t209 (t213 != t215))) else (squintlaw04_KindsSame.j1 kj3 a1 a2 t209 true)) else (squintlaw04_KindsSame.j1 kj3 a1 a2 t209 true))))) = some r := H
        have A15 := Aside0.mk A150
        clear A150
        replace H := Option.bind_eq_some_iff.mp H
        obtain ⟨t213, A160, H⟩ := H
        replace H : ((squintlaw04_rows.f kj3 t209 l0).bind fun t214 => ((squintref04_Same.f kj3 l0 a1 a2).bind fun t215 => (if t208 = true then (if t214 = true then (if (t212 != t215) = true then (squintlaw04_KindsSame.j1 kj3 a1 a2 t209 true) else (squintlaw04_KindsSame.j1 kj3 a1 a2 t209 (t213 != t215))) else (squintlaw04_KindsSame.j1 kj3 a1 a2 t209 true)) else (squintlaw04_KindsSame.j1 kj3 a1 a2 t209 true)))) = some r := H
        have A16 := Aside0.mk A160
        clear A160
        replace H := Option.bind_eq_some_iff.mp H
        obtain ⟨t214, A170, H⟩ := H
        replace H : ((squintref04_Same.f kj3 l0 a1 a2).bind fun t215 => (if t208 = true then (if t214 = true then (if (t212 != t215) = true then (squintlaw04_KindsSame.j1 kj3 a1 a2 t209 true) else (squintlaw04_KindsSame.j1 kj3 a1 a2 t209 (t213 != t215))) else (squintlaw04_KindsSame.j1 kj3 a1 a2 t209 true)) else (squintlaw04_KindsSame.j1 kj3 a1 a2 t209 true))) = some r := H
        have A17 := Aside0.mk A170
        clear A170
        replace H := Option.bind_eq_some_iff.mp H
        obtain ⟨t215, A180, H⟩ := H
        replace H : (if t208 = true then (if t214 = true then (if (t212 != t215) = true then (squintlaw04_KindsSame.j1 kj3 a1 a2 t209 true) else (squintlaw04_KindsSame.j1 kj3 a1 a2 t209 (t213 != t215))) else (squintlaw04_KindsSame.j1 kj3 a1 a2 t209 true)) else (squintlaw04_KindsSame.j1 kj3 a1 a2 t209 true)) = some r := H
        have A18 := Aside0.mk A180
        clear A180
        have HC19 := Aside0.mk H
        clear H
        go_upto_region 9 with (first | ((with_reducible refine gate_callee (f := 11) rfl ?_); refine goesL_ (some 23) rfl rfl Try.func11 (by kernel_rfl) rfl #[] rfl (by (try simp only [List.map_toArray, List.map_cons, List.map_nil]); first | done | rfl | (simp only [List.length_drop, List.length_take]; rfl)) ?_; (with_reducible refine (squintlaw04_shown.calls  t208 _ A13.out).mono ?_); rintro e w20 ⟨rfl, hb⟩; refine ⟨_, rfl, ?_⟩; have n0_ := Aside0.mk (below_step (by repeat (first | (with_reducible first | exact HB.out | apply below_alloc | apply pw_below_drewN | apply below_drew1) | exact HB.out)) hb); clear HB; have HB := n0_; clear n0_; (try clear hb); (try clear hb2); (try clear hk); (try clear hi)) | ((with_reducible refine gate_callee (f := 18) rfl ?_); refine goesL_ (some 25) rfl rfl Try.func18 (by kernel_rfl) rfl #[.slice A0 l0.length c0] rfl (by (try simp only [List.map_toArray, List.map_cons, List.map_nil]); first | done | rfl | (simp only [List.length_drop, List.length_take]; rfl)) ?_; (with_reducible refine (squintlaw04_ownRows.calls kj3 _ _ l0 t209 _ ?side1 ?side2 A14.out).mono ?_); (case side1 => repeat (first | exact (Kd.C_below HR0.out HB.out) | (with_reducible refine Kd.C_alloc ?_ _) | (with_reducible refine Kd.C_drewN ?_ _) | (with_reducible refine Kd.C_drew ?_))); (case side2 => exact HC0.out); rintro e w21 ⟨v210, rfl, ho0, hb⟩; refine ⟨_, rfl, ?_⟩; have n0_ := Aside0.mk (Kd.S_lower ho0 (below_size (by repeat (first | (with_reducible first | exact HB.out | apply below_alloc | apply pw_below_drewN | apply below_drew1) | exact HB.out)))); have n1_ := Aside0.mk (below_step (by repeat (first | (with_reducible first | exact HB.out | apply below_alloc | apply pw_below_drewN | apply below_drew1) | exact HB.out)) hb); clear HB; have HO211 := n0_; have HB := n1_; clear n0_ n1_; (try clear hb); (try clear hb2); (try clear hk); (try clear hi); (try clear ho0); obtain ⟨Ao22, co22, eo22⟩ := Kd.S_slice HO211.out; subst eo22) | ((with_reducible refine gate_callee (f := 22) rfl ?_); refine goesL_ (some 29) rfl rfl Try.func22 (by kernel_rfl) rfl #[.slice Ao22 t209.length co22, .int .i64 a1, .int .i64 a2] rfl (by (try simp only [List.map_toArray, List.map_cons, List.map_nil]); first | done | rfl | (simp only [List.length_drop, List.length_take]; rfl)) ?_; (with_reducible refine (kinds_Same.calls kj3 _ _ t209 a1 a2 t212 _ ?side1 ?side2 A15.out).mono ?_); (case side1 => repeat (first | exact (Kd.S_reads' HO211.out).2.2 | (with_reducible refine Kd.C_alloc ?_ _) | (with_reducible refine Kd.C_drewN ?_ _) | (with_reducible refine Kd.C_drew ?_))); (case side2 => exact (Kd.S_reads' HO211.out).2.1); rintro e w23 ⟨rfl, hb⟩; refine ⟨_, rfl, ?_⟩; have n0_ := Aside0.mk (Kd.S_below (by (with_reducible repeat (first | apply Kd.S_alloc | apply Kd.S_drewN | apply Kd.S_drew)); exact HO211.out) hb); have n1_ := Aside0.mk (below_step (by repeat (first | (with_reducible first | exact HB.out | apply below_alloc | apply pw_below_drewN | apply below_drew1) | exact HB.out)) hb); clear HO211; clear HB; have HO211 := n0_; have HB := n1_; clear n0_ n1_; (try clear hb); (try clear hb2); (try clear hk); (try clear hi)) | ((with_reducible refine gate_callee (f := 22) rfl ?_); refine goesL_ (some 33) rfl rfl Try.func22 (by kernel_rfl) rfl #[.slice Ao22 t209.length co22, .int .i64 a2, .int .i64 a1] rfl (by (try simp only [List.map_toArray, List.map_cons, List.map_nil]); first | done | rfl | (simp only [List.length_drop, List.length_take]; rfl)) ?_; (with_reducible refine (kinds_Same.calls kj3 _ _ t209 a2 a1 t213 _ ?side1 ?side2 A16.out).mono ?_); (case side1 => repeat (first | exact (Kd.S_reads' HO211.out).2.2 | (with_reducible refine Kd.C_alloc ?_ _) | (with_reducible refine Kd.C_drewN ?_ _) | (with_reducible refine Kd.C_drew ?_))); (case side2 => exact (Kd.S_reads' HO211.out).2.1); rintro e w24 ⟨rfl, hb⟩; refine ⟨_, rfl, ?_⟩; have n0_ := Aside0.mk (Kd.S_below (by (with_reducible repeat (first | apply Kd.S_alloc | apply Kd.S_drewN | apply Kd.S_drew)); exact HO211.out) hb); have n1_ := Aside0.mk (below_step (by repeat (first | (with_reducible first | exact HB.out | apply below_alloc | apply pw_below_drewN | apply below_drew1) | exact HB.out)) hb); clear HO211; clear HB; have HO211 := n0_; have HB := n1_; clear n0_ n1_; (try clear hb); (try clear hb2); (try clear hk); (try clear hi)) | ((with_reducible refine gate_callee (f := 20) rfl ?_); refine goesL_ (some 36) rfl rfl Try.func20 (by kernel_rfl) rfl #[.slice Ao22 t209.length co22, .slice A0 l0.length c0] rfl (by (try simp only [List.map_toArray, List.map_cons, List.map_nil]); first | done | rfl | (simp only [List.length_drop, List.length_take]; rfl)) ?_; (with_reducible refine (squintlaw04_rows.calls kj3 _ _ t209 _ _ l0 t214 _ ?side1 ?side2 ?side3 ?side4 A17.out).mono ?_); (case side1 => repeat (first | exact (Kd.S_reads' HO211.out).2.2 | (with_reducible refine Kd.C_alloc ?_ _) | (with_reducible refine Kd.C_drewN ?_ _) | (with_reducible refine Kd.C_drew ?_))); (case side2 => exact (Kd.S_reads' HO211.out).2.1); (case side3 => repeat (first | exact (Kd.C_below HR0.out HB.out) | (with_reducible refine Kd.C_alloc ?_ _) | (with_reducible refine Kd.C_drewN ?_ _) | (with_reducible refine Kd.C_drew ?_))); (case side4 => exact HC0.out); rintro e w' ⟨rfl, ⟨nd, rfl⟩⟩; refine ⟨_, rfl, ?_⟩) | ((with_reducible refine gate_callee (f := 23) rfl ?_); refine goesL_ (some 40) rfl rfl Try.func23 (by kernel_rfl) rfl #[.slice A0 l0.length c0, .int .i64 a1, .int .i64 a2] rfl (by (try simp only [List.map_toArray, List.map_cons, List.map_nil]); first | done | rfl | (simp only [List.length_drop, List.length_take]; rfl)) ?_; (with_reducible refine (squintref04_Same.calls kj3 _ _ l0 a1 a2 t215 _ ?side1 ?side2 A18.out).mono ?_); (case side1 => repeat (first | exact (Kd.C_below HR0.out (by repeat (first | (with_reducible first | exact HB.out | apply below_alloc | apply pw_below_drewN | apply below_drew1) | exact HB.out))) | (with_reducible refine Kd.C_alloc ?_ _) | (with_reducible refine Kd.C_drewN ?_ _) | (with_reducible refine Kd.C_drew ?_))); (case side2 => exact HC0.out); rintro e w25 ⟨rfl, hb⟩; refine ⟨_, rfl, ?_⟩; have n0_ := Aside0.mk (Kd.S_below (by (with_reducible repeat (first | apply Kd.S_alloc | apply Kd.S_drewN | apply Kd.S_drew)); exact HO211.out) hb); have n1_ := Aside0.mk (below_step (by repeat (first | (with_reducible first | exact HB.out | apply below_alloc | apply pw_below_drewN | apply below_drew1) | exact HB.out)) hb); clear HO211; clear HB; have HO211 := n0_; have HB := n1_; clear n0_ n1_; (try clear hb); (try clear hb2); (try clear hk); (try clear hi)))
        (try simp only [Act.put, List.setIfInBounds_toArray, List.set_cons_zero, List.set_cons_succ])
        go_cut [56] (fun v56 wc => ∃ (kq : Nat) (x56_18 : Bool), v56 = .bool x56_18 ∧ Aside0 (squintlaw04_KindsSame.j1 kq a1 a2 t209 x56_18 = some r) ∧ Aside0 (kq ≤ kj3) ∧ Aside0 (Kd.S k43 43 wc w.heap.size (fun _ => True) (.slice Ao22 t209.length co22) t209) ∧ Aside0 (Below w.heap.size w wc))
        case first =>
          have H := HC19.out
          clear HC19
          by_cases c26 : t208 = true
          · subst c26
            have H1 : (if t214 = true then (if (t212 != t215) = true then (squintlaw04_KindsSame.j1 kj3 a1 a2 t209 true) else (squintlaw04_KindsSame.j1 kj3 a1 a2 t209 (t213 != t215))) else (squintlaw04_KindsSame.j1 kj3 a1 a2 t209 true)) = some r := by rw [if_pos rfl] at H; exact H
            clear H
            have H := H1
            clear H1
            by_cases c27 : t214 = true
            · subst c27
              have H1 : (if (t212 != t215) = true then (squintlaw04_KindsSame.j1 kj3 a1 a2 t209 true) else (squintlaw04_KindsSame.j1 kj3 a1 a2 t209 (t213 != t215))) = some r := by rw [if_pos rfl] at H; exact H
              clear H
              have H := H1
              clear H1
              by_cases c28 : (t212 != t215) = true
              · rw [if_pos c28] at H
                have c28b0 : (t212 != t215) = true := c28
                (try (have c28b1 : decide (t212 = t215) = false := by simpa using c28))
                (try (have c28b2 : (t212 == t215) = false := by simpa using c28))
                (try (have c28b3 : ¬ (t212 = t215) := by simpa using c28))
                clear c28
                (first | rw [c28b0] | (simp only [i64_w, i32_w]; rw [c28b0]) | skip)
                have H' := Aside0.mk H
                clear H
                go_wp2
                go_meet
                case rel => exact ⟨_, (true), (by first | rfl | (simp; done) | (simp [*]; done)), H', ⟨by have := HJ3.out; first | omega | exact Nat.le_refl _⟩, ⟨by (with_reducible repeat (first | apply Kd.S_alloc | apply Kd.S_drewN | apply Kd.S_drew)); exact HO211.out⟩, ⟨by repeat (first | (with_reducible first | exact HB.out | apply below_alloc | apply pw_below_drewN | apply below_drew1) | exact HB.out)⟩⟩
              · rw [if_neg c28] at H
                have c28b0 : (t212 != t215) = false := by simpa using c28
                (try (have c28b1 : decide (t212 = t215) = true := by simpa using c28))
                (try (have c28b2 : (t212 == t215) = true := by simpa using c28))
                clear c28
                (first | rw [c28b0] | (simp only [i64_w, i32_w]; rw [c28b0]) | skip)
                have H' := Aside0.mk H
                clear H
                go_wp2
                go_meet
                case rel => exact ⟨_, ((t213 != t215)), (by first | rfl | (simp; done) | (simp [*]; done)), H', ⟨by have := HJ3.out; first | omega | exact Nat.le_refl _⟩, ⟨by (with_reducible repeat (first | apply Kd.S_alloc | apply Kd.S_drewN | apply Kd.S_drew)); exact HO211.out⟩, ⟨by repeat (first | (with_reducible first | exact HB.out | apply below_alloc | apply pw_below_drewN | apply below_drew1) | exact HB.out)⟩⟩
            · replace c27 := Bool.eq_false_iff.mpr c27
              subst c27
              have H1 : (squintlaw04_KindsSame.j1 kj3 a1 a2 t209 true) = some r := by rw [if_neg (show ¬ (false = true) by decide)] at H; exact H
              clear H
              have H := H1
              clear H1
              have H' := Aside0.mk H
              clear H
              go_wp2
              go_meet
              case rel => exact ⟨_, (true), (by first | rfl | (simp; done) | (simp [*]; done)), H', ⟨by have := HJ3.out; first | omega | exact Nat.le_refl _⟩, ⟨by (with_reducible repeat (first | apply Kd.S_alloc | apply Kd.S_drewN | apply Kd.S_drew)); exact HO211.out⟩, ⟨by repeat (first | (with_reducible first | exact HB.out | apply below_alloc | apply pw_below_drewN | apply below_drew1) | exact HB.out)⟩⟩
          · replace c26 := Bool.eq_false_iff.mpr c26
            subst c26
            have H1 : (squintlaw04_KindsSame.j1 kj3 a1 a2 t209 true) = some r := by rw [if_neg (show ¬ (false = true) by decide)] at H; exact H
            clear H
            have H := H1
            clear H1
            have H' := Aside0.mk H
            clear H
            go_wp2
            go_meet
            case rel => exact ⟨_, (true), (by first | rfl | (simp; done) | (simp [*]; done)), H', ⟨by have := HJ3.out; first | omega | exact Nat.le_refl _⟩, ⟨by (with_reducible repeat (first | apply Kd.S_alloc | apply Kd.S_drewN | apply Kd.S_drew)); exact HO211.out⟩, ⟨by repeat (first | (with_reducible first | exact HB.out | apply below_alloc | apply pw_below_drewN | apply below_drew1) | exact HB.out)⟩⟩
        case rest =>
          clear HC19
          try clear c1
          try clear c2
          try clear p2
          try clear c5
          try clear c7
          try clear c9
          try clear c11
          try clear c12
          try clear c17
          try clear c18
          try clear c20
          try clear c22
          try clear c23
          try clear c26
          try clear c27
          try clear c28
          try clear c28b0
          try clear c28b1
          try clear c28b2
          try clear p2
          obtain ⟨kq, x56_18, rfl, HA, HJ18, HO_8, HB⟩ := hcut
          cases kq with
          | zero => exact absurd HA.out (by simp [squintlaw04_KindsSame.j1])
          | succ kj18 =>
            have H := HA.out
            clear HA
            simp only [squintlaw04_KindsSame.j1] at H
            by_cases c29 : x56_18 = true
            · subst c29
              have H1 : (some false) = some r := by rw [if_pos rfl] at H; exact H
              clear H
              have H := H1
              clear H1
              obtain rfl := Option.some.inj H
              go_wp2
              go_ret
              exact ⟨by first | rfl | (simp [errW_none, errW_some] <;> rfl) | (simp [*, errW_none, errW_some] <;> rfl), by repeat (first | (with_reducible first | exact HB.out | apply below_alloc | apply pw_below_drewN | apply below_drew1) | exact HB.out)⟩
            · replace c29 := Bool.eq_false_iff.mpr c29
              subst c29
              have H1 : (squintlaw04_KindsSame.l0 kj18 a1 a2 t209 0) = some r := by rw [if_neg (show ¬ (false = true) by decide)] at H; exact H
              clear H
              have H := H1
              clear H1
              have H' := Aside0.mk H
              clear H
              go_wp2
              go_loopg [13] kj18 (fun kq v13 w' => ∃ (x8_3 : List (S43)) (x13_3 : Int), v13 = .int .i64 x13_3 ∧ Aside0 (squintlaw04_KindsSame.l0 kq a1 a2 x8_3 x13_3 = some r) ∧ Aside0 (kq ≤ kj18) ∧ Aside0 (Kd.S k43 43 w' w.heap.size (fun _ => True) (.slice Ao22 t209.length co22) x8_3) ∧ Aside0 (Below w.heap.size w w'))
              case atStart => exact ⟨(t209), (0), (by first | rfl | (simp; done) | (simp [*]; done)), H', ⟨Nat.le_refl _⟩, ⟨by (with_reducible repeat (first | apply Kd.S_alloc | apply Kd.S_drewN | apply Kd.S_drew)); exact HO_8.out⟩, ⟨by repeat (first | (with_reducible first | exact HB.out | apply below_alloc | apply pw_below_drewN | apply below_drew1) | exact HB.out)⟩⟩
              case round =>
                clear H'
                try clear c1
                try clear c2
                try clear p2
                try clear c5
                try clear c7
                try clear c9
                try clear c11
                try clear c12
                try clear c17
                try clear c18
                try clear c20
                try clear c22
                try clear c23
                try clear c26
                try clear c27
                try clear c28
                try clear c28b0
                try clear c28b1
                try clear c28b2
                try clear c29
                try clear p2
                obtain ⟨x8_3, x13_3, rfl, HA, HK3, HO_8, HB⟩ := hrel
                have hl8_3 := (Kd.S_reads' HO_8.out).1
                rw [hl8_3] at HO_8
                (try simp only [hl8_3])
                cases gk with
                | zero => exact absurd HA.out (by simp [squintlaw04_KindsSame.l0])
                | succ k3 =>
                  have H := HA.out
                  clear HA
                  simp only [squintlaw04_KindsSame.l0] at H
                  by_cases c30 : x13_3 < (x8_3.length : Int)
                  · rw [if_pos c30] at H
                    have c30b0 : decide (x13_3 < (x8_3.length : Int)) = true := decide_eq_true c30
                    clear c30
                    by_cases c31 : 0 ≤ x13_3
                    · rw [if_pos c31] at H
                      have c31b0 : decide (0 ≤ x13_3) = true := decide_eq_true c31
                      clear c31
                      by_cases c32 : ((rd_T43 x8_3 x13_3).f0) = 3
                      · rw [if_pos c32] at H
                        have c32b0 : (((rd_T43 x8_3 x13_3).f0) == 3) = true := beq_iff_eq.mpr c32
                        have c32b1 : (((rd_T43 x8_3 x13_3).f0) != 3) = false := bne_eq_false_iff_eq.mpr c32
                        clear c32
                        obtain ⟨y222, hy222⟩ : ∃ y_ : List (S43), y_ = (x8_3.set (x13_3 : Int).toNat (⟨5, (rd_T43 x8_3 x13_3).f1, (rd_T43 x8_3 x13_3).f2⟩ : S43)) := ⟨_, rfl⟩
                        replace H : (squintlaw04_KindsSame.l0 k3 a1 a2 y222 (wrap64 (x13_3 + 1))) = some r := by first | (rw [hy222]; with_reducible exact H) | (have H2_ := (Option.bind_some _ _).symm.trans H; rw [hy222]; with_reducible exact H2_) | (have H2_ := (Option.bind_some _ _).symm.trans H; with_reducible exact H2_) | with_reducible exact H | (rw [hy222]; exact H) | exact H
                        have Ny222 := Aside0.mk hy222
                        clear hy222
                        have H' := Aside0.mk H
                        clear H
                        have p221 : 0 ≤ (x13_3 : Int) := of_decide_eq_true (by first | (with_reducible assumption) | assumption)
                        have q221 : x13_3 < (x8_3.length : Int) := of_decide_eq_true (by first | (with_reducible assumption) | assumption)
                        obtain ⟨ad221, A221_1, c221_1, e221, hx221_0, hx221_1, hx221_2, hl221_1, hi221_1⟩ := at_T43 (Kd.S_reads' HO_8.out).2.2 x13_3 p221 q221
                        cases e221
                        obtain ⟨ce221, hce221, hMe221, hcc221⟩ := Kd.S_get HO_8.out z43 x13_3 p221 (by first | exact q221 | exact of_decide_eq_true (by first | (with_reducible assumption) | assumption) | (have e_ := (Kd.S_reads' HO_8.out).1; omega))
                        obtain ⟨ve221_1, rfl, ge221_1⟩ := k43_openM hMe221
                        have hv221_1 := hcc221 1 _ rfl
                        rw [add_field _ _ 1 (by omega)] at hv221_1
                        replace hv221_1 := Option.some.inj (hv221_1.symm.trans hx221_1)
                        rw [hv221_1] at ge221_1
                        have HL221_1 := Aside0.mk (show Kd.R (Kd.int .i64) 3 _ _ _ _ ((rd_T43 x8_3 x13_3).f1) from ge221_1)
                        clear hv221_1 ge221_1
                        clear hcc221 hce221
                        have HR221_1 := Aside0.mk hi221_1
                        have HC221_1 := Aside0.mk hl221_1
                        clear hi221_1 hl221_1
                        replace p221 := eq_true p221
                        replace q221 := eq_true q221
                        have p33 : 0 ≤ (x13_3 : Int) := of_decide_eq_true (by first | (with_reducible assumption) | assumption)
                        have q33 : (x13_3 : Int) < ((x8_3.length : Int) : Int) := of_decide_eq_true (by first | (with_reducible assumption) | assumption)
                        obtain ⟨go33, co33, eo33, gb33, gl33, cl33, HG33⟩ := Kd.S_form HO_8.out (by omega)
                        (first | cases eo33 | (injection eo33 with ea_ en_ ec_; (first | subst ea_ | (injection ea_ with ea_; subst ea_)); subst ec_; clear en_))
                        have GB33 := Aside0.mk gb33
                        have GG33 := Aside0.mk HG33
                        clear gb33 gl33 HG33
                        (first | simp only [add_plain] at hx221_0 | skip)
                        (first | simp only [add_plain] at hx221_1 | skip)
                        (first | simp only [add_plain] at hx221_2 | skip)
                        obtain ⟨_, ce33, hcl33, hM33, hcc33, hfr33, _, _⟩ := Kd.S_elem HO_8.out z43 (x13_3 : Int) p33 q33
                        obtain ⟨ve33_1, rfl, ge33_1⟩ := k43_openM hM33
                        have hx33_0 : wr.cell? ⟨go33, (x13_3 : Int).toNat * 3, none⟩ = some (.int .i64 ((rd_T43 x8_3 x13_3).f0)) := hcc33 0 _ rfl
                        have hx33_1 : wr.cell? ⟨go33, (x13_3 : Int).toNat * 3 + 1, none⟩ = some (ve33_1) := hcc33 1 _ rfl
                        have hx33_2 : wr.cell? ⟨go33, (x13_3 : Int).toNat * 3 + 2, none⟩ = some (.bool ((rd_T43 x8_3 x13_3).f2)) := hcc33 2 _ rfl
                        have hf33_0 : wr.frozen? ⟨go33, (x13_3 : Int).toNat * 3, none⟩ = false := hfr33 0
                        have hf33_1 : wr.frozen? ⟨go33, (x13_3 : Int).toNat * 3 + 1, none⟩ = false := hfr33 1
                        have hf33_2 : wr.frozen? ⟨go33, (x13_3 : Int).toNat * 3 + 2, none⟩ = false := hfr33 2
                        clear hcl33 hcc33 hfr33 hM33
                        replace p33 := eq_true p33
                        replace q33 := eq_true q33
                        have HX34 := Aside0.mk (show Kd.S k43 43 wr w.heap.size (fun k_ => ((fun _ => True)) k_ ∧ ¬ ((fun _ => False)) k_) (.slice (some ⟨go33, 0, none⟩) x8_3.length co22) x8_3 from (by (with_reducible repeat (first | apply Kd.S_alloc | apply Kd.S_drewN | apply Kd.S_drew)); exact Kd.S_mono HO_8.out (fun k_ hk => ⟨trivial, fun e_ => e_⟩)))
                        obtain ⟨oki34, ce34, hcl34, hM34, hcc34, hfr34, hoki34, hH34⟩ := Kd.S_elem HX34.out z43 (x13_3 : Int) (of_decide_eq_true (by first | (with_reducible assumption) | assumption)) (by have h_ : (x13_3 : Int) < ((x8_3.length : Int) : Int) := of_decide_eq_true (by first | (with_reducible assumption) | assumption); first | exact h_ | (have e_ := (Kd.S_reads' HO_8.out).1; omega) | simpa using h_)
                        obtain ⟨ve34_1, rfl, ge34_1⟩ := k43_openM hM34
                        have HP34 := Kd.S_seg hH34 (of_decide_eq_true (by first | (with_reducible assumption) | assumption)) (by have h_ : (x13_3 : Int) < ((x8_3.length : Int) : Int) := of_decide_eq_true (by first | (with_reducible assumption) | assumption); first | exact h_ | (have e_ := (Kd.S_reads' HO_8.out).1; omega) | simpa using h_) (seg := [.int .i64 5]) (j := 0) (show 1 ≤ 3 from by decide) (x' := (⟨5, (rd_T43 x8_3 x13_3).f1, (rd_T43 x8_3 x13_3).f2⟩ : S43)) (k43_mkM _ _ _ (⟨5, (rd_T43 x8_3 x13_3).f1, (rd_T43 x8_3 x13_3).f2⟩ : S43) (Kd.R_mono ge34_1 (fun _ h_ => Or.inl h_))) (fun _ hk => hk) (fun k_ hk_ => hk_.elim)
                        have hx34_0 := hcc34 0 _ rfl
                        (try simp only [show (k43).sz = 3 from rfl, Nat.mul_one, Nat.add_zero] at hx34_0)
                        have hf34_0 := hfr34 0
                        (try simp only [show (k43).sz = 3 from rfl, Nat.mul_one, Nat.add_zero] at hf34_0)
                        clear hcl34 hcc34 hfr34 hM34 hoki34 hH34
                        go_wp2_with (first | ((with_reducible refine gate_store (t := 3) (p := 72) rfl ?_); refine store_event (t := 3) (p := 72) (v := ?vo_w35) (w1 := (wr.setCell ⟨go33, (x13_3 : Int).toNat * 3, none⟩ (.int .i64 5))) ?hg ?ho ?hn ?hr ?_; (case ho => rfl); (case hg => rfl); (case hn => rfl); (case hr => first | (go_simp; done) | (go_simp; rfl)); intro w35 hw; have hg : wr.grownBy w35 (some go33) := (by rw [hw]; exact HP34.2); have hp_ : Kd.S k43 43 w35 w.heap.size (fun _ => True) (.slice (some ⟨go33, 0, none⟩) x8_3.length co22) y222 := (by rw [hw, Ny222.out]; exact HP34.1); clear HP34; have n0_ := Aside0.mk (hp_); have n1_ := Aside0.mk (Kd.R_after (v := (.slice (some ⟨go33, 0, none⟩) x8_3.length co22)) (v1 := (.slice (some ⟨go33, 0, none⟩) x8_3.length co22)) (ok := (fun _ => True)) (by (with_reducible repeat (first | apply Kd.R_alloc | apply Kd.R_drewN | apply Kd.R_drew)); exact HL221_1.out) hg (.inl rfl)); have n2_ := Aside0.mk ((by rw [hw]; exact below_set (HB.out) GB33.out : Below w.heap.size w w35)); clear HO_8; clear HL221_1; clear HB; have HO_8 := n0_; have HL221_1 := n1_; have HB := n2_; clear n0_ n1_ n2_; clear hg hw hp_))
                        (try simp only [← hl8_3])
                        go_roundg k3
                        case measure => have := HJ3.out; have := HJ18.out; have := HK3.out; omega
                        case rel => exact ⟨(y222), (wrap64 (x13_3 + 1)), (by first | rfl | (simp; done) | (simp [*]; done)), H', ⟨by have := HJ3.out; have := HJ18.out; have := HK3.out; omega⟩, ⟨by (try simp only [hl8_3]); (with_reducible repeat (first | apply Kd.S_alloc | apply Kd.S_drewN | apply Kd.S_drew)); exact HO_8.out⟩, ⟨by repeat (first | (with_reducible first | exact HB.out | apply below_alloc | apply pw_below_drewN | apply below_drew1) | exact HB.out)⟩⟩
                      · rw [if_neg c32] at H
                        have c32b0 : (((rd_T43 x8_3 x13_3).f0) == 3) = false := beq_eq_false_iff_ne.mpr c32
                        have c32b1 : (((rd_T43 x8_3 x13_3).f0) != 3) = true := bne_iff_ne.mpr c32
                        by_cases c36 : ((rd_T43 x8_3 x13_3).f0) = 2
                        · rw [if_pos c36] at H
                          have c36b0 : (((rd_T43 x8_3 x13_3).f0) == 2) = true := beq_iff_eq.mpr c36
                          have c36b1 : (((rd_T43 x8_3 x13_3).f0) != 2) = false := bne_eq_false_iff_eq.mpr c36
                          clear c36
                          obtain ⟨y224, hy224⟩ : ∃ y_ : List (S43), y_ = (x8_3.set (x13_3 : Int).toNat (⟨1, (rd_T43 x8_3 x13_3).f1, (rd_T43 x8_3 x13_3).f2⟩ : S43)) := ⟨_, rfl⟩
                          replace H : (squintlaw04_KindsSame.l0 k3 a1 a2 y224 (wrap64 (x13_3 + 1))) = some r := by first | (rw [hy224]; with_reducible exact H) | (have H2_ := (Option.bind_some _ _).symm.trans H; rw [hy224]; with_reducible exact H2_) | (have H2_ := (Option.bind_some _ _).symm.trans H; with_reducible exact H2_) | with_reducible exact H | (rw [hy224]; exact H) | exact H
                          have Ny224 := Aside0.mk hy224
                          clear hy224
                          have H' := Aside0.mk H
                          clear H
                          have p221 : 0 ≤ (x13_3 : Int) := of_decide_eq_true (by first | (with_reducible assumption) | assumption)
                          have q221 : x13_3 < (x8_3.length : Int) := of_decide_eq_true (by first | (with_reducible assumption) | assumption)
                          obtain ⟨ad221, A221_1, c221_1, e221, hx221_0, hx221_1, hx221_2, hl221_1, hi221_1⟩ := at_T43 (Kd.S_reads' HO_8.out).2.2 x13_3 p221 q221
                          cases e221
                          obtain ⟨ce221, hce221, hMe221, hcc221⟩ := Kd.S_get HO_8.out z43 x13_3 p221 (by first | exact q221 | exact of_decide_eq_true (by first | (with_reducible assumption) | assumption) | (have e_ := (Kd.S_reads' HO_8.out).1; omega))
                          obtain ⟨ve221_1, rfl, ge221_1⟩ := k43_openM hMe221
                          have hv221_1 := hcc221 1 _ rfl
                          rw [add_field _ _ 1 (by omega)] at hv221_1
                          replace hv221_1 := Option.some.inj (hv221_1.symm.trans hx221_1)
                          rw [hv221_1] at ge221_1
                          have HL221_1 := Aside0.mk (show Kd.R (Kd.int .i64) 3 _ _ _ _ ((rd_T43 x8_3 x13_3).f1) from ge221_1)
                          clear hv221_1 ge221_1
                          clear hcc221 hce221
                          have HR221_1 := Aside0.mk hi221_1
                          have HC221_1 := Aside0.mk hl221_1
                          clear hi221_1 hl221_1
                          replace p221 := eq_true p221
                          replace q221 := eq_true q221
                          have p223 : 0 ≤ (x13_3 : Int) := of_decide_eq_true (by first | (with_reducible assumption) | assumption)
                          have q223 : x13_3 < (x8_3.length : Int) := of_decide_eq_true (by first | (with_reducible assumption) | assumption)
                          obtain ⟨ad223, A223_1, c223_1, e223, hx223_0, hx223_1, hx223_2, hl223_1, hi223_1⟩ := at_T43 (Kd.S_reads' HO_8.out).2.2 x13_3 p223 q223
                          obtain rfl : ad221 = ad223 := (by injection e223)
                          obtain ⟨ce223, hce223, hMe223, hcc223⟩ := Kd.S_get HO_8.out z43 x13_3 p223 (by first | exact q223 | exact of_decide_eq_true (by first | (with_reducible assumption) | assumption) | (have e_ := (Kd.S_reads' HO_8.out).1; omega))
                          obtain ⟨ve223_1, rfl, ge223_1⟩ := k43_openM hMe223
                          have hv223_1 := hcc223 1 _ rfl
                          rw [add_field _ _ 1 (by omega)] at hv223_1
                          replace hv223_1 := Option.some.inj (hv223_1.symm.trans hx223_1)
                          rw [hv223_1] at ge223_1
                          have HL223_1 := Aside0.mk (show Kd.R (Kd.int .i64) 3 _ _ _ _ ((rd_T43 x8_3 x13_3).f1) from ge223_1)
                          clear hv223_1 ge223_1
                          clear hcc223 hce223
                          have HR223_1 := Aside0.mk hi223_1
                          have HC223_1 := Aside0.mk hl223_1
                          clear hi223_1 hl223_1
                          replace p223 := eq_true p223
                          replace q223 := eq_true q223
                          have ea_ := Option.some.inj (hx221_1.symm.trans hx223_1)
                          injection ea_ with ea_ en_ ec_
                          subst ea_
                          subst ec_
                          clear en_
                          have p37 : 0 ≤ (x13_3 : Int) := of_decide_eq_true (by first | (with_reducible assumption) | assumption)
                          have q37 : (x13_3 : Int) < ((x8_3.length : Int) : Int) := of_decide_eq_true (by first | (with_reducible assumption) | assumption)
                          obtain ⟨go37, co37, eo37, gb37, gl37, cl37, HG37⟩ := Kd.S_form HO_8.out (by omega)
                          (first | cases eo37 | (injection eo37 with ea_ en_ ec_; (first | subst ea_ | (injection ea_ with ea_; subst ea_)); subst ec_; clear en_))
                          have GB37 := Aside0.mk gb37
                          have GG37 := Aside0.mk HG37
                          clear gb37 gl37 HG37
                          (first | simp only [add_plain] at hx221_0 | skip)
                          (first | simp only [add_plain] at hx221_1 | skip)
                          (first | simp only [add_plain] at hx221_2 | skip)
                          (first | simp only [add_plain] at hx223_0 | skip)
                          (first | simp only [add_plain] at hx223_1 | skip)
                          (first | simp only [add_plain] at hx223_2 | skip)
                          obtain ⟨_, ce37, hcl37, hM37, hcc37, hfr37, _, _⟩ := Kd.S_elem HO_8.out z43 (x13_3 : Int) p37 q37
                          obtain ⟨ve37_1, rfl, ge37_1⟩ := k43_openM hM37
                          have hx37_0 : wr.cell? ⟨go37, (x13_3 : Int).toNat * 3, none⟩ = some (.int .i64 ((rd_T43 x8_3 x13_3).f0)) := hcc37 0 _ rfl
                          have hx37_1 : wr.cell? ⟨go37, (x13_3 : Int).toNat * 3 + 1, none⟩ = some (ve37_1) := hcc37 1 _ rfl
                          have hx37_2 : wr.cell? ⟨go37, (x13_3 : Int).toNat * 3 + 2, none⟩ = some (.bool ((rd_T43 x8_3 x13_3).f2)) := hcc37 2 _ rfl
                          have hf37_0 : wr.frozen? ⟨go37, (x13_3 : Int).toNat * 3, none⟩ = false := hfr37 0
                          have hf37_1 : wr.frozen? ⟨go37, (x13_3 : Int).toNat * 3 + 1, none⟩ = false := hfr37 1
                          have hf37_2 : wr.frozen? ⟨go37, (x13_3 : Int).toNat * 3 + 2, none⟩ = false := hfr37 2
                          clear hcl37 hcc37 hfr37 hM37
                          replace p37 := eq_true p37
                          replace q37 := eq_true q37
                          have HX38 := Aside0.mk (show Kd.S k43 43 wr w.heap.size (fun k_ => ((fun _ => True)) k_ ∧ ¬ ((fun _ => False)) k_) (.slice (some ⟨go37, 0, none⟩) x8_3.length co22) x8_3 from (by (with_reducible repeat (first | apply Kd.S_alloc | apply Kd.S_drewN | apply Kd.S_drew)); exact Kd.S_mono HO_8.out (fun k_ hk => ⟨trivial, fun e_ => e_⟩)))
                          obtain ⟨oki38, ce38, hcl38, hM38, hcc38, hfr38, hoki38, hH38⟩ := Kd.S_elem HX38.out z43 (x13_3 : Int) (of_decide_eq_true (by first | (with_reducible assumption) | assumption)) (by have h_ : (x13_3 : Int) < ((x8_3.length : Int) : Int) := of_decide_eq_true (by first | (with_reducible assumption) | assumption); first | exact h_ | (have e_ := (Kd.S_reads' HO_8.out).1; omega) | simpa using h_)
                          obtain ⟨ve38_1, rfl, ge38_1⟩ := k43_openM hM38
                          have HP38 := Kd.S_seg hH38 (of_decide_eq_true (by first | (with_reducible assumption) | assumption)) (by have h_ : (x13_3 : Int) < ((x8_3.length : Int) : Int) := of_decide_eq_true (by first | (with_reducible assumption) | assumption); first | exact h_ | (have e_ := (Kd.S_reads' HO_8.out).1; omega) | simpa using h_) (seg := [.int .i64 1]) (j := 0) (show 1 ≤ 3 from by decide) (x' := (⟨1, (rd_T43 x8_3 x13_3).f1, (rd_T43 x8_3 x13_3).f2⟩ : S43)) (k43_mkM _ _ _ (⟨1, (rd_T43 x8_3 x13_3).f1, (rd_T43 x8_3 x13_3).f2⟩ : S43) (Kd.R_mono ge38_1 (fun _ h_ => Or.inl h_))) (fun _ hk => hk) (fun k_ hk_ => hk_.elim)
                          have hx38_0 := hcc38 0 _ rfl
                          (try simp only [show (k43).sz = 3 from rfl, Nat.mul_one, Nat.add_zero] at hx38_0)
                          have hf38_0 := hfr38 0
                          (try simp only [show (k43).sz = 3 from rfl, Nat.mul_one, Nat.add_zero] at hf38_0)
                          clear hcl38 hcc38 hfr38 hM38 hoki38 hH38
                          go_wp2_with (first | ((with_reducible refine gate_store (t := 3) (p := 82) rfl ?_); refine store_event (t := 3) (p := 82) (v := ?vo_w39) (w1 := (wr.setCell ⟨go37, (x13_3 : Int).toNat * 3, none⟩ (.int .i64 1))) ?hg ?ho ?hn ?hr ?_; (case ho => rfl); (case hg => rfl); (case hn => rfl); (case hr => first | (go_simp; done) | (go_simp; rfl)); intro w39 hw; have hg : wr.grownBy w39 (some go37) := (by rw [hw]; exact HP38.2); have hp_ : Kd.S k43 43 w39 w.heap.size (fun _ => True) (.slice (some ⟨go37, 0, none⟩) x8_3.length co22) y224 := (by rw [hw, Ny224.out]; exact HP38.1); clear HP38; have n0_ := Aside0.mk (hp_); have n1_ := Aside0.mk (Kd.R_after (v := (.slice (some ⟨go37, 0, none⟩) x8_3.length co22)) (v1 := (.slice (some ⟨go37, 0, none⟩) x8_3.length co22)) (ok := (fun _ => True)) (by (with_reducible repeat (first | apply Kd.R_alloc | apply Kd.R_drewN | apply Kd.R_drew)); exact HL221_1.out) hg (.inl rfl)); have n2_ := Aside0.mk (Kd.R_after (v := (.slice (some ⟨go37, 0, none⟩) x8_3.length co22)) (v1 := (.slice (some ⟨go37, 0, none⟩) x8_3.length co22)) (ok := (fun _ => True)) (by (with_reducible repeat (first | apply Kd.R_alloc | apply Kd.R_drewN | apply Kd.R_drew)); exact HL223_1.out) hg (.inl rfl)); have n3_ := Aside0.mk ((by rw [hw]; exact below_set (HB.out) GB37.out : Below w.heap.size w w39)); clear HO_8; clear HL221_1; clear HL223_1; clear HB; have HO_8 := n0_; have HL221_1 := n1_; have HL223_1 := n2_; have HB := n3_; clear n0_ n1_ n2_ n3_; clear hg hw hp_))
                          (try simp only [← hl8_3])
                          go_roundg k3
                          case measure => have := HJ3.out; have := HJ18.out; have := HK3.out; omega
                          case rel => exact ⟨(y224), (wrap64 (x13_3 + 1)), (by first | rfl | (simp; done) | (simp [*]; done)), H', ⟨by have := HJ3.out; have := HJ18.out; have := HK3.out; omega⟩, ⟨by (try simp only [hl8_3]); (with_reducible repeat (first | apply Kd.S_alloc | apply Kd.S_drewN | apply Kd.S_drew)); exact HO_8.out⟩, ⟨by repeat (first | (with_reducible first | exact HB.out | apply below_alloc | apply pw_below_drewN | apply below_drew1) | exact HB.out)⟩⟩
                        · rw [if_neg c36] at H
                          have c36b0 : (((rd_T43 x8_3 x13_3).f0) == 2) = false := beq_eq_false_iff_ne.mpr c36
                          have c36b1 : (((rd_T43 x8_3 x13_3).f0) != 2) = true := bne_iff_ne.mpr c36
                          have H' := Aside0.mk H
                          clear H
                          have p221 : 0 ≤ (x13_3 : Int) := of_decide_eq_true (by first | (with_reducible assumption) | assumption)
                          have q221 : x13_3 < (x8_3.length : Int) := of_decide_eq_true (by first | (with_reducible assumption) | assumption)
                          obtain ⟨ad221, A221_1, c221_1, e221, hx221_0, hx221_1, hx221_2, hl221_1, hi221_1⟩ := at_T43 (Kd.S_reads' HO_8.out).2.2 x13_3 p221 q221
                          cases e221
                          obtain ⟨ce221, hce221, hMe221, hcc221⟩ := Kd.S_get HO_8.out z43 x13_3 p221 (by first | exact q221 | exact of_decide_eq_true (by first | (with_reducible assumption) | assumption) | (have e_ := (Kd.S_reads' HO_8.out).1; omega))
                          obtain ⟨ve221_1, rfl, ge221_1⟩ := k43_openM hMe221
                          have hv221_1 := hcc221 1 _ rfl
                          rw [add_field _ _ 1 (by omega)] at hv221_1
                          replace hv221_1 := Option.some.inj (hv221_1.symm.trans hx221_1)
                          rw [hv221_1] at ge221_1
                          have HL221_1 := Aside0.mk (show Kd.R (Kd.int .i64) 3 _ _ _ _ ((rd_T43 x8_3 x13_3).f1) from ge221_1)
                          clear hv221_1 ge221_1
                          clear hcc221 hce221
                          have HR221_1 := Aside0.mk hi221_1
                          have HC221_1 := Aside0.mk hl221_1
                          clear hi221_1 hl221_1
                          replace p221 := eq_true p221
                          replace q221 := eq_true q221
                          have p223 : 0 ≤ (x13_3 : Int) := of_decide_eq_true (by first | (with_reducible assumption) | assumption)
                          have q223 : x13_3 < (x8_3.length : Int) := of_decide_eq_true (by first | (with_reducible assumption) | assumption)
                          obtain ⟨ad223, A223_1, c223_1, e223, hx223_0, hx223_1, hx223_2, hl223_1, hi223_1⟩ := at_T43 (Kd.S_reads' HO_8.out).2.2 x13_3 p223 q223
                          obtain rfl : ad221 = ad223 := (by injection e223)
                          obtain ⟨ce223, hce223, hMe223, hcc223⟩ := Kd.S_get HO_8.out z43 x13_3 p223 (by first | exact q223 | exact of_decide_eq_true (by first | (with_reducible assumption) | assumption) | (have e_ := (Kd.S_reads' HO_8.out).1; omega))
                          obtain ⟨ve223_1, rfl, ge223_1⟩ := k43_openM hMe223
                          have hv223_1 := hcc223 1 _ rfl
                          rw [add_field _ _ 1 (by omega)] at hv223_1
                          replace hv223_1 := Option.some.inj (hv223_1.symm.trans hx223_1)
                          rw [hv223_1] at ge223_1
                          have HL223_1 := Aside0.mk (show Kd.R (Kd.int .i64) 3 _ _ _ _ ((rd_T43 x8_3 x13_3).f1) from ge223_1)
                          clear hv223_1 ge223_1
                          clear hcc223 hce223
                          have HR223_1 := Aside0.mk hi223_1
                          have HC223_1 := Aside0.mk hl223_1
                          clear hi223_1 hl223_1
                          replace p223 := eq_true p223
                          replace q223 := eq_true q223
                          have ea_ := Option.some.inj (hx221_1.symm.trans hx223_1)
                          injection ea_ with ea_ en_ ec_
                          subst ea_
                          subst ec_
                          clear en_
                          go_wp2
                          (try simp only [← hl8_3])
                          go_roundg k3
                          case measure => have := HJ3.out; have := HJ18.out; have := HK3.out; omega
                          case rel => exact ⟨(x8_3), (wrap64 (x13_3 + 1)), (by first | rfl | (simp; done) | (simp [*]; done)), H', ⟨by have := HJ3.out; have := HJ18.out; have := HK3.out; omega⟩, ⟨by (try simp only [hl8_3]); (with_reducible repeat (first | apply Kd.S_alloc | apply Kd.S_drewN | apply Kd.S_drew)); exact HO_8.out⟩, ⟨by repeat (first | (with_reducible first | exact HB.out | apply below_alloc | apply pw_below_drewN | apply below_drew1) | exact HB.out)⟩⟩
                    · rw [if_neg c31] at H
                      exact absurd H (by simp)
                  · rw [if_neg c30] at H
                    have c30b0 : decide (x13_3 < (x8_3.length : Int)) = false := decide_eq_false c30
                    clear c30
                    replace H := Option.bind_eq_some_iff.mp H
                    obtain ⟨t216, A400, H⟩ := H
                    replace H : ((kinds_Same.f k3 x8_3 a1 a2).bind fun t219 => ((squintref04_Same.f k3 t216 a1 a2).bind fun t220 => (some (t219 == t220)))) = some r := H
                    have A40 := Aside0.mk A400
                    clear A400
                    replace H := Option.bind_eq_some_iff.mp H
                    obtain ⟨t219, A410, H⟩ := H
                    replace H : ((squintref04_Same.f k3 t216 a1 a2).bind fun t220 => (some (t219 == t220))) = some r := H
                    have A41 := Aside0.mk A410
                    clear A410
                    replace H := Option.bind_eq_some_iff.mp H
                    obtain ⟨t220, A420, H⟩ := H
                    replace H : (some (t219 == t220)) = some r := H
                    have A42 := Aside0.mk A420
                    clear A420
                    obtain rfl := Option.some.inj H
                    go_wp2_with (first | ((with_reducible refine gate_callee (f := 18) rfl ?_); refine goesL_ (some 84) rfl rfl Try.func18 (by kernel_rfl) rfl #[.slice Ao22 x8_3.length co22] rfl (by (try simp only [List.map_toArray, List.map_cons, List.map_nil]); first | done | rfl | (simp only [List.length_drop, List.length_take]; rfl)) ?_; (with_reducible refine (squintlaw04_ownRows.calls k3 _ _ x8_3 t216 _ ?side1 ?side2 A40.out).mono ?_); (case side1 => repeat (first | exact (Kd.S_reads' HO_8.out).2.2 | (with_reducible refine Kd.C_alloc ?_ _) | (with_reducible refine Kd.C_drewN ?_ _) | (with_reducible refine Kd.C_drew ?_))); (case side2 => exact (Kd.S_reads' HO_8.out).2.1); rintro e w43 ⟨v217, rfl, ho0, hb⟩; refine ⟨_, rfl, ?_⟩; have n0_ := Aside0.mk (Kd.S_elder' (by (with_reducible repeat (first | apply Kd.S_alloc | apply Kd.S_drewN | apply Kd.S_drew)); exact HO_8.out) (Kd.S_base ho0) hb); have n1_ := Aside0.mk (Kd.S_lower (Kd.S_new' ho0 (Kd.S_lt (by (with_reducible repeat (first | apply Kd.S_alloc | apply Kd.S_drewN | apply Kd.S_drew)); exact HO_8.out))) (below_size (by repeat (first | (with_reducible first | exact HB.out | apply below_alloc | apply pw_below_drewN | apply below_drew1) | exact HB.out)))); have n2_ := Aside0.mk (below_step (by repeat (first | (with_reducible first | exact HB.out | apply below_alloc | apply pw_below_drewN | apply below_drew1) | exact HB.out)) hb); clear HO_8; clear HB; have HO_8 := n0_; have HO218 := n1_; have HB := n2_; clear n0_ n1_ n2_; (try clear hb); (try clear hb2); (try clear hk); (try clear hi); (try clear ho0)) | ((with_reducible refine gate_callee (f := 22) rfl ?_); refine goesL_ (some 88) rfl rfl Try.func22 (by kernel_rfl) rfl #[.slice Ao22 x8_3.length co22, .int .i64 a1, .int .i64 a2] rfl (by (try simp only [List.map_toArray, List.map_cons, List.map_nil]); first | done | rfl | (simp only [List.length_drop, List.length_take]; rfl)) ?_; (with_reducible refine (kinds_Same.calls k3 _ _ x8_3 a1 a2 t219 _ ?side1 ?side2 A41.out).mono ?_); (case side1 => repeat (first | exact (Kd.S_reads' HO_8.out).2.2 | (with_reducible refine Kd.C_alloc ?_ _) | (with_reducible refine Kd.C_drewN ?_ _) | (with_reducible refine Kd.C_drew ?_))); (case side2 => exact (Kd.S_reads' HO_8.out).2.1); rintro e w44 ⟨rfl, hb⟩; refine ⟨_, rfl, ?_⟩; have n0_ := Aside0.mk (Kd.S_below (by (with_reducible repeat (first | apply Kd.S_alloc | apply Kd.S_drewN | apply Kd.S_drew)); exact HO_8.out) hb); have n1_ := Aside0.mk (Kd.S_below (by (with_reducible repeat (first | apply Kd.S_alloc | apply Kd.S_drewN | apply Kd.S_drew)); exact HO218.out) hb); have n2_ := Aside0.mk (below_step (by repeat (first | (with_reducible first | exact HB.out | apply below_alloc | apply pw_below_drewN | apply below_drew1) | exact HB.out)) hb); clear HO_8; clear HO218; clear HB; have HO_8 := n0_; have HO218 := n1_; have HB := n2_; clear n0_ n1_ n2_; (try clear hb); (try clear hb2); (try clear hk); (try clear hi); obtain ⟨Ao45, co45, eo45⟩ := Kd.S_slice HO218.out; subst eo45) | ((with_reducible refine gate_callee (f := 23) rfl ?_); refine goesL_ (some 92) rfl rfl Try.func23 (by kernel_rfl) rfl #[.slice Ao45 t216.length co45, .int .i64 a1, .int .i64 a2] rfl (by (try simp only [List.map_toArray, List.map_cons, List.map_nil]); first | done | rfl | (simp only [List.length_drop, List.length_take]; rfl)) ?_; (with_reducible refine (squintref04_Same.calls k3 _ _ t216 a1 a2 t220 _ ?side1 ?side2 A42.out).mono ?_); (case side1 => repeat (first | exact (Kd.S_reads' HO218.out).2.2 | (with_reducible refine Kd.C_alloc ?_ _) | (with_reducible refine Kd.C_drewN ?_ _) | (with_reducible refine Kd.C_drew ?_))); (case side2 => exact (Kd.S_reads' HO218.out).2.1); rintro e w46 ⟨rfl, hb⟩; refine ⟨_, rfl, ?_⟩; have n0_ := Aside0.mk (Kd.S_below (by (with_reducible repeat (first | apply Kd.S_alloc | apply Kd.S_drewN | apply Kd.S_drew)); exact HO_8.out) hb); have n1_ := Aside0.mk (Kd.S_below (by (with_reducible repeat (first | apply Kd.S_alloc | apply Kd.S_drewN | apply Kd.S_drew)); exact HO218.out) hb); have n2_ := Aside0.mk (below_step (by repeat (first | (with_reducible first | exact HB.out | apply below_alloc | apply pw_below_drewN | apply below_drew1) | exact HB.out)) hb); clear HO_8; clear HO218; clear HB; have HO_8 := n0_; have HO218 := n1_; have HB := n2_; clear n0_ n1_ n2_; (try clear hb); (try clear hb2); (try clear hk); (try clear hi)))
                    go_ret
                    exact ⟨by first | rfl | (simp [errW_none, errW_some] <;> rfl) | (simp [*, errW_none, errW_some] <;> rfl), by repeat (first | (with_reducible first | exact HB.out | apply below_alloc | apply pw_below_drewN | apply below_drew1) | exact HB.out)⟩

end Go.Proofs.Ytapagakfckjhdaa.PKindsSame
