-- written for this claim over a table of functions with stand-ins
import Derived.Test.YtapagakfckjhdaaPKindsSamex0
import Derived.Test.YtapagakfckjhdaaMps
import Derived.RegionTactic
import Derived.ChangeAlike
namespace Go.Proofs.Ytapagakfckjhdaa.PKindsSame
open Go.RowKit Go.Proofs.YtapagakfckjhdaaW.PrintWords Go.Proofs.YtapagakfckjhdaaW.PrintLast Go.Proofs.YtapagakfckjhdaaW.PrintMore
attribute [local go_sem] max2_int min2_int max_two min_two max_three min_three max_four min_four   -- for this text's walks alone
set_option linter.unusedVariables false
set_option linter.unusedSimpArgs false

/-! ### kinds_right: function 30 -/
mutual
def kinds_right.j2 : Nat → Int → Bool → Int → List Int → Bool → Option (Bool)
  | 0, _, _, _, _, _ => none
  | k + 1, x1, x6, x142000, x142001, x142002 => kinds_right.l0 k x1 x6 x142001 (x142001.length : Int) 0 x142000 x142001 x142002
def kinds_right.l0 : Nat → Int → Bool → List Int → Int → Int → Int → List Int → Bool → Option (Bool)
  | 0, _, _, _, _, _, _, _, _ => none
  | k + 1, x1, x6, x38, x39, x40, x142000, x142001, x142002 => if x40 < x39 then (if 0 ≤ x40 then (if x40 < (x38.length : Int) then (if x6 = true then (if (rd x38 x40) ≥ 0 then (kinds_right.l0 k x1 (decide ((rd x38 x40) < x1)) x38 x39 (wrap64 (x40 + 1)) x142000 x142001 x142002) else (kinds_right.l0 k x1 false x38 x39 (wrap64 (x40 + 1)) x142000 x142001 x142002)) else (kinds_right.l0 k x1 false x38 x39 (wrap64 (x40 + 1)) x142000 x142001 x142002)) else (none)) else (none)) else (if x6 = true then (if x142000 = 6 then (some true) else (some (!x142002))) else (some false))
def kinds_right.j0 : Nat → Int → Int → Bool → Int → Bool → Int → List Int → Bool → Option (Bool)
  | 0, _, _, _, _, _, _, _, _ => none
  | k + 1, x1, x5, x6, x13, x14, x142000, x142001, x142002 => if x14 = true then (kinds_right.j2 k x1 (x5 == 0) x142000 x142001 x142002) else (if x13 = 3 then (kinds_right.j1 k x1 x5 x6 x13 (x13 == 3) x142000 x142001 x142002) else (kinds_right.j1 k x1 x5 x6 x13 (x13 == 5) x142000 x142001 x142002))
def kinds_right.j1 : Nat → Int → Int → Bool → Int → Bool → Int → List Int → Bool → Option (Bool)
  | 0, _, _, _, _, _, _, _, _ => none
  | k + 1, x1, x5, x6, x13, x19, x142000, x142001, x142002 => if x19 = true then (kinds_right.j2 k x1 (x5 == 1) x142000 x142001 x142002) else (if x13 = 4 then (kinds_right.j2 k x1 (decide (x5 ≥ 2)) x142000 x142001 x142002) else (if x13 = 6 then (if x5 ≥ 1 then (kinds_right.j2 k x1 true x142000 x142001 x142002) else (kinds_right.j2 k x1 (!x142002) x142000 x142001 x142002)) else (kinds_right.j2 k x1 x6 x142000 x142001 x142002)))
end
def kinds_right.f (k : Nat) (a0_0 : Int) (l0_1 : List Int) (a0_2 : Bool) (a1 : Int) : Option (Bool) := if a0_0 = 1 then (kinds_right.j0 k a1 (l0_1.length : Int) false a0_0 (a0_0 == 1) a0_0 l0_1 a0_2) else (kinds_right.j0 k a1 (l0_1.length : Int) false a0_0 (a0_0 == 2) a0_0 l0_1 a0_2)
theorem kinds_right.mono_l : ∀ k, (∀ y0 y1 y2 y3 y4, LeO (kinds_right.j2 k y0 y1 y2 y3 y4) (kinds_right.j2 (k + 1) y0 y1 y2 y3 y4)) ∧ (∀ y0 y1 y2 y3 y4 y5 y6 y7, LeO (kinds_right.l0 k y0 y1 y2 y3 y4 y5 y6 y7) (kinds_right.l0 (k + 1) y0 y1 y2 y3 y4 y5 y6 y7)) ∧ (∀ y0 y1 y2 y3 y4 y5 y6 y7, LeO (kinds_right.j0 k y0 y1 y2 y3 y4 y5 y6 y7) (kinds_right.j0 (k + 1) y0 y1 y2 y3 y4 y5 y6 y7)) ∧ (∀ y0 y1 y2 y3 y4 y5 y6 y7, LeO (kinds_right.j1 k y0 y1 y2 y3 y4 y5 y6 y7) (kinds_right.j1 (k + 1) y0 y1 y2 y3 y4 y5 y6 y7))
  | 0 => ⟨fun _ _ _ _ _ r h => by simp [kinds_right.j2] at h, fun _ _ _ _ _ _ _ _ r h => by simp [kinds_right.l0] at h, fun _ _ _ _ _ _ _ _ r h => by simp [kinds_right.j0] at h, fun _ _ _ _ _ _ _ _ r h => by simp [kinds_right.j1] at h⟩
  | k + 1 => by
    obtain ⟨ih0, ih1, ih2, ih3⟩ := kinds_right.mono_l k
    refine ⟨?_, ?_, ?_, ?_⟩
    · intro y0 y1 y2 y3 y4
      unfold kinds_right.j2
      repeat' first
      | (with_reducible exact ih0 _ _ _ _ _)
      | (with_reducible exact ih1 _ _ _ _ _ _ _ _)
      | (with_reducible exact ih2 _ _ _ _ _ _ _ _)
      | (with_reducible exact ih3 _ _ _ _ _ _ _ _)
      | (with_reducible exact LeO.refl _)
      | (with_reducible exact LeO.none _)
      | (with_reducible refine LeO.ite ?_ ?_)
      | (with_reducible refine LeO.bind ?_ (fun _ => ?_))
      | exact ih0 _ _ _ _ _
      | exact ih1 _ _ _ _ _ _ _ _
      | exact ih2 _ _ _ _ _ _ _ _
      | exact ih3 _ _ _ _ _ _ _ _
      | exact LeO.none _
      | refine LeO.ite ?_ ?_
      | refine LeO.bind ?_ (fun _ => ?_)
    · intro y0 y1 y2 y3 y4 y5 y6 y7
      unfold kinds_right.l0
      repeat' first
      | (with_reducible exact ih0 _ _ _ _ _)
      | (with_reducible exact ih1 _ _ _ _ _ _ _ _)
      | (with_reducible exact ih2 _ _ _ _ _ _ _ _)
      | (with_reducible exact ih3 _ _ _ _ _ _ _ _)
      | (with_reducible exact LeO.refl _)
      | (with_reducible exact LeO.none _)
      | (with_reducible refine LeO.ite ?_ ?_)
      | (with_reducible refine LeO.bind ?_ (fun _ => ?_))
      | exact ih0 _ _ _ _ _
      | exact ih1 _ _ _ _ _ _ _ _
      | exact ih2 _ _ _ _ _ _ _ _
      | exact ih3 _ _ _ _ _ _ _ _
      | exact LeO.none _
      | refine LeO.ite ?_ ?_
      | refine LeO.bind ?_ (fun _ => ?_)
    · intro y0 y1 y2 y3 y4 y5 y6 y7
      unfold kinds_right.j0
      repeat' first
      | (with_reducible exact ih0 _ _ _ _ _)
      | (with_reducible exact ih1 _ _ _ _ _ _ _ _)
      | (with_reducible exact ih2 _ _ _ _ _ _ _ _)
      | (with_reducible exact ih3 _ _ _ _ _ _ _ _)
      | (with_reducible exact LeO.refl _)
      | (with_reducible exact LeO.none _)
      | (with_reducible refine LeO.ite ?_ ?_)
      | (with_reducible refine LeO.bind ?_ (fun _ => ?_))
      | exact ih0 _ _ _ _ _
      | exact ih1 _ _ _ _ _ _ _ _
      | exact ih2 _ _ _ _ _ _ _ _
      | exact ih3 _ _ _ _ _ _ _ _
      | exact LeO.none _
      | refine LeO.ite ?_ ?_
      | refine LeO.bind ?_ (fun _ => ?_)
    · intro y0 y1 y2 y3 y4 y5 y6 y7
      unfold kinds_right.j1
      repeat' first
      | (with_reducible exact ih0 _ _ _ _ _)
      | (with_reducible exact ih1 _ _ _ _ _ _ _ _)
      | (with_reducible exact ih2 _ _ _ _ _ _ _ _)
      | (with_reducible exact ih3 _ _ _ _ _ _ _ _)
      | (with_reducible exact LeO.refl _)
      | (with_reducible exact LeO.none _)
      | (with_reducible refine LeO.ite ?_ ?_)
      | (with_reducible refine LeO.bind ?_ (fun _ => ?_))
      | exact ih0 _ _ _ _ _
      | exact ih1 _ _ _ _ _ _ _ _
      | exact ih2 _ _ _ _ _ _ _ _
      | exact ih3 _ _ _ _ _ _ _ _
      | exact LeO.none _
      | refine LeO.ite ?_ ?_
      | refine LeO.bind ?_ (fun _ => ?_)
theorem kinds_right.mono : ∀ a0 a1 a2 a3 k, LeO (kinds_right.f k a0 a1 a2 a3) (kinds_right.f (k + 1) a0 a1 a2 a3) := by
  intro a0 a1 a2 a3 k
  obtain ⟨ih0, ih1, ih2, ih3⟩ := kinds_right.mono_l k
  unfold kinds_right.f
  repeat' first
      | (with_reducible exact ih0 _ _ _ _ _)
      | (with_reducible exact ih1 _ _ _ _ _ _ _ _)
      | (with_reducible exact ih2 _ _ _ _ _ _ _ _)
      | (with_reducible exact ih3 _ _ _ _ _ _ _ _)
      | (with_reducible exact LeO.refl _)
      | (with_reducible exact LeO.none _)
      | (with_reducible refine LeO.ite ?_ ?_)
      | (with_reducible refine LeO.bind ?_ (fun _ => ?_))
      | exact ih0 _ _ _ _ _
      | exact ih1 _ _ _ _ _ _ _ _
      | exact ih2 _ _ _ _ _ _ _ _
      | exact ih3 _ _ _ _ _ _ _ _
      | exact LeO.none _
      | refine LeO.ite ?_ ?_
      | refine LeO.bind ?_ (fun _ => ?_)
set_option maxHeartbeats 8000000 in
set_option maxRecDepth 100000 in
theorem kinds_right.calls (k : Nat) (a0_0 : Int) (A0_1 : Option Addr) (c0_1 : Nat) (l0_1 : List Int) (a0_2 : Bool) (a1 : Int) (r : Bool) (w : World) (hr0_1 : Kd.C (Kd.int .i64) w A0_1 l0_1.length l0_1) (hc0_1 : l0_1.length ≤ c0_1) (h : kinds_right.f k a0_0 l0_1 a0_2 a1 = some r) :
    Calls Try.prog 30 #[.agg #[.int .i64 a0_0, .slice A0_1 l0_1.length c0_1, .bool a0_2], .int .i64 a1] w fun e w' => e = .returned (.bool r) ∧ Below w.heap.size w w' := by
  have hu43 := Try.underlying43
  have HR0_1 := Aside0.mk hr0_1
  have HC0_1 := Aside0.mk hc0_1
  clear hr0_1 hc0_1
  have HB := Aside0.mk (Below.refl w.heap.size w)
  have H : (if a0_0 = 1 then (kinds_right.j0 k a1 (l0_1.length : Int) false a0_0 (a0_0 == 1) a0_0 l0_1 a0_2) else (kinds_right.j0 k a1 (l0_1.length : Int) false a0_0 (a0_0 == 2) a0_0 l0_1 a0_2)) = some r := h
  clear h
  have HC3 := Aside0.mk H
  clear H
  go_enter Try.func30, Try.ntmps30
  go_upto_block 0 with (first | ((with_reducible refine gate_dst (N := 2) rfl ?_); refine box_event ?hg (N := 2) ?hd (cs := #[.int .i64 a0_0, .slice A0_1 l0_1.length c0_1, .bool a0_2]) (t := 43) ?hr ?_; (case hd => rfl); (case hg => rfl); (case hr => first | (go_simp; done) | (go_simp; rfl)); intro gb141 hg w4 hbox hb; have n0_ := Aside0.mk (below_step (by repeat (first | (with_reducible first | exact HB.out | apply below_alloc | apply pw_below_drewN | apply below_drew1) | exact HB.out)) hb); have n1_ := Aside0.mk (hbox); have n2_ := Aside0.mk ((by rw [hg]; exact (below_size (by repeat (first | (with_reducible first | exact HB.out | apply below_alloc | apply pw_below_drewN | apply below_drew1) | exact HB.out))) : w.heap.size ≤ gb141)); have n3_ := Aside0.mk ((by rw [hg]; exact (below_size (by repeat (first | (with_reducible first | exact HB.out | apply below_alloc | apply pw_below_drewN | apply below_drew1) | exact HB.out))) : w.heap.size ≤ gb141)); clear HB; have HB := n0_; have BK141 := n1_; have GW141 := n2_; have GE141 := n3_; clear n0_ n1_ n2_ n3_; clear hb hbox hg; have hcz5_0 : w4.cell? ⟨gb141, 0, none⟩ = some (.int .i64 a0_0) := (blk_cell BK141.out 0).trans rfl; have hcz5_1 : w4.cell? ⟨gb141, 1, none⟩ = some (.slice A0_1 l0_1.length c0_1) := (blk_cell BK141.out 1).trans rfl; have hcz5_2 : w4.cell? ⟨gb141, 2, none⟩ = some (.bool a0_2) := (blk_cell BK141.out 2).trans rfl; have hfz5_0 := blk_frozen BK141.out 0; have hfz5_1 := blk_frozen BK141.out 1; have hfz5_2 := blk_frozen BK141.out 2))
  (try simp only [Act.put, List.setIfInBounds_toArray, List.set_cons_zero, List.set_cons_succ])
  go_cut [6] (fun v6 wc => ∃ (kq : Nat) (x6_2 : Bool), v6 = .bool x6_2 ∧ Aside0 (kinds_right.j2 kq a1 x6_2 a0_0 l0_1 a0_2 = some r) ∧ Aside0 (kq ≤ k) ∧ Aside0 (wc.heap[gb141]? = some (.cells #[.int .i64 a0_0, (.slice A0_1 l0_1.length c0_1), .bool a0_2] 43 (0, 0))) ∧ Aside0 (Below w.heap.size w wc))
  case first =>
    have H := HC3.out
    clear HC3
    have HC6 := Aside0.mk H
    clear H
    go_upto_if 14 with (fail)
    go_cut [14] (fun v14 wc => ∃ (kq : Nat) (x14_5 : Bool), v14 = .bool x14_5 ∧ Aside0 (kinds_right.j0 kq a1 (l0_1.length : Int) false a0_0 x14_5 a0_0 l0_1 a0_2 = some r) ∧ Aside0 (kq ≤ k) ∧ Aside0 (wc.heap[gb141]? = some (.cells #[.int .i64 a0_0, (.slice A0_1 l0_1.length c0_1), .bool a0_2] 43 (0, 0))) ∧ Aside0 (Below w.heap.size w wc))
    case first =>
      have H := HC6.out
      clear HC6
      by_cases c7 : a0_0 = 1
      · rw [if_pos c7] at H
        have c7b0 : (a0_0 == 1) = true := beq_iff_eq.mpr c7
        have c7b1 : (a0_0 != 1) = false := bne_eq_false_iff_eq.mpr c7
        clear c7
        (first | rw [c7b0] | (simp only [i64_w, i32_w]; rw [c7b0]) | skip)
        have H' := Aside0.mk H
        clear H
        go_wp2
        go_meet
        case rel => exact ⟨_, ((a0_0 == 1)), (by first | rfl | (simp; done) | (simp [*]; done)), H', ⟨by first | omega | exact Nat.le_refl _⟩, ⟨by (with_reducible repeat (first | refine blk_drewN ?_ _ | refine blk_drew ?_ | refine blk_alloc ?_ _)); exact BK141.out⟩, ⟨by repeat (first | (with_reducible first | exact HB.out | apply below_alloc | apply pw_below_drewN | apply below_drew1 | refine below_set ?_ GE141.out) | exact HB.out)⟩⟩
      · rw [if_neg c7] at H
        have c7b0 : (a0_0 == 1) = false := beq_eq_false_iff_ne.mpr c7
        have c7b1 : (a0_0 != 1) = true := bne_iff_ne.mpr c7
        (first | rw [c7b0] | (simp only [i64_w, i32_w]; rw [c7b0]) | skip)
        have H' := Aside0.mk H
        clear H
        go_wp2
        go_meet
        case rel => exact ⟨_, ((a0_0 == 2)), (by first | rfl | (simp; done) | (simp [*]; done)), H', ⟨by first | omega | exact Nat.le_refl _⟩, ⟨by (with_reducible repeat (first | refine blk_drewN ?_ _ | refine blk_drew ?_ | refine blk_alloc ?_ _)); exact BK141.out⟩, ⟨by repeat (first | (with_reducible first | exact HB.out | apply below_alloc | apply pw_below_drewN | apply below_drew1 | refine below_set ?_ GE141.out) | exact HB.out)⟩⟩
    case rest =>
      clear HC6
      try clear p2
      try clear c3
      try clear c7
      try clear c7b0
      try clear c7b1
      try clear hcz5_0
      try clear hcz5_1
      try clear hcz5_2
      try clear hfz5_0
      try clear hfz5_1
      try clear hfz5_2
      obtain ⟨kq, x14_5, rfl, HA, HJ5, BK141, HB⟩ := hcut
      cases kq with
      | zero => exact absurd HA.out (by simp [kinds_right.j0])
      | succ kj5 =>
        have H := HA.out
        clear HA
        simp only [kinds_right.j0] at H
        by_cases c8 : x14_5 = true
        · subst c8
          have H1 : (kinds_right.j2 kj5 a1 ((l0_1.length : Int) == 0) a0_0 l0_1 a0_2) = some r := by rw [if_pos rfl] at H; exact H
          clear H
          have H := H1
          clear H1
          have H' := Aside0.mk H
          clear H
          go_wp2
          go_meet
          case rel => exact ⟨_, (((l0_1.length : Int) == 0)), (by first | rfl | (simp; done) | (simp [*]; done)), H', ⟨by have := HJ5.out; first | omega | exact Nat.le_refl _⟩, ⟨by (with_reducible repeat (first | refine blk_drewN ?_ _ | refine blk_drew ?_ | refine blk_alloc ?_ _)); exact BK141.out⟩, ⟨by repeat (first | (with_reducible first | exact HB.out | apply below_alloc | apply pw_below_drewN | apply below_drew1 | refine below_set ?_ GE141.out) | exact HB.out)⟩⟩
        · replace c8 := Bool.eq_false_iff.mpr c8
          subst c8
          have H1 : (if a0_0 = 3 then (kinds_right.j1 kj5 a1 (l0_1.length : Int) false a0_0 (a0_0 == 3) a0_0 l0_1 a0_2) else (kinds_right.j1 kj5 a1 (l0_1.length : Int) false a0_0 (a0_0 == 5) a0_0 l0_1 a0_2)) = some r := by rw [if_neg (show ¬ (false = true) by decide)] at H; exact H
          clear H
          have H := H1
          clear H1
          have HC9 := Aside0.mk H
          clear H
          go_upto_if 19 with (fail)
          go_cut [19] (fun v19 wc => ∃ (kq : Nat) (x19_8 : Bool), v19 = .bool x19_8 ∧ Aside0 (kinds_right.j1 kq a1 (l0_1.length : Int) false a0_0 x19_8 a0_0 l0_1 a0_2 = some r) ∧ Aside0 (kq ≤ kj5) ∧ Aside0 (wc.heap[gb141]? = some (.cells #[.int .i64 a0_0, (.slice A0_1 l0_1.length c0_1), .bool a0_2] 43 (0, 0))) ∧ Aside0 (Below w.heap.size w wc))
          case first =>
            have H := HC9.out
            clear HC9
            by_cases c10 : a0_0 = 3
            · rw [if_pos c10] at H
              have c10b0 : (a0_0 == 3) = true := beq_iff_eq.mpr c10
              have c10b1 : (a0_0 != 3) = false := bne_eq_false_iff_eq.mpr c10
              clear c10
              (first | rw [c10b0] | (simp only [i64_w, i32_w]; rw [c10b0]) | skip)
              have H' := Aside0.mk H
              clear H
              go_wp2
              go_meet
              case rel => exact ⟨_, ((a0_0 == 3)), (by first | rfl | (simp; done) | (simp [*]; done)), H', ⟨by have := HJ5.out; first | omega | exact Nat.le_refl _⟩, ⟨by (with_reducible repeat (first | refine blk_drewN ?_ _ | refine blk_drew ?_ | refine blk_alloc ?_ _)); exact BK141.out⟩, ⟨by repeat (first | (with_reducible first | exact HB.out | apply below_alloc | apply pw_below_drewN | apply below_drew1 | refine below_set ?_ GE141.out) | exact HB.out)⟩⟩
            · rw [if_neg c10] at H
              have c10b0 : (a0_0 == 3) = false := beq_eq_false_iff_ne.mpr c10
              have c10b1 : (a0_0 != 3) = true := bne_iff_ne.mpr c10
              (first | rw [c10b0] | (simp only [i64_w, i32_w]; rw [c10b0]) | skip)
              have H' := Aside0.mk H
              clear H
              go_wp2
              go_meet
              case rel => exact ⟨_, ((a0_0 == 5)), (by first | rfl | (simp; done) | (simp [*]; done)), H', ⟨by have := HJ5.out; first | omega | exact Nat.le_refl _⟩, ⟨by (with_reducible repeat (first | refine blk_drewN ?_ _ | refine blk_drew ?_ | refine blk_alloc ?_ _)); exact BK141.out⟩, ⟨by repeat (first | (with_reducible first | exact HB.out | apply below_alloc | apply pw_below_drewN | apply below_drew1 | refine below_set ?_ GE141.out) | exact HB.out)⟩⟩
          case rest =>
            clear HC9
            try clear c1
            try clear p2
            try clear c3
            try clear c7
            try clear c7b0
            try clear c7b1
            try clear c8
            try clear c10
            try clear c10b0
            try clear c10b1
            try clear hcz5_0
            try clear hcz5_1
            try clear hcz5_2
            try clear hfz5_0
            try clear hfz5_1
            try clear hfz5_2
            try clear p2
            obtain ⟨kq, x19_8, rfl, HA, HJ8, BK141, HB⟩ := hcut
            cases kq with
            | zero => exact absurd HA.out (by simp [kinds_right.j1])
            | succ kj8 =>
              have H := HA.out
              clear HA
              simp only [kinds_right.j1] at H
              by_cases c11 : x19_8 = true
              · subst c11
                have H1 : (kinds_right.j2 kj8 a1 ((l0_1.length : Int) == 1) a0_0 l0_1 a0_2) = some r := by rw [if_pos rfl] at H; exact H
                clear H
                have H := H1
                clear H1
                have H' := Aside0.mk H
                clear H
                go_wp2
                go_meet
                case rel => exact ⟨_, (((l0_1.length : Int) == 1)), (by first | rfl | (simp; done) | (simp [*]; done)), H', ⟨by have := HJ5.out; have := HJ8.out; first | omega | exact Nat.le_refl _⟩, ⟨by (with_reducible repeat (first | refine blk_drewN ?_ _ | refine blk_drew ?_ | refine blk_alloc ?_ _)); exact BK141.out⟩, ⟨by repeat (first | (with_reducible first | exact HB.out | apply below_alloc | apply pw_below_drewN | apply below_drew1 | refine below_set ?_ GE141.out) | exact HB.out)⟩⟩
              · replace c11 := Bool.eq_false_iff.mpr c11
                subst c11
                have H1 : (if a0_0 = 4 then (kinds_right.j2 kj8 a1 (decide ((l0_1.length : Int) ≥ 2)) a0_0 l0_1 a0_2) else (if a0_0 = 6 then (if (l0_1.length : Int) ≥ 1 then (kinds_right.j2 kj8 a1 true a0_0 l0_1 a0_2) else (kinds_right.j2 kj8 a1 (!a0_2) a0_0 l0_1 a0_2)) else (kinds_right.j2 kj8 a1 false a0_0 l0_1 a0_2))) = some r := by rw [if_neg (show ¬ (false = true) by decide)] at H; exact H
                clear H
                have H := H1
                clear H1
                by_cases c12 : a0_0 = 4
                · rw [if_pos c12] at H
                  have c12b0 : (a0_0 == 4) = true := beq_iff_eq.mpr c12
                  have c12b1 : (a0_0 != 4) = false := bne_eq_false_iff_eq.mpr c12
                  clear c12
                  have H' := Aside0.mk H
                  clear H
                  go_wp2
                  go_meet
                  case rel => exact ⟨_, (decide ((l0_1.length : Int) ≥ 2)), (by first | rfl | (simp; done) | (simp [*]; done)), H', ⟨by have := HJ5.out; have := HJ8.out; first | omega | exact Nat.le_refl _⟩, ⟨by (with_reducible repeat (first | refine blk_drewN ?_ _ | refine blk_drew ?_ | refine blk_alloc ?_ _)); exact BK141.out⟩, ⟨by repeat (first | (with_reducible first | exact HB.out | apply below_alloc | apply pw_below_drewN | apply below_drew1 | refine below_set ?_ GE141.out) | exact HB.out)⟩⟩
                · rw [if_neg c12] at H
                  have c12b0 : (a0_0 == 4) = false := beq_eq_false_iff_ne.mpr c12
                  have c12b1 : (a0_0 != 4) = true := bne_iff_ne.mpr c12
                  by_cases c13 : a0_0 = 6
                  · rw [if_pos c13] at H
                    have c13b0 : (a0_0 == 6) = true := beq_iff_eq.mpr c13
                    have c13b1 : (a0_0 != 6) = false := bne_eq_false_iff_eq.mpr c13
                    clear c13
                    by_cases c14 : (l0_1.length : Int) ≥ 1
                    · rw [if_pos c14] at H
                      have c14b0 : decide (1 ≤ (l0_1.length : Int)) = true := decide_eq_true c14
                      have c14b1 : decide (1 ≤ l0_1.length) = true := decide_eq_true (by omega)
                      clear c14
                      have H' := Aside0.mk H
                      clear H
                      go_wp2
                      go_meet
                      case rel => exact ⟨_, (true), (by first | rfl | (simp; done) | (simp [*]; done)), H', ⟨by have := HJ5.out; have := HJ8.out; first | omega | exact Nat.le_refl _⟩, ⟨by (with_reducible repeat (first | refine blk_drewN ?_ _ | refine blk_drew ?_ | refine blk_alloc ?_ _)); exact BK141.out⟩, ⟨by repeat (first | (with_reducible first | exact HB.out | apply below_alloc | apply pw_below_drewN | apply below_drew1 | refine below_set ?_ GE141.out) | exact HB.out)⟩⟩
                    · rw [if_neg c14] at H
                      have c14b0 : decide (1 ≤ (l0_1.length : Int)) = false := decide_eq_false c14
                      have c14b1 : decide (1 ≤ l0_1.length) = false := decide_eq_false (by omega)
                      clear c14
                      have H' := Aside0.mk H
                      clear H
                      have hcz15_0 : wc.cell? ⟨gb141, 0, none⟩ = some (.int .i64 a0_0) := (blk_cell BK141.out 0).trans rfl
                      have hcz15_1 : wc.cell? ⟨gb141, 1, none⟩ = some (.slice A0_1 l0_1.length c0_1) := (blk_cell BK141.out 1).trans rfl
                      have hcz15_2 : wc.cell? ⟨gb141, 2, none⟩ = some (.bool a0_2) := (blk_cell BK141.out 2).trans rfl
                      have hfz15_0 := blk_frozen BK141.out 0
                      have hfz15_1 := blk_frozen BK141.out 1
                      have hfz15_2 := blk_frozen BK141.out 2
                      go_wp2
                      go_meet
                      case rel => exact ⟨_, (!a0_2), (by first | rfl | (simp; done) | (simp [*]; done)), H', ⟨by have := HJ5.out; have := HJ8.out; first | omega | exact Nat.le_refl _⟩, ⟨by (with_reducible repeat (first | refine blk_drewN ?_ _ | refine blk_drew ?_ | refine blk_alloc ?_ _)); exact BK141.out⟩, ⟨by repeat (first | (with_reducible first | exact HB.out | apply below_alloc | apply pw_below_drewN | apply below_drew1 | refine below_set ?_ GE141.out) | exact HB.out)⟩⟩
                  · rw [if_neg c13] at H
                    have c13b0 : (a0_0 == 6) = false := beq_eq_false_iff_ne.mpr c13
                    have c13b1 : (a0_0 != 6) = true := bne_iff_ne.mpr c13
                    have H' := Aside0.mk H
                    clear H
                    go_wp2
                    go_meet
                    case rel => exact ⟨_, (false), (by first | rfl | (simp; done) | (simp [*]; done)), H', ⟨by have := HJ5.out; have := HJ8.out; first | omega | exact Nat.le_refl _⟩, ⟨by (with_reducible repeat (first | refine blk_drewN ?_ _ | refine blk_drew ?_ | refine blk_alloc ?_ _)); exact BK141.out⟩, ⟨by repeat (first | (with_reducible first | exact HB.out | apply below_alloc | apply pw_below_drewN | apply below_drew1 | refine below_set ?_ GE141.out) | exact HB.out)⟩⟩
  case rest =>
    clear HC3
    try clear c1
    try clear p2
    try clear c3
    try clear c7
    try clear c7b0
    try clear c7b1
    try clear c8
    try clear c10
    try clear c10b0
    try clear c10b1
    try clear c11
    try clear c12
    try clear c12b0
    try clear c12b1
    try clear c13
    try clear c13b0
    try clear c13b1
    try clear c14
    try clear c14b0
    try clear c14b1
    try clear hcz15_0
    try clear hcz15_1
    try clear hcz15_2
    try clear hcz5_0
    try clear hcz5_1
    try clear hcz5_2
    try clear hfz15_0
    try clear hfz15_1
    try clear hfz15_2
    try clear hfz5_0
    try clear hfz5_1
    try clear hfz5_2
    try clear p2
    obtain ⟨kq, x6_2, rfl, HA, HJ2, BK141, HB⟩ := hcut
    cases kq with
    | zero => exact absurd HA.out (by simp [kinds_right.j2])
    | succ kj2 =>
      have H := HA.out
      clear HA
      simp only [kinds_right.j2] at H
      have H' := Aside0.mk H
      clear H
      have hcz16_0 : wc.cell? ⟨gb141, 0, none⟩ = some (.int .i64 a0_0) := (blk_cell BK141.out 0).trans rfl
      have hcz16_1 : wc.cell? ⟨gb141, 1, none⟩ = some (.slice A0_1 l0_1.length c0_1) := (blk_cell BK141.out 1).trans rfl
      have hcz16_2 : wc.cell? ⟨gb141, 2, none⟩ = some (.bool a0_2) := (blk_cell BK141.out 2).trans rfl
      have hfz16_0 := blk_frozen BK141.out 0
      have hfz16_1 := blk_frozen BK141.out 1
      have hfz16_2 := blk_frozen BK141.out 2
      go_wp2
      go_loopg [6, 40] kj2 (fun kq v6 v40 w' => ∃ (x6_2 : Bool) (x40_2 : Int), v6 = .bool x6_2 ∧ v40 = .int .i64 x40_2 ∧ Aside0 (kinds_right.l0 kq a1 x6_2 l0_1 (l0_1.length : Int) x40_2 a0_0 l0_1 a0_2 = some r) ∧ Aside0 (kq ≤ kj2) ∧ Aside0 (w'.heap[gb141]? = some (.cells #[.int .i64 a0_0, (.slice A0_1 l0_1.length c0_1), .bool a0_2] 43 (0, 0))) ∧ Aside0 (Below w.heap.size w w'))
      case atStart => exact ⟨(x6_2), (0), (by first | rfl | (simp; done) | (simp [*]; done)), (by first | rfl | (simp; done) | (simp [*]; done)), H', ⟨Nat.le_refl _⟩, ⟨by (with_reducible repeat (first | refine blk_drewN ?_ _ | refine blk_drew ?_ | refine blk_alloc ?_ _)); exact BK141.out⟩, ⟨by repeat (first | (with_reducible first | exact HB.out | apply below_alloc | apply pw_below_drewN | apply below_drew1 | refine below_set ?_ GE141.out) | exact HB.out)⟩⟩
      case round =>
        clear H'
        try clear c1
        try clear p2
        try clear c3
        try clear c7
        try clear c7b0
        try clear c7b1
        try clear c8
        try clear c10
        try clear c10b0
        try clear c10b1
        try clear c11
        try clear c12
        try clear c12b0
        try clear c12b1
        try clear c13
        try clear c13b0
        try clear c13b1
        try clear c14
        try clear c14b0
        try clear c14b1
        try clear hcz15_0
        try clear hcz15_1
        try clear hcz15_2
        try clear hcz16_0
        try clear hcz16_1
        try clear hcz16_2
        try clear hcz5_0
        try clear hcz5_1
        try clear hcz5_2
        try clear hfz15_0
        try clear hfz15_1
        try clear hfz15_2
        try clear hfz16_0
        try clear hfz16_1
        try clear hfz16_2
        try clear hfz5_0
        try clear hfz5_1
        try clear hfz5_2
        try clear p2
        obtain ⟨x6_2, x40_2, rfl, rfl, HA, HK2, BK141, HB⟩ := hrel
        cases gk with
        | zero => exact absurd HA.out (by simp [kinds_right.l0])
        | succ k2 =>
          have H := HA.out
          clear HA
          simp only [kinds_right.l0] at H
          by_cases c17 : x40_2 < (l0_1.length : Int)
          · rw [if_pos c17] at H
            have c17b0 : decide (x40_2 < (l0_1.length : Int)) = true := decide_eq_true c17
            clear c17
            by_cases c18 : 0 ≤ x40_2
            · rw [if_pos c18] at H
              have c18b0 : decide (0 ≤ x40_2) = true := decide_eq_true c18
              clear c18
              by_cases c19 : x40_2 < (l0_1.length : Int)
              · rw [if_pos c19] at H
                have c19b0 : decide (x40_2 < (l0_1.length : Int)) = true := decide_eq_true c19
                clear c19
                by_cases c20 : x6_2 = true
                · subst c20
                  have H1 : (if (rd l0_1 x40_2) ≥ 0 then (kinds_right.l0 k2 a1 (decide ((rd l0_1 x40_2) < a1)) l0_1 (l0_1.length : Int) (wrap64 (x40_2 + 1)) a0_0 l0_1 a0_2) else (kinds_right.l0 k2 a1 false l0_1 (l0_1.length : Int) (wrap64 (x40_2 + 1)) a0_0 l0_1 a0_2)) = some r := by rw [if_pos rfl] at H; exact H
                  clear H
                  have H := H1
                  clear H1
                  by_cases c21 : (rd l0_1 x40_2) ≥ 0
                  · rw [if_pos c21] at H
                    have c21b0 : decide (0 ≤ (rd l0_1 x40_2)) = true := decide_eq_true c21
                    clear c21
                    have H' := Aside0.mk H
                    clear H
                    have p142 : 0 ≤ (x40_2 : Int) := of_decide_eq_true (by first | (with_reducible assumption) | assumption)
                    have q142 : x40_2 < (l0_1.length : Int) := of_decide_eq_true (by first | (with_reducible assumption) | assumption)
                    obtain ⟨ad142, e142, hx142_0⟩ := Kd.at_int HR0_1.out x40_2 p142 q142
                    cases e142
                    replace hx142_0 := (HB.out.cell (World.block_lt_of_cell? w _ hx142_0)).trans hx142_0
                    replace p142 := eq_true p142
                    replace q142 := eq_true q142
                    go_wp2
                    go_roundg k2
                    case measure => have := HJ2.out; have := HK2.out; omega
                    case rel => exact ⟨(decide ((rd l0_1 x40_2) < a1)), (wrap64 (x40_2 + 1)), (by first | rfl | (simp; done) | (simp [*]; done)), (by first | rfl | (simp; done) | (simp [*]; done)), H', ⟨by have := HJ2.out; have := HK2.out; omega⟩, ⟨by (with_reducible repeat (first | refine blk_drewN ?_ _ | refine blk_drew ?_ | refine blk_alloc ?_ _)); exact BK141.out⟩, ⟨by repeat (first | (with_reducible first | exact HB.out | apply below_alloc | apply pw_below_drewN | apply below_drew1 | refine below_set ?_ GE141.out) | exact HB.out)⟩⟩
                  · rw [if_neg c21] at H
                    have c21b0 : decide (0 ≤ (rd l0_1 x40_2)) = false := decide_eq_false c21
                    clear c21
                    have H' := Aside0.mk H
                    clear H
                    have p142 : 0 ≤ (x40_2 : Int) := of_decide_eq_true (by first | (with_reducible assumption) | assumption)
                    have q142 : x40_2 < (l0_1.length : Int) := of_decide_eq_true (by first | (with_reducible assumption) | assumption)
                    obtain ⟨ad142, e142, hx142_0⟩ := Kd.at_int HR0_1.out x40_2 p142 q142
                    cases e142
                    replace hx142_0 := (HB.out.cell (World.block_lt_of_cell? w _ hx142_0)).trans hx142_0
                    replace p142 := eq_true p142
                    replace q142 := eq_true q142
                    go_wp2
                    go_roundg k2
                    case measure => have := HJ2.out; have := HK2.out; omega
                    case rel => exact ⟨(false), (wrap64 (x40_2 + 1)), (by first | rfl | (simp; done) | (simp [*]; done)), (by first | rfl | (simp; done) | (simp [*]; done)), H', ⟨by have := HJ2.out; have := HK2.out; omega⟩, ⟨by (with_reducible repeat (first | refine blk_drewN ?_ _ | refine blk_drew ?_ | refine blk_alloc ?_ _)); exact BK141.out⟩, ⟨by repeat (first | (with_reducible first | exact HB.out | apply below_alloc | apply pw_below_drewN | apply below_drew1 | refine below_set ?_ GE141.out) | exact HB.out)⟩⟩
                · replace c20 := Bool.eq_false_iff.mpr c20
                  subst c20
                  have H1 : (kinds_right.l0 k2 a1 false l0_1 (l0_1.length : Int) (wrap64 (x40_2 + 1)) a0_0 l0_1 a0_2) = some r := by rw [if_neg (show ¬ (false = true) by decide)] at H; exact H
                  clear H
                  have H := H1
                  clear H1
                  have H' := Aside0.mk H
                  clear H
                  have p142 : 0 ≤ (x40_2 : Int) := of_decide_eq_true (by first | (with_reducible assumption) | assumption)
                  have q142 : x40_2 < (l0_1.length : Int) := of_decide_eq_true (by first | (with_reducible assumption) | assumption)
                  obtain ⟨ad142, e142, hx142_0⟩ := Kd.at_int HR0_1.out x40_2 p142 q142
                  cases e142
                  replace hx142_0 := (HB.out.cell (World.block_lt_of_cell? w _ hx142_0)).trans hx142_0
                  replace p142 := eq_true p142
                  replace q142 := eq_true q142
                  go_wp2
                  go_roundg k2
                  case measure => have := HJ2.out; have := HK2.out; omega
                  case rel => exact ⟨(false), (wrap64 (x40_2 + 1)), (by first | rfl | (simp; done) | (simp [*]; done)), (by first | rfl | (simp; done) | (simp [*]; done)), H', ⟨by have := HJ2.out; have := HK2.out; omega⟩, ⟨by (with_reducible repeat (first | refine blk_drewN ?_ _ | refine blk_drew ?_ | refine blk_alloc ?_ _)); exact BK141.out⟩, ⟨by repeat (first | (with_reducible first | exact HB.out | apply below_alloc | apply pw_below_drewN | apply below_drew1 | refine below_set ?_ GE141.out) | exact HB.out)⟩⟩
              · rw [if_neg c19] at H
                exact absurd H (by simp)
            · rw [if_neg c18] at H
              exact absurd H (by simp)
          · rw [if_neg c17] at H
            have c17b0 : decide (x40_2 < (l0_1.length : Int)) = false := decide_eq_false c17
            clear c17
            by_cases c22 : x6_2 = true
            · subst c22
              have H1 : (if a0_0 = 6 then (some true) else (some (!a0_2))) = some r := by rw [if_pos rfl] at H; exact H
              clear H
              have H := H1
              clear H1
              by_cases c23 : a0_0 = 6
              · rw [if_pos c23] at H
                have c23b0 : (a0_0 == 6) = true := beq_iff_eq.mpr c23
                have c23b1 : (a0_0 != 6) = false := bne_eq_false_iff_eq.mpr c23
                clear c23
                obtain rfl := Option.some.inj H
                have hcz24_0 : wr.cell? ⟨gb141, 0, none⟩ = some (.int .i64 a0_0) := (blk_cell BK141.out 0).trans rfl
                have hcz24_1 : wr.cell? ⟨gb141, 1, none⟩ = some (.slice A0_1 l0_1.length c0_1) := (blk_cell BK141.out 1).trans rfl
                have hcz24_2 : wr.cell? ⟨gb141, 2, none⟩ = some (.bool a0_2) := (blk_cell BK141.out 2).trans rfl
                have hfz24_0 := blk_frozen BK141.out 0
                have hfz24_1 := blk_frozen BK141.out 1
                have hfz24_2 := blk_frozen BK141.out 2
                go_wp2
                go_ret
                exact ⟨by first | rfl | (simp [errW_none, errW_some] <;> rfl) | (simp [*, errW_none, errW_some] <;> rfl), by repeat (first | (with_reducible first | exact HB.out | apply below_alloc | apply pw_below_drewN | apply below_drew1 | refine below_set ?_ GE141.out) | exact HB.out)⟩
              · rw [if_neg c23] at H
                have c23b0 : (a0_0 == 6) = false := beq_eq_false_iff_ne.mpr c23
                have c23b1 : (a0_0 != 6) = true := bne_iff_ne.mpr c23
                obtain rfl := Option.some.inj H
                have hcz25_0 : wr.cell? ⟨gb141, 0, none⟩ = some (.int .i64 a0_0) := (blk_cell BK141.out 0).trans rfl
                have hcz25_1 : wr.cell? ⟨gb141, 1, none⟩ = some (.slice A0_1 l0_1.length c0_1) := (blk_cell BK141.out 1).trans rfl
                have hcz25_2 : wr.cell? ⟨gb141, 2, none⟩ = some (.bool a0_2) := (blk_cell BK141.out 2).trans rfl
                have hfz25_0 := blk_frozen BK141.out 0
                have hfz25_1 := blk_frozen BK141.out 1
                have hfz25_2 := blk_frozen BK141.out 2
                go_wp2
                go_ret
                exact ⟨by first | rfl | (simp [errW_none, errW_some] <;> rfl) | (simp [*, errW_none, errW_some] <;> rfl), by repeat (first | (with_reducible first | exact HB.out | apply below_alloc | apply pw_below_drewN | apply below_drew1 | refine below_set ?_ GE141.out) | exact HB.out)⟩
            · replace c22 := Bool.eq_false_iff.mpr c22
              subst c22
              have H1 : (some false) = some r := by rw [if_neg (show ¬ (false = true) by decide)] at H; exact H
              clear H
              have H := H1
              clear H1
              obtain rfl := Option.some.inj H
              go_wp2
              go_ret
              exact ⟨by first | rfl | (simp [errW_none, errW_some] <;> rfl) | (simp [*, errW_none, errW_some] <;> rfl), by repeat (first | (with_reducible first | exact HB.out | apply below_alloc | apply pw_below_drewN | apply below_drew1 | refine below_set ?_ GE141.out) | exact HB.out)⟩

/-! ### kinds_Valid: function 19 -/
def kinds_Valid.l0 : Nat → List (S43) → List (S43) → Int → Int → Option (Bool)
  | 0, _, _, _, _ => none
  | k + 1, x0, x5, x6, x7 => if x7 < x6 then (if 0 ≤ x7 then (if x7 < (x5.length : Int) then ((kinds_right.f k ((rd_T43 x5 x7).f0) ((rd_T43 x5 x7).f1) ((rd_T43 x5 x7).f2) (x0.length : Int)).bind fun t145 => (if t145 = true then (kinds_Valid.l0 k x0 x5 x6 (wrap64 (x7 + 1))) else (some false))) else (none)) else (none)) else (some true)
def kinds_Valid.f (k : Nat) (l0 : List (S43)) : Option (Bool) := kinds_Valid.l0 k l0 l0 (l0.length : Int) 0
theorem kinds_Valid.mono_l : ∀ k, (∀ y0 y1 y2 y3, LeO (kinds_Valid.l0 k y0 y1 y2 y3) (kinds_Valid.l0 (k + 1) y0 y1 y2 y3))
  | 0 => fun _ _ _ _ r h => by simp [kinds_Valid.l0] at h
  | k + 1 => by
    have ih0 := kinds_Valid.mono_l k
    · intro y0 y1 y2 y3
      unfold kinds_Valid.l0
      repeat' first
      | (with_reducible exact ih0 _ _ _ _)
      | (with_reducible exact kinds_right.mono _ _ _ _ _)
      | (with_reducible exact LeO.refl _)
      | (with_reducible exact LeO.none _)
      | (with_reducible refine LeO.ite ?_ ?_)
      | (with_reducible refine LeO.bind ?_ (fun _ => ?_))
      | exact ih0 _ _ _ _
      | exact kinds_right.mono _ _ _ _ _
      | exact LeO.none _
      | refine LeO.ite ?_ ?_
      | refine LeO.bind ?_ (fun _ => ?_)
theorem kinds_Valid.mono : ∀ a0 k, LeO (kinds_Valid.f k a0) (kinds_Valid.f (k + 1) a0) := by
  intro a0 k
  have ih0 := kinds_Valid.mono_l k
  unfold kinds_Valid.f
  repeat' first
      | (with_reducible exact ih0 _ _ _ _)
      | (with_reducible exact kinds_right.mono _ _ _ _ _)
      | (with_reducible exact LeO.refl _)
      | (with_reducible exact LeO.none _)
      | (with_reducible refine LeO.ite ?_ ?_)
      | (with_reducible refine LeO.bind ?_ (fun _ => ?_))
      | exact ih0 _ _ _ _
      | exact kinds_right.mono _ _ _ _ _
      | exact LeO.none _
      | refine LeO.ite ?_ ?_
      | refine LeO.bind ?_ (fun _ => ?_)
set_option maxHeartbeats 8000000 in
set_option maxRecDepth 100000 in
theorem kinds_Valid.calls (k : Nat) (A0 : Option Addr) (c0 : Nat) (l0 : List (S43)) (r : Bool) (w : World) (hr0 : Kd.C k43 w A0 l0.length l0) (hc0 : l0.length ≤ c0) (h : kinds_Valid.f k l0 = some r) :
    Calls Try.prog 19 #[.slice A0 l0.length c0] w fun e w' => e = .returned (.bool r) ∧ Below w.heap.size w w' := by
  have hu43 := Try.underlying43
  have HR0 := Aside0.mk hr0
  have HC0 := Aside0.mk hc0
  clear hr0 hc0
  have HB := Aside0.mk (Below.refl w.heap.size w)
  have H : (kinds_Valid.l0 k l0 l0 (l0.length : Int) 0) = some r := h
  clear h
  have H' := Aside0.mk H
  clear H
  go_enter Try.func19, Try.ntmps19
  go_wp2
  go_loopg [7] k (fun kq v7 w' => ∃ (x7_1 : Int), v7 = .int .i64 x7_1 ∧ Aside0 (kinds_Valid.l0 kq l0 l0 (l0.length : Int) x7_1 = some r) ∧ Aside0 (kq ≤ k) ∧ Aside0 (Below w.heap.size w w'))
  case atStart => exact ⟨(0), (by first | rfl | (simp; done) | (simp [*]; done)), H', ⟨Nat.le_refl _⟩, ⟨by repeat (first | (with_reducible first | exact HB.out | apply below_alloc | apply pw_below_drewN | apply below_drew1) | exact HB.out)⟩⟩
  case round =>
    clear H'
    try clear c1
    obtain ⟨x7_1, rfl, HA, HK1, HB⟩ := hrel
    cases gk with
    | zero => exact absurd HA.out (by simp [kinds_Valid.l0])
    | succ k1 =>
      have H := HA.out
      clear HA
      simp only [kinds_Valid.l0] at H
      by_cases c2 : x7_1 < (l0.length : Int)
      · rw [if_pos c2] at H
        have c2b0 : decide (x7_1 < (l0.length : Int)) = true := decide_eq_true c2
        clear c2
        by_cases c3 : 0 ≤ x7_1
        · rw [if_pos c3] at H
          have c3b0 : decide (0 ≤ x7_1) = true := decide_eq_true c3
          clear c3
          by_cases c4 : x7_1 < (l0.length : Int)
          · rw [if_pos c4] at H
            have c4b0 : decide (x7_1 < (l0.length : Int)) = true := decide_eq_true c4
            clear c4
            replace H := Option.bind_eq_some_iff.mp H
            obtain ⟨t145, A50, H⟩ := H
            replace H : (if t145 = true then (kinds_Valid.l0 k1 l0 l0 (l0.length : Int) (wrap64 (x7_1 + 1))) else (some false)) = some r := H
            have A5 := Aside0.mk A50
            clear A50
            by_cases c6 : t145 = true
            · subst c6
              have H1 : (kinds_Valid.l0 k1 l0 l0 (l0.length : Int) (wrap64 (x7_1 + 1))) = some r := by rw [if_pos rfl] at H; exact H
              clear H
              have H := H1
              clear H1
              have H' := Aside0.mk H
              clear H
              have p143 : 0 ≤ (x7_1 : Int) := of_decide_eq_true (by first | (with_reducible assumption) | assumption)
              have q143 : x7_1 < (l0.length : Int) := of_decide_eq_true (by first | (with_reducible assumption) | assumption)
              obtain ⟨ad143, A143_1, c143_1, e143, hx143_0, hx143_1, hx143_2, hl143_1, hi143_1⟩ := at_T43 HR0.out x7_1 p143 q143
              cases e143
              replace hx143_0 := (HB.out.cell (World.block_lt_of_cell? w _ hx143_0)).trans hx143_0
              replace hx143_1 := (HB.out.cell (World.block_lt_of_cell? w _ hx143_1)).trans hx143_1
              replace hx143_2 := (HB.out.cell (World.block_lt_of_cell? w _ hx143_2)).trans hx143_2
              have HR143_1 := Aside0.mk hi143_1
              have HC143_1 := Aside0.mk hl143_1
              clear hi143_1 hl143_1
              replace p143 := eq_true p143
              replace q143 := eq_true q143
              go_wp2_with (first | ((with_reducible refine gate_dst (N := 4) rfl ?_); refine box_event ?hg (N := 4) ?hd (cs := #[.int .i64 0, .slice none 0 0, .bool false]) (t := 43) ?hr ?_; (case hd => rfl); (case hg => rfl); (case hr => first | (go_simp; done) | (go_simp; rfl)); intro gb144 hg w7 hbox hb; have n0_ := Aside0.mk (below_step (by repeat (first | (with_reducible first | exact HB.out | apply below_alloc | apply pw_below_drewN | apply below_drew1) | exact HB.out)) hb); have n1_ := Aside0.mk (hbox); have n2_ := Aside0.mk ((by rw [hg]; exact (below_size (by repeat (first | (with_reducible first | exact HB.out | apply below_alloc | apply pw_below_drewN | apply below_drew1) | exact HB.out))) : w.heap.size ≤ gb144)); have n3_ := Aside0.mk ((by rw [hg]; exact (below_size (by repeat (first | (with_reducible first | exact HB.out | apply below_alloc | apply pw_below_drewN | apply below_drew1) | exact HB.out))) : w.heap.size ≤ gb144)); clear HB; have HB := n0_; have BK144 := n1_; have GW144 := n2_; have GE144 := n3_; clear n0_ n1_ n2_ n3_; clear hb hbox hg; have hcz8_0 : w7.cell? ⟨gb144, 0, none⟩ = some (.int .i64 0) := (blk_cell BK144.out 0).trans rfl; have hcz8_1 : w7.cell? ⟨gb144, 1, none⟩ = some (.slice none 0 0) := (blk_cell BK144.out 1).trans rfl; have hcz8_2 : w7.cell? ⟨gb144, 2, none⟩ = some (.bool false) := (blk_cell BK144.out 2).trans rfl; have hfz8_0 := blk_frozen BK144.out 0; have hfz8_1 := blk_frozen BK144.out 1; have hfz8_2 := blk_frozen BK144.out 2) | ((with_reducible refine gate_callee (f := 30) rfl ?_); refine goesL_ (some 14) rfl rfl Try.func30 (by kernel_rfl) rfl #[.agg #[.int .i64 ((rd_T43 l0 x7_1).f0), .slice A143_1 ((rd_T43 l0 x7_1).f1).length c143_1, .bool ((rd_T43 l0 x7_1).f2)], .int .i64 (l0.length : Int)] rfl (by (try simp only [List.map_toArray, List.map_cons, List.map_nil]); first | done | rfl | (simp only [List.length_drop, List.length_take]; rfl)) ?_; (with_reducible refine (kinds_right.calls k1 ((rd_T43 l0 x7_1).f0) _ _ ((rd_T43 l0 x7_1).f1) ((rd_T43 l0 x7_1).f2) (l0.length : Int) true _ ?side1 ?side2 A5.out).mono ?_); (case side1 => exact Kd.C_below HR143_1.out (by repeat (first | (with_reducible first | exact HB.out | apply below_alloc | apply pw_below_drewN | apply below_drew1 | refine below_set ?_ GE144.out) | exact HB.out))); (case side2 => exact HC143_1.out); rintro e w9 ⟨rfl, hb⟩; refine ⟨_, rfl, ?_⟩; have n0_ := Aside0.mk (blk_below (g := gb144) (o := .cells #[.int .i64 ((rd_T43 l0 x7_1).f0), .slice A143_1 ((rd_T43 l0 x7_1).f1).length c143_1, .bool ((rd_T43 l0 x7_1).f2)] 43 (0, 0)) (by (with_reducible repeat (first | refine blk_drewN ?_ _ | refine blk_drew ?_ | refine blk_alloc ?_ _)); refine blk_put (cs := #[.int .i64 ((rd_T43 l0 x7_1).f0), .slice A143_1 ((rd_T43 l0 x7_1).f1).length c143_1, .bool false]) ?_ 2 _ rfl; (with_reducible repeat (first | refine blk_drewN ?_ _ | refine blk_drew ?_ | refine blk_alloc ?_ _)); refine blk_put (cs := #[.int .i64 ((rd_T43 l0 x7_1).f0), .slice none 0 0, .bool false]) ?_ 1 _ rfl; (with_reducible repeat (first | refine blk_drewN ?_ _ | refine blk_drew ?_ | refine blk_alloc ?_ _)); refine blk_put (cs := #[.int .i64 0, .slice none 0 0, .bool false]) ?_ 0 _ rfl; (with_reducible repeat (first | refine blk_drewN ?_ _ | refine blk_drew ?_ | refine blk_alloc ?_ _)); exact BK144.out) hb); have n1_ := Aside0.mk (below_step (by repeat (first | (with_reducible first | exact HB.out | apply below_alloc | apply pw_below_drewN | apply below_drew1 | refine below_set ?_ GE144.out) | exact HB.out)) hb); clear BK144; clear HB; have BK144 := n0_; have HB := n1_; clear n0_ n1_; (try clear hb); (try clear hb2); (try clear hk); (try clear hi)))
              go_roundg k1
              case measure => have := HK1.out; omega
              case rel => exact ⟨(wrap64 (x7_1 + 1)), (by first | rfl | (simp; done) | (simp [*]; done)), H', ⟨by have := HK1.out; omega⟩, ⟨by repeat (first | (with_reducible first | exact HB.out | apply below_alloc | apply pw_below_drewN | apply below_drew1 | refine below_set ?_ GE144.out) | exact HB.out)⟩⟩
            · replace c6 := Bool.eq_false_iff.mpr c6
              subst c6
              have H1 : (some false) = some r := by rw [if_neg (show ¬ (false = true) by decide)] at H; exact H
              clear H
              have H := H1
              clear H1
              obtain rfl := Option.some.inj H
              have p143 : 0 ≤ (x7_1 : Int) := of_decide_eq_true (by first | (with_reducible assumption) | assumption)
              have q143 : x7_1 < (l0.length : Int) := of_decide_eq_true (by first | (with_reducible assumption) | assumption)
              obtain ⟨ad143, A143_1, c143_1, e143, hx143_0, hx143_1, hx143_2, hl143_1, hi143_1⟩ := at_T43 HR0.out x7_1 p143 q143
              cases e143
              replace hx143_0 := (HB.out.cell (World.block_lt_of_cell? w _ hx143_0)).trans hx143_0
              replace hx143_1 := (HB.out.cell (World.block_lt_of_cell? w _ hx143_1)).trans hx143_1
              replace hx143_2 := (HB.out.cell (World.block_lt_of_cell? w _ hx143_2)).trans hx143_2
              have HR143_1 := Aside0.mk hi143_1
              have HC143_1 := Aside0.mk hl143_1
              clear hi143_1 hl143_1
              replace p143 := eq_true p143
              replace q143 := eq_true q143
              go_wp2_with (first | ((with_reducible refine gate_dst (N := 4) rfl ?_); refine box_event ?hg (N := 4) ?hd (cs := #[.int .i64 0, .slice none 0 0, .bool false]) (t := 43) ?hr ?_; (case hd => rfl); (case hg => rfl); (case hr => first | (go_simp; done) | (go_simp; rfl)); intro gb144 hg w10 hbox hb; have n0_ := Aside0.mk (below_step (by repeat (first | (with_reducible first | exact HB.out | apply below_alloc | apply pw_below_drewN | apply below_drew1) | exact HB.out)) hb); have n1_ := Aside0.mk (hbox); have n2_ := Aside0.mk ((by rw [hg]; exact (below_size (by repeat (first | (with_reducible first | exact HB.out | apply below_alloc | apply pw_below_drewN | apply below_drew1) | exact HB.out))) : w.heap.size ≤ gb144)); have n3_ := Aside0.mk ((by rw [hg]; exact (below_size (by repeat (first | (with_reducible first | exact HB.out | apply below_alloc | apply pw_below_drewN | apply below_drew1) | exact HB.out))) : w.heap.size ≤ gb144)); clear HB; have HB := n0_; have BK144 := n1_; have GW144 := n2_; have GE144 := n3_; clear n0_ n1_ n2_ n3_; clear hb hbox hg; have hcz11_0 : w10.cell? ⟨gb144, 0, none⟩ = some (.int .i64 0) := (blk_cell BK144.out 0).trans rfl; have hcz11_1 : w10.cell? ⟨gb144, 1, none⟩ = some (.slice none 0 0) := (blk_cell BK144.out 1).trans rfl; have hcz11_2 : w10.cell? ⟨gb144, 2, none⟩ = some (.bool false) := (blk_cell BK144.out 2).trans rfl; have hfz11_0 := blk_frozen BK144.out 0; have hfz11_1 := blk_frozen BK144.out 1; have hfz11_2 := blk_frozen BK144.out 2) | ((with_reducible refine gate_callee (f := 30) rfl ?_); refine goesL_ (some 14) rfl rfl Try.func30 (by kernel_rfl) rfl #[.agg #[.int .i64 ((rd_T43 l0 x7_1).f0), .slice A143_1 ((rd_T43 l0 x7_1).f1).length c143_1, .bool ((rd_T43 l0 x7_1).f2)], .int .i64 (l0.length : Int)] rfl (by (try simp only [List.map_toArray, List.map_cons, List.map_nil]); first | done | rfl | (simp only [List.length_drop, List.length_take]; rfl)) ?_; (with_reducible refine (kinds_right.calls k1 ((rd_T43 l0 x7_1).f0) _ _ ((rd_T43 l0 x7_1).f1) ((rd_T43 l0 x7_1).f2) (l0.length : Int) false _ ?side1 ?side2 A5.out).mono ?_); (case side1 => exact Kd.C_below HR143_1.out (by repeat (first | (with_reducible first | exact HB.out | apply below_alloc | apply pw_below_drewN | apply below_drew1 | refine below_set ?_ GE144.out) | exact HB.out))); (case side2 => exact HC143_1.out); rintro e w12 ⟨rfl, hb⟩; refine ⟨_, rfl, ?_⟩; have n0_ := Aside0.mk (blk_below (g := gb144) (o := .cells #[.int .i64 ((rd_T43 l0 x7_1).f0), .slice A143_1 ((rd_T43 l0 x7_1).f1).length c143_1, .bool ((rd_T43 l0 x7_1).f2)] 43 (0, 0)) (by (with_reducible repeat (first | refine blk_drewN ?_ _ | refine blk_drew ?_ | refine blk_alloc ?_ _)); refine blk_put (cs := #[.int .i64 ((rd_T43 l0 x7_1).f0), .slice A143_1 ((rd_T43 l0 x7_1).f1).length c143_1, .bool false]) ?_ 2 _ rfl; (with_reducible repeat (first | refine blk_drewN ?_ _ | refine blk_drew ?_ | refine blk_alloc ?_ _)); refine blk_put (cs := #[.int .i64 ((rd_T43 l0 x7_1).f0), .slice none 0 0, .bool false]) ?_ 1 _ rfl; (with_reducible repeat (first | refine blk_drewN ?_ _ | refine blk_drew ?_ | refine blk_alloc ?_ _)); refine blk_put (cs := #[.int .i64 0, .slice none 0 0, .bool false]) ?_ 0 _ rfl; (with_reducible repeat (first | refine blk_drewN ?_ _ | refine blk_drew ?_ | refine blk_alloc ?_ _)); exact BK144.out) hb); have n1_ := Aside0.mk (below_step (by repeat (first | (with_reducible first | exact HB.out | apply below_alloc | apply pw_below_drewN | apply below_drew1 | refine below_set ?_ GE144.out) | exact HB.out)) hb); clear BK144; clear HB; have BK144 := n0_; have HB := n1_; clear n0_ n1_; (try clear hb); (try clear hb2); (try clear hk); (try clear hi)))
              go_ret
              exact ⟨by first | rfl | (simp [errW_none, errW_some] <;> rfl) | (simp [*, errW_none, errW_some] <;> rfl), by repeat (first | (with_reducible first | exact HB.out | apply below_alloc | apply pw_below_drewN | apply below_drew1 | refine below_set ?_ GE144.out) | exact HB.out)⟩
          · rw [if_neg c4] at H
            exact absurd H (by simp)
        · rw [if_neg c3] at H
          exact absurd H (by simp)
      · rw [if_neg c2] at H
        have c2b0 : decide (x7_1 < (l0.length : Int)) = false := decide_eq_false c2
        clear c2
        obtain rfl := Option.some.inj H
        go_wp2
        go_ret
        exact ⟨by first | rfl | (simp [errW_none, errW_some] <;> rfl) | (simp [*, errW_none, errW_some] <;> rfl), by repeat (first | (with_reducible first | exact HB.out | apply below_alloc | apply pw_below_drewN | apply below_drew1) | exact HB.out)⟩

/-! ### kinds_headOf: function 31 -/
def kinds_headOf.f (a0_0 : Int) (l0_1 : List Int) (a0_2 : Bool) : Option (Int × Int × Bool) := some (a0_0, (l0_1.length : Int), a0_2)
set_option maxHeartbeats 8000000 in
set_option maxRecDepth 100000 in
theorem kinds_headOf.calls (a0_0 : Int) (A0_1 : Option Addr) (c0_1 : Nat) (l0_1 : List Int) (a0_2 : Bool) (r1 : Int) (r2 : Int) (r3 : Bool) (w : World) (hr0_1 : Kd.C (Kd.int .i64) w A0_1 l0_1.length l0_1) (hc0_1 : l0_1.length ≤ c0_1) (h : kinds_headOf.f a0_0 l0_1 a0_2 = some (r1, r2, r3)) :
    Calls Try.prog 31 #[.agg #[.int .i64 a0_0, .slice A0_1 l0_1.length c0_1, .bool a0_2]] w fun e w' => e = .returned (.agg #[.int .i64 r1, .int .i64 r2, .bool r3]) ∧ Below w.heap.size w w' := by
  have hu43 := Try.underlying43
  have hu63 := Try.underlying63
  have HR0_1 := Aside0.mk hr0_1
  have HC0_1 := Aside0.mk hc0_1
  clear hr0_1 hc0_1
  have HB := Aside0.mk (Below.refl w.heap.size w)
  have H : (some (a0_0, (l0_1.length : Int), a0_2)) = some (r1, r2, r3) := h
  clear h
  simp only [Option.some.injEq, Prod.mk.injEq] at H
  obtain ⟨rfl, rfl, rfl⟩ := H
  go_enter Try.func31, Try.ntmps31
  go_wp2_with (first | ((with_reducible refine gate_dst (N := 1) rfl ?_); refine box_event ?hg (N := 1) ?hd (cs := #[.int .i64 a0_0, .slice A0_1 l0_1.length c0_1, .bool a0_2]) (t := 43) ?hr ?_; (case hd => rfl); (case hg => rfl); (case hr => first | (go_simp; done) | (go_simp; rfl)); intro gb146 hg w2 hbox hb; have n0_ := Aside0.mk (below_step (by repeat (first | (with_reducible first | exact HB.out | apply below_alloc | apply pw_below_drewN | apply below_drew1) | exact HB.out)) hb); have n1_ := Aside0.mk (hbox); have n2_ := Aside0.mk ((by rw [hg]; exact (below_size (by repeat (first | (with_reducible first | exact HB.out | apply below_alloc | apply pw_below_drewN | apply below_drew1) | exact HB.out))) : w.heap.size ≤ gb146)); have n3_ := Aside0.mk ((by rw [hg]; exact (below_size (by repeat (first | (with_reducible first | exact HB.out | apply below_alloc | apply pw_below_drewN | apply below_drew1) | exact HB.out))) : w.heap.size ≤ gb146)); clear HB; have HB := n0_; have BK146 := n1_; have GW146 := n2_; have GE146 := n3_; clear n0_ n1_ n2_ n3_; clear hb hbox hg) | ((with_reducible refine gate_dst (N := 2) rfl ?_); refine box_event ?hg (N := 2) ?hd (cs := #[.int .i64 0, .int .i64 0, .bool false]) (t := 63) ?hr ?_; (case hd => rfl); (case hg => rfl); (case hr => first | (go_simp; done) | (go_simp; rfl)); intro gb147 hg w3 hbox hb; have n0_ := Aside0.mk (blk_below (g := gb146) (o := .cells #[.int .i64 a0_0, .slice A0_1 l0_1.length c0_1, .bool a0_2] 43 (0, 0)) (by (with_reducible repeat (first | refine blk_drewN ?_ _ | refine blk_drew ?_ | refine blk_alloc ?_ _)); exact BK146.out) hb); have n1_ := Aside0.mk (below_step (by repeat (first | (with_reducible first | exact HB.out | apply below_alloc | apply pw_below_drewN | apply below_drew1 | refine below_set ?_ GE146.out) | exact HB.out)) hb); have n2_ := Aside0.mk (hbox); have n3_ := Aside0.mk ((by rw [hg]; exact (below_size (by repeat (first | (with_reducible first | exact HB.out | apply below_alloc | apply pw_below_drewN | apply below_drew1 | refine below_set ?_ GE146.out) | exact HB.out))) : w.heap.size ≤ gb147)); have n4_ := Aside0.mk ((by rw [hg]; exact (below_size (by repeat (first | (with_reducible first | exact HB.out | apply below_alloc | apply pw_below_drewN | apply below_drew1 | refine below_set ?_ GE146.out) | exact HB.out))) : w.heap.size ≤ gb147)); have n5_ := Aside0.mk ((by rw [hg]; exact Nat.ne_of_lt (blk_lt (g := gb146) (o := .cells #[.int .i64 a0_0, .slice A0_1 l0_1.length c0_1, .bool a0_2] 43 (0, 0)) (by (with_reducible repeat (first | refine blk_drewN ?_ _ | refine blk_drew ?_ | refine blk_alloc ?_ _)); exact BK146.out)) : gb146 ≠ gb147)); have n6_ := Aside0.mk ((by rw [hg]; exact Nat.ne_of_gt (blk_lt (g := gb146) (o := .cells #[.int .i64 a0_0, .slice A0_1 l0_1.length c0_1, .bool a0_2] 43 (0, 0)) (by (with_reducible repeat (first | refine blk_drewN ?_ _ | refine blk_drew ?_ | refine blk_alloc ?_ _)); exact BK146.out)) : gb147 ≠ gb146)); clear BK146; clear HB; have BK146 := n0_; have HB := n1_; have BK147 := n2_; have GW147 := n3_; have GE147 := n4_; have NB146_147 := n5_; have NB147_146 := n6_; clear n0_ n1_ n2_ n3_ n4_ n5_ n6_; clear hb hbox hg; have hnb4 := NB146_147.out; have hnc4 := NB147_146.out; have hcz5_0 : w3.cell? ⟨gb146, 0, none⟩ = some (.int .i64 a0_0) := (blk_cell BK146.out 0).trans rfl; have hcz5_1 : w3.cell? ⟨gb146, 1, none⟩ = some (.slice A0_1 l0_1.length c0_1) := (blk_cell BK146.out 1).trans rfl; have hcz5_2 : w3.cell? ⟨gb146, 2, none⟩ = some (.bool a0_2) := (blk_cell BK146.out 2).trans rfl; have hfz5_0 := blk_frozen BK146.out 0; have hfz5_1 := blk_frozen BK146.out 1; have hfz5_2 := blk_frozen BK146.out 2; have hcz6_0 : w3.cell? ⟨gb147, 0, none⟩ = some (.int .i64 0) := (blk_cell BK147.out 0).trans rfl; have hcz6_1 : w3.cell? ⟨gb147, 1, none⟩ = some (.int .i64 0) := (blk_cell BK147.out 1).trans rfl; have hcz6_2 : w3.cell? ⟨gb147, 2, none⟩ = some (.bool false) := (blk_cell BK147.out 2).trans rfl; have hfz6_0 := blk_frozen BK147.out 0; have hfz6_1 := blk_frozen BK147.out 1; have hfz6_2 := blk_frozen BK147.out 2))
  refine bodyPost_ret (results_cell_row rfl _ _ gb147 63 #[.int .i64 a0_0, .int .i64 (l0_1.length : Int), .bool a0_2] (0, 0) _ rfl (by (with_reducible repeat (first | refine blk_drewN ?_ _ | refine blk_drew ?_ | refine blk_alloc ?_ _)); refine blk_put (cs := #[.int .i64 a0_0, .int .i64 (l0_1.length : Int), .bool false]) ?_ 2 _ rfl; (with_reducible repeat (first | refine blk_drewN ?_ _ | refine blk_drew ?_ | refine blk_alloc ?_ _)); refine blk_put (cs := #[.int .i64 a0_0, .int .i64 0, .bool false]) ?_ 1 _ rfl; (with_reducible repeat (first | refine blk_drewN ?_ _ | refine blk_drew ?_ | refine blk_alloc ?_ _)); refine blk_put (cs := #[.int .i64 0, .int .i64 0, .bool false]) ?_ 0 _ rfl; (with_reducible repeat (first | refine blk_drewN ?_ _ | refine blk_drew ?_ | refine blk_alloc ?_ _)); exact BK147.out) Try.underlying63 rfl (by kernel_rfl)) rfl ?_
  exact ⟨by first | rfl | (simp [errW_none, errW_some] <;> rfl) | (simp [*, errW_none, errW_some] <;> rfl), by repeat (first | (with_reducible first | exact HB.out | apply below_alloc | apply pw_below_drewN | apply below_drew1 | refine below_set ?_ GE146.out | refine below_set ?_ GE147.out) | exact HB.out)⟩

/-! ### kinds_Same: function 22 -/
theorem info59 : (Try.prog.info? 59).map (fun i => (i.zero, i.size, i.bytes)) = some (some (.agg #[(.int .i64 0), (.int .i64 0)]), 2, 16) := by kernel_rfl
/-! #### struct type 59 -/
structure S59 where
  f0 : Int
  f1 : Int
def z59 : S59 := ⟨(0 : Int), (0 : Int)⟩
def k59 : Kd S59 := Kd.iso (Kd.pair (Kd.int .i64) (Kd.int .i64)) (fun x : S59 => (x.f0, x.f1))
theorem k59_open {w : World} {x : S59} {cs : List Value} (h : k59.K w x cs) : cs = [.int .i64 x.f0, .int .i64 x.f1] := by
  obtain ⟨_, _, rfl, rfl, rfl⟩ := h
  exact rfl
theorem k59_openM {w : World} {base : Nat} {ok : Nat → Prop} {x : S59} {cs : List Value} (h : k59.M w base ok x cs) : cs = [.int .i64 x.f0, .int .i64 x.f1] := by
  obtain ⟨_, _, rfl, rfl, rfl⟩ := h
  exact rfl
theorem k59_mk (w : World) (x : S59)  : k59.K w x [.int .i64 x.f0, .int .i64 x.f1] := ⟨[.int .i64 x.f0], [.int .i64 x.f1], rfl, rfl, rfl⟩
theorem k59_mkM (w : World) (base : Nat) (ok : Nat → Prop) (x : S59)  : k59.M w base ok x [.int .i64 x.f0, .int .i64 x.f1] := ⟨[.int .i64 x.f0], [.int .i64 x.f1], rfl, rfl, rfl⟩
def rd_T59 (xs : List S59) (i : Int) : S59 := xs.getD i.toNat z59
theorem at_T59 {w : World} {A : Option Addr} {n : Nat} {xs : List S59} (h : Kd.C k59 w A n xs) (i : Int) (h0 : 0 ≤ i) (h1 : i < n) : ∃ ad , A = some ad ∧ w.cell? (ad.add (i.toNat * 2)) = some (.int .i64 (rd_T59 xs i).f0) ∧ w.cell? ⟨(ad.add (i.toNat * 2)).block, (ad.add (i.toNat * 2)).off + 1, none⟩ = some (.int .i64 (rd_T59 xs i).f1) := by
  obtain ⟨ad, c, e, _, hK, hc0⟩ := Kd.C_get h z59 i h0 h1
  have hc : ∀ j u, c[j]? = some u → w.cell? (ad.add (i.toNat * 2 + j)) = some u := hc0
  obtain rfl := k59_open hK
  exact ⟨ad, e, hc 0 _ rfl, by rw [← add_field _ _ 1 (by omega)]; exact hc 1 _ rfl⟩


def hasB (K : List S59) (q : S59) : Bool := K.any fun p => p.f0 == q.f0 && p.f1 == q.f1
def headsB (x y : S43) : Bool := x.f0 == y.f0 && (x.f1.length == y.f1.length && x.f2 == y.f2)
mutual
def same_l0 : Nat → List S43 → List S59 → List S59 → Option Bool
  | 0, _, _, _ => none
  | k + 1, l, K, T => if T.length = 0 then some true else
    if 0 ≤ (rd_T59 T ((T.length : Int) - 1)).f0 then if (rd_T59 T ((T.length : Int) - 1)).f0 < (l.length : Int) then if 0 ≤ (rd_T59 T ((T.length : Int) - 1)).f1 then if (rd_T59 T ((T.length : Int) - 1)).f1 < (l.length : Int) then
      if headsB (rd_T43 l (rd_T59 T ((T.length : Int) - 1)).f0) (rd_T43 l (rd_T59 T ((T.length : Int) - 1)).f1) = true then same_l1 k l K (T.take (T.length - 1)) 0 (rd_T43 l (rd_T59 T ((T.length : Int) - 1)).f0) (rd_T43 l (rd_T59 T ((T.length : Int) - 1)).f1) else some false
    else none else none else none else none
def same_l1 : Nat → List S43 → List S59 → List S59 → Nat → S43 → S43 → Option Bool
  | 0, _, _, _, _, _, _ => none
  | k + 1, l, K, T, i, x, y => if i < x.f1.length then if i < y.f1.length then
      if hasB K ⟨rd x.f1 (i : Int), rd y.f1 (i : Int)⟩ = true then same_l1 k l K T (i + 1) x y else
        if T.length < 8796093022208 then same_l1 k l (K ++ [⟨rd x.f1 (i : Int), rd y.f1 (i : Int)⟩]) (T ++ [⟨rd x.f1 (i : Int), rd y.f1 (i : Int)⟩]) (i + 1) x y else none
    else none else same_l0 k l K T
end
def pairA (p : S59) : Go.VI.AV × Go.VI.AV := (.agg [.int .i64 p.f0, .int .i64 p.f1], .bool true)
theorem keyEq59 (a b c d : Int) : Go.VI.keyEq Try.prog 59 (.agg [.int .i64 a, .int .i64 b]) (.agg [.int .i64 c, .int .i64 d]) = (match Go.VI.eqI a c with | true => (match Go.VI.eqI b d with | true => some true | false => some false) | false => some false) := by kernel_rfl
theorem keyEq59' (q p : S59) : Go.VI.keyEq Try.prog 59 (.agg [.int .i64 q.f0, .int .i64 q.f1]) (.agg [.int .i64 p.f0, .int .i64 p.f1]) = some (p.f0 == q.f0 && p.f1 == q.f1) := by
  rw [keyEq59, Go.VI.eqI_eq, Go.VI.eqI_eq]
  have e : ∀ a b : Int, (a == b) = decide (b = a) := fun a b => by
    by_cases h : b = a
    · rw [h]; simp
    · have h' : ¬ a = b := fun e => h e.symm
      simp [h, h']
  rw [e, e]
  by_cases h1 : q.f0 = p.f0 <;> by_cases h2 : q.f1 = p.f1 <;> simp [h1, h2]
theorem findA59_no {q : S59} : ∀ {K : List S59}, hasB K q = false → Go.VI.findA Try.prog 59 (.agg [.int .i64 q.f0, .int .i64 q.f1]) (K.map pairA) = some none
  | [], _ => rfl
  | p :: K, h => by
    simp only [hasB, List.any_cons, Bool.or_eq_false_iff] at h
    simp only [List.map_cons, pairA, Go.VI.findA, keyEq59', h.1]
    exact findA59_no h.2
theorem findA59_yes {q : S59} : ∀ {K : List S59}, hasB K q = true → Go.VI.findA Try.prog 59 (.agg [.int .i64 q.f0, .int .i64 q.f1]) (K.map pairA) = some (some (.bool true))
  | p :: K, h => by
    simp only [hasB, List.any_cons] at h
    simp only [List.map_cons, pairA, Go.VI.findA, keyEq59']
    cases hp : (p.f0 == q.f0 && p.f1 == q.f1)
    · rw [hp, Bool.false_or] at h
      exact findA59_yes h
    · rfl
theorem findI59_no {q : S59} : ∀ {K : List S59} (i : Nat), hasB K q = false → Go.VI.findI Try.prog 59 (.agg [.int .i64 q.f0, .int .i64 q.f1]) (K.map pairA) i = some none
  | [], _, _ => rfl
  | p :: K, i, h => by
    simp only [hasB, List.any_cons, Bool.or_eq_false_iff] at h
    simp only [List.map_cons, pairA, Go.VI.findI, keyEq59', h.1]
    exact findI59_no (i + 1) h.2
theorem put59 {q : S59} {K : List S59} (h : hasB K q = false) : Go.VI.mapPut Try.prog 59 (K.map pairA) (.agg [.int .i64 q.f0, .int .i64 q.f1]) (.bool true) = some ((K ++ [q]).map pairA) := by
  unfold Go.VI.mapPut
  rw [findI59_no 0 h]
  simp [pairA]
theorem vr_bool {b : Bool} {v : Value} (h : Go.VI.VR Go.VI.B0 Go.VI.M0 (.bool b) v) : v = .bool b := by cases h; rfl
set_option maxHeartbeats 8000000 in
theorem headOf_exact (a : Int) (A : Option Addr) (n c : Nat) (b : Bool) (w : World) :
    Calls Try.prog 31 #[.agg #[.int .i64 a, .slice A n c, .bool b]] w fun e w' => e = .returned (.agg #[.int .i64 a, .int .i64 n, .bool b]) ∧ (w.alloc (.cells #[.int .i64 a, .slice A n c, .bool b] 43)).alloc (.cells #[.int .i64 a, .int .i64 n, .bool b] 63) = w' := by
  have hu43 := Try.underlying43
  have hu63 := Try.underlying63
  go_enter Try.func31, Try.ntmps31
  go_wp2
  exact bodyPost_ret (v := .agg #[.int .i64 a, .int .i64 n, .bool b]) (by simp [results, Try.results31, go_sem]) rfl ⟨rfl, rfl⟩
set_option maxHeartbeats 8000000 in
set_option maxRecDepth 100000 in
theorem same_good (k kv : Nat) (A0 : Option Addr) (c0 : Nat) (l0 : List (S43)) (a1 : Int) (a2 : Int) (r : Bool) (w : World) (hr0 : Kd.C k43 w A0 l0.length l0) (hc0 : l0.length ≤ c0) (hv : kinds_Valid.f kv l0 = some true) (h1 : 0 ≤ a1) (h2 : a1 < l0.length) (h3 : 0 ≤ a2) (h4 : a2 < l0.length)
    (hs : same_l0 k l0 [⟨a1, a2⟩] [⟨a1, a2⟩] = some r) :
    Calls Try.prog 22 #[.slice A0 l0.length c0, .int .i64 a1, .int .i64 a2] w fun e w' => e = .returned (.bool r) ∧ Below w.heap.size w w' := by
  have HR0 := Aside0.mk hr0
  have HC0 := Aside0.mk hc0
  have HV := Aside0.mk hv
  have HS := Aside0.mk hs
  clear hr0 hc0 hv hs
  have b1 : decide (a1 < 0) = false := decide_eq_false (by omega)
  have b2 : decide (a1 ≥ (l0.length : Int)) = false := decide_eq_false (by omega)
  have b3 : decide (a2 < 0) = false := decide_eq_false (by omega)
  have b4 : decide (a2 ≥ (l0.length : Int)) = false := decide_eq_false (by omega)
  clear h1 h2 h3 h4
  have HB := Aside0.mk (Below.refl w.heap.size w)
  have hu43 := Try.underlying43
  have hu59 := Try.underlying59
  go_enter Try.func22, Try.ntmps22
  go_wp2_with (first | ((with_reducible refine gate_callee (f := 19) rfl ?_); refine goesL_ (some 15) rfl rfl Try.func19 (by kernel_rfl) rfl #[.slice A0 l0.length c0] rfl (by (try simp only [List.map_toArray, List.map_cons, List.map_nil]); first | done | rfl) ?_; (with_reducible refine (kinds_Valid.calls kv _ _ l0 true _ ?side1 ?side2 HV.out).mono ?_); (case side1 => exact (Kd.C_below HR0.out HB.out)); (case side2 => exact HC0.out); rintro e w1 ⟨rfl, hb⟩; refine ⟨_, rfl, ?_⟩; have n0_ := Aside0.mk (below_step HB.out hb); clear HB hb; have HB := n0_; clear n0_) | ((with_reducible refine gate_dst (N := 37) rfl ?_); refine Go.VI.make_event rfl 60 rfl ?_; intro bm w2 hm hbm hb; have HM := Aside0.mk hm; have n0_ := Aside0.mk (below_step HB.out hb); have HBM := Aside0.mk (Nat.le_trans (below_size HB.out) hbm); clear HB hb hm hbm; have HB := n0_; clear n0_) | ((with_reducible refine gate_ (.insert 60 (.tmp 37) (.tmp 40) (.const (.bool true))) rfl ?_); refine Go.VI.put_event rfl (.tmp 37) (.tmp 40) (.const (.bool true)) 60 (Or.inr rfl) Try.underlying60 rfl rfl rfl HM.out (.agg [.int .i64 a1, .int .i64 a2]) (.bool true) (by kernel_rfl) (.agg _ _ (.cons _ _ _ _ (.int _ _) (.cons _ _ _ _ (.int _ _) .nil))) (.bool true) (es' := [pairA ⟨a1, a2⟩]) rfl ?_; intro w3 hm hg; have n1_ := Aside0.mk (HB.out.grown hg (below_size HB.out) (fun k_ hk_ => by injection hk_ with hk_; rw [← hk_]; exact HBM.out)); clear HM HB; have HM := Aside0.mk hm; have HB := n1_; clear n1_ hm hg) | ((with_reducible refine gate_dst (N := 45) rfl ?_); refine Kd.R_lit k59 _ 59 ?hg (N := 45) ?hd (xs := ([(⟨a1, a2⟩ : S59)] : List (S59))) (inner := [.int .i64 a1, .int .i64 a2]) (ok := fun _ => True) (okp := fun _ => True) ?hr ?hp (fun _ hk => hk) trivial (Below.refl _ _) (Nat.le_refl _) (by simp) ?_; (case hd => rfl); (case hg => rfl); (case hr => first | (go_simp; done) | (go_simp; rfl)); (case hp => exact (Reps.c2 (k59_mkM _ _ _ (⟨a1, a2⟩ : S59)) (Reps.none _ _))); intro v45 w4 ho hb hg_ hnew_; clear hnew_; have HO := Aside0.mk (Kd.R_lower ho (below_size HB.out)); have n1_ := Aside0.mk (HM.out.grown hg_ (by simp)); have n2_ := Aside0.mk (below_step HB.out hb); clear HM HB hb hg_ ho; have HM := n1_; have HB := n2_; clear n1_ n2_))
  go_loopg [8] k (fun kq v8 w' => ∃ (K T : List S59), Aside0 (same_l0 kq l0 K T = some r) ∧ Aside0 (Kd.R k59 59 w' w.heap.size (fun _ => True) v8 T) ∧ Aside0 (Go.VI.MapIs w' bm (K.map pairA)) ∧ Aside0 (Below w.heap.size w w'))
  case atStart => exact ⟨[⟨a1, a2⟩], [⟨a1, a2⟩], HS, HO, HM, HB⟩
  case round =>
    clear HO HM HB HS
    obtain ⟨K, T, HA, HO, HM, HB⟩ := hrel
    cases gk with
    | zero => exact absurd HA.out (by simp [same_l0])
    | succ k1 =>
      by_cases hT : T.length = 0
      · have hr : r = true := by
          have H := HA.out
          simp only [same_l0] at H
          rw [if_pos hT] at H
          injection H with H
          exact H.symm
        have HRR := Aside0.mk hr
        clear hr HA
        obtain ⟨Ao, co, eo⟩ := Kd.R_slice HO.out
        have hgt : decide ((T.length : Int) > 0) = false := decide_eq_false (by omega)
        have hgt2 : (0 < T.length) = False := eq_false (by omega)
        have hgt3 : decide (0 < T.length) = false := decide_eq_false (by omega)
        subst eo
        clear hT
        go_wp2
        go_ret
        exact ⟨by have := HRR.out; subst this; rfl, HB.out⟩
      · obtain ⟨go, co, eo, gb, gl, cl, HG⟩ := Kd.R_form HO.out (by omega)
        subst eo
        have HGB := Aside0.mk gb
        have HGH := Aside0.mk HG
        have HGL := Aside0.mk gl
        clear gb gl HG
        have hgt : decide ((T.length : Int) > 0) = true := decide_eq_true (by omega)
        have hgt2 : (0 < T.length) = True := eq_true (by omega)
        have hgt3 : decide (0 < T.length) = true := decide_eq_true (by omega)
        have hw1 : IntKind.i64.wrap ((T.length : Int) - 1) = (T.length : Int) - 1 := (i64_w _).trans (by have := (Kd.R_reads' HO.out).2.2.2.1; unfold wrap64; omega)
        have hp0 : decide ((0 : Int) ≤ (T.length : Int) - 1) = true := decide_eq_true (by omega)
        have hp1 : decide ((T.length : Int) - 1 < (T.length : Int)) = true := decide_eq_true (by omega)
        have hp2 : decide ((T.length : Int) - 1 ≤ (T.length : Int)) = true := decide_eq_true (by omega)
        have hp3 : (1 ≤ T.length) = True := eq_true (by omega)
        have hp6 : ((1 : Int) ≤ (T.length : Int)) = True := eq_true (by omega)
        have htn : ((T.length : Int) - 1).toNat = T.length - 1 := by omega
        have hp4 := eq_true (of_decide_eq_true hp0)
        have hp5 := eq_true (of_decide_eq_true hp1)
        have H := HA.out
        simp only [same_l0] at H
        rw [if_neg hT] at H
        have HTN := Aside0.mk hT
        clear hT HA
        by_cases d0 : 0 ≤ (rd_T59 T ((T.length : Int) - 1)).f0
        case neg => rw [if_neg d0] at H; cases H
        rw [if_pos d0] at H
        by_cases d1 : (rd_T59 T ((T.length : Int) - 1)).f0 < (l0.length : Int)
        case neg => rw [if_neg d1] at H; cases H
        rw [if_pos d1] at H
        by_cases d2 : 0 ≤ (rd_T59 T ((T.length : Int) - 1)).f1
        case neg => rw [if_neg d2] at H; cases H
        rw [if_pos d2] at H
        by_cases d3 : (rd_T59 T ((T.length : Int) - 1)).f1 < (l0.length : Int)
        case neg => rw [if_neg d3] at H; cases H
        rw [if_pos d3] at H
        obtain ⟨p, hp⟩ : ∃ p, rd_T59 T ((T.length : Int) - 1) = p := ⟨_, rfl⟩
        rw [hp] at H d0 d1 d2 d3
        have HH := Aside0.mk H
        clear H
        obtain ⟨adT, eT, hx0, hx1⟩ := at_T59 (Kd.R_reads' HO.out).2.2 ((T.length : Int) - 1) (of_decide_eq_true hp0) (of_decide_eq_true hp1)
        injection eT with eT
        subst eT
        rw [hp, htn] at hx0 hx1
        simp only [add_plain] at hx0 hx1
        have HP := Aside0.mk hp
        clear hp
        obtain ⟨i059, hi059, _, hsz59, _⟩ := info_parts info59
        have hcut := cut_to (P := Try.prog) 61 59 .i64 Try.underlying61 hi059 (some ⟨go, 0, none⟩) T.length co ((T.length : Int) - 1) (of_decide_eq_true hp0) (of_decide_eq_true hp2) (Kd.R_reads' HO.out).2.1
        clear hi059 hsz59
        go_wp2_with (first | ((with_reducible refine gate_dst (N := 9) rfl ?_); refine box_event ?hg (N := 9) ?hd (cs := #[.int .i64 0, .int .i64 0]) (t := 59) ?hr ?_; (case hd => rfl); (case hg => rfl); (case hr => first | (go_simp; done) | (go_simp; rfl)); intro gp hg w5 hbox hb; have BKP := Aside0.mk hbox; have GEP := Aside0.mk (Nat.le_of_eq hg.symm); have HR := Aside0.mk hb; clear hb hbox hg; have hcz0 : w5.cell? ⟨gp, 0, none⟩ = some (.int .i64 0) := (blk_cell BKP.out 0).trans rfl; have hcz1 : w5.cell? ⟨gp, 1, none⟩ = some (.int .i64 0) := (blk_cell BKP.out 1).trans rfl; have hfz0 := blk_frozen BKP.out 0; have hfz1 := blk_frozen BKP.out 1) | ((with_reducible refine gate_store (t := 59) (p := 9) rfl ?_); refine store_event (t := 59) (p := 9) (v := ?vo_w5) (w1 := ((w5.setCell ⟨gp, 0, none⟩ (.int .i64 p.f0)).setCell ⟨gp, 1, none⟩ (.int .i64 p.f1))) ?hg ?ho ?hn ?hr ?_; (case ho => rfl); (case hg => rfl); (case hn => rfl); (case hr => first | (go_simp; done) | (go_simp; rfl)); intro w6 hw; have n0_ := Aside0.mk (show w6.heap[gp]? = some (.cells #[.int .i64 p.f0, .int .i64 p.f1] 59 (0, 0)) from by rw [hw]; refine blk_put (cs := #[.int .i64 p.f0, .int .i64 0]) ?_ 1 _ rfl; refine blk_put (cs := #[.int .i64 0, .int .i64 0]) ?_ 0 _ rfl; exact BKP.out); have n1_ := Aside0.mk (show Below wr.heap.size wr w6 from by rw [hw]; exact below_set (below_set HR.out GEP.out) GEP.out); clear hw BKP HR hcz0 hcz1 hfz0 hfz1; have BKP := n0_; have HR := n1_; clear n0_ n1_))
        have hcz0 : w6.cell? ⟨gp, 0, none⟩ = some (.int .i64 p.f0) := (blk_cell BKP.out 0).trans rfl
        have hcz1 : w6.cell? ⟨gp, 1, none⟩ = some (.int .i64 p.f1) := (blk_cell BKP.out 1).trans rfl
        obtain ⟨ad, Ax, cx, ex, hx0, hx1, hx2, hlx, hix⟩ := at_T43 HR0.out p.f0 d0 d1
        subst ex
        obtain ⟨ad', Ay, cy, ey, hy0, hy1, hy2, hly, hiy⟩ := at_T43 HR0.out p.f1 d2 d3
        injection ey with ey
        subst ey
        obtain ⟨x, hx⟩ : ∃ x, rd_T43 l0 p.f0 = x := ⟨_, rfl⟩
        obtain ⟨y, hy⟩ : ∃ y, rd_T43 l0 p.f1 = y := ⟨_, rfl⟩
        have H := HH.out
        rw [hx, hy] at H
        rw [hx] at hx0 hx1 hx2 hlx hix
        rw [hy] at hy0 hy1 hy2 hly hiy
        have HH2 := Aside0.mk H
        clear H HH hx hy
        have HIX := Aside0.mk hix
        have HLX := Aside0.mk hlx
        have HIY := Aside0.mk hiy
        have HLY := Aside0.mk hly
        clear hix hlx hiy hly
        replace hx0 := (HR.out.cell (World.block_lt_of_cell? _ _ ((HB.out.cell (World.block_lt_of_cell? w _ hx0)).trans hx0))).trans ((HB.out.cell (World.block_lt_of_cell? w _ hx0)).trans hx0)
        replace hx1 := (HR.out.cell (World.block_lt_of_cell? _ _ ((HB.out.cell (World.block_lt_of_cell? w _ hx1)).trans hx1))).trans ((HB.out.cell (World.block_lt_of_cell? w _ hx1)).trans hx1)
        replace hx2 := (HR.out.cell (World.block_lt_of_cell? _ _ ((HB.out.cell (World.block_lt_of_cell? w _ hx2)).trans hx2))).trans ((HB.out.cell (World.block_lt_of_cell? w _ hx2)).trans hx2)
        replace hy0 := (HR.out.cell (World.block_lt_of_cell? _ _ ((HB.out.cell (World.block_lt_of_cell? w _ hy0)).trans hy0))).trans ((HB.out.cell (World.block_lt_of_cell? w _ hy0)).trans hy0)
        replace hy1 := (HR.out.cell (World.block_lt_of_cell? _ _ ((HB.out.cell (World.block_lt_of_cell? w _ hy1)).trans hy1))).trans ((HB.out.cell (World.block_lt_of_cell? w _ hy1)).trans hy1)
        replace hy2 := (HR.out.cell (World.block_lt_of_cell? _ _ ((HB.out.cell (World.block_lt_of_cell? w _ hy2)).trans hy2))).trans ((HB.out.cell (World.block_lt_of_cell? w _ hy2)).trans hy2)
        replace d0 := eq_true d0
        replace d1 := eq_true d1
        replace d2 := eq_true d2
        replace d3 := eq_true d3
        have e0 : decide (0 ≤ p.f0) = true := decide_eq_true (of_eq_true d0)
        have e1 : decide (p.f0 < (l0.length : Int)) = true := decide_eq_true (of_eq_true d1)
        have e2 : decide (0 ≤ p.f1) = true := decide_eq_true (of_eq_true d2)
        have e3 : decide (p.f1 < (l0.length : Int)) = true := decide_eq_true (of_eq_true d3)
        go_cut [10, 11] (fun v10 v11 wc => ∃ gx gy, v10 = .pointer (some ⟨gx, 0, none⟩) ∧ v11 = .pointer (some ⟨gy, 0, none⟩) ∧ Aside0 (wc.heap[gx]? = some (.cells #[.int .i64 x.f0, .slice Ax x.f1.length cx, .bool x.f2] 43 (0, 0))) ∧ Aside0 (wc.heap[gy]? = some (.cells #[.int .i64 y.f0, .slice Ay y.f1.length cy, .bool y.f2] 43 (0, 0))) ∧ Aside0 (Below wr.heap.size wr wc) ∧ Aside0 (wr.heap.size ≤ gx ∧ wr.heap.size ≤ gy))
        case first =>
          have AL := fun {a : Addr} {v : Value} (h : w6.cell? a = some v) => (⟨fun o => pw_cell_below (below_alloc (Below.refl _ _) o) h, fun o o' => pw_cell_below (below_alloc (below_alloc (Below.refl _ _) o) o') h⟩ : (∀ o, (w6.alloc o).cell? a = some v) ∧ ∀ o o', ((w6.alloc o).alloc o').cell? a = some v)
          obtain ⟨t01, t02⟩ := AL hcz0
          obtain ⟨t11, t12⟩ := AL hcz1
          obtain ⟨t21, t22⟩ := AL hx0
          obtain ⟨t31, t32⟩ := AL hx1
          obtain ⟨t41, t42⟩ := AL hx2
          obtain ⟨t51, t52⟩ := AL hy0
          obtain ⟨t61, t62⟩ := AL hy1
          obtain ⟨t71, t72⟩ := AL hy2
          clear AL
          go_region
          · go_wp2_with fail
            go_meet
            case rel => exact ⟨_, _, rfl, rfl, ⟨blk_drew (blk_alloc (heap_alloc_new w6 _) _)⟩, ⟨blk_drew (by have := heap_alloc_new (w6.alloc (.cells #[.int .i64 x.f0, .slice Ax x.f1.length cx, .bool x.f2] 43)) (.cells #[.int .i64 y.f0, .slice Ay y.f1.length cy, .bool y.f2] 43); simpa using this)⟩, ⟨below_drew1 (below_alloc (below_alloc HR.out _) _)⟩, ⟨by have := HR.out.size; exact ⟨this, by omega⟩⟩⟩
          · go_wp2_with fail
            go_meet
            case rel => exact ⟨_, _, rfl, rfl, ⟨blk_drew (by have := heap_alloc_new (w6.alloc (.cells #[.int .i64 y.f0, .slice Ay y.f1.length cy, .bool y.f2] 43)) (.cells #[.int .i64 x.f0, .slice Ax x.f1.length cx, .bool x.f2] 43); simpa using this)⟩, ⟨blk_drew (blk_alloc (heap_alloc_new w6 _) _)⟩, ⟨below_drew1 (below_alloc (below_alloc HR.out _) _)⟩, ⟨by have := HR.out.size; exact ⟨by omega, this⟩⟩⟩
        case rest =>
          clear HR BKP hcz0 hcz1 hx0 hx1 hx2 hy0 hy1 hy2
          obtain ⟨gx, gy, rfl, rfl, BKX, BKY, HR, HGXY⟩ := hcut
          obtain ⟨wq, rfl⟩ : ∃ wq : World, wq = wc := ⟨_, rfl⟩
          have hcx0 : wq.cell? ⟨gx, 0, none⟩ = some (.int .i64 x.f0) := (blk_cell BKX.out 0).trans rfl
          have hcx1 : wq.cell? ⟨gx, 1, none⟩ = some (.slice Ax x.f1.length cx) := (blk_cell BKX.out 1).trans rfl
          have hcx2 : wq.cell? ⟨gx, 2, none⟩ = some (.bool x.f2) := (blk_cell BKX.out 2).trans rfl
          have hcy0 : wq.cell? ⟨gy, 0, none⟩ = some (.int .i64 y.f0) := (blk_cell BKY.out 0).trans rfl
          have hcy1 : wq.cell? ⟨gy, 1, none⟩ = some (.slice Ay y.f1.length cy) := (blk_cell BKY.out 1).trans rfl
          have hcy2 : wq.cell? ⟨gy, 2, none⟩ = some (.bool y.f2) := (blk_cell BKY.out 2).trans rfl
          go_wp2
          go_cut [74] (fun v74 wd => v74 = .bool (!headsB x y) ∧ Aside0 (Below wq.heap.size wq wd))
          case first =>
            have AL := fun {a : Addr} {v : Value} (h : wq.cell? a = some v) => (⟨fun o => pw_cell_below (below_alloc (Below.refl _ _) o) h, fun o o' => pw_cell_below (below_alloc (below_alloc (Below.refl _ _) o) o') h⟩ : (∀ o, (wq.alloc o).cell? a = some v) ∧ ∀ o o', ((wq.alloc o).alloc o').cell? a = some v)
            obtain ⟨t01, t02⟩ := AL hcx0
            obtain ⟨t11, t12⟩ := AL hcx1
            obtain ⟨t21, t22⟩ := AL hcx2
            obtain ⟨t31, t32⟩ := AL hcy0
            obtain ⟨t41, t42⟩ := AL hcy1
            obtain ⟨t51, t52⟩ := AL hcy2
            clear AL
            have n1 : ∀ {a b : Int}, ¬ a = b → (a == b) = false ∧ decide (a = b) = false := fun h => ⟨by simpa using h, by simpa using h⟩
            by_cases q0 : x.f0 = y.f0
            · have f1 : (x.f0 == y.f0) = true := by simpa using q0
              have f2 : decide (x.f0 = y.f0) = true := by simpa using q0
              by_cases q1 : x.f1.length = y.f1.length
              · have f3 : (x.f1.length == y.f1.length) = true := by simpa using q1
                have f4 : decide (x.f1.length = y.f1.length) = true := by simpa using q1
                have f5 : ((x.f1.length : Int) == (y.f1.length : Int)) = true := by rw [q1]; simp
                by_cases q2 : x.f2 = y.f2
                · have f6 : (x.f2 == y.f2) = true := by simpa using q2
                  have H74 := Aside0.mk (show headsB x y = true from by unfold headsB; rw [f1, f3, f6]; rfl)
                  replace q0 := Aside0.mk q0
                  replace q1 := Aside0.mk q1
                  replace q2 := Aside0.mk q2
                  go_region_with (first | (go_at_call 31; refine (headOf_exact _ _ _ _ _ _).mono ?_; rintro e w' ⟨rfl, rfl⟩))
                  all_goals (go_wp2_with fail; go_meet; case rel => exact ⟨(congrArg (fun b => Value.bool (!b)) H74.out).symm, ⟨below_drew1 (below_alloc (below_alloc (below_alloc (below_alloc (Below.refl _ _) _) _) _) _)⟩⟩)
                · have f6 : (x.f2 == y.f2) = false := by simpa using q2
                  have H74 := Aside0.mk (show headsB x y = false from by unfold headsB; rw [f1, f3, f6]; rfl)
                  replace q0 := Aside0.mk q0
                  replace q1 := Aside0.mk q1
                  replace q2 := Aside0.mk q2
                  go_region_with (first | (go_at_call 31; refine (headOf_exact _ _ _ _ _ _).mono ?_; rintro e w' ⟨rfl, rfl⟩))
                  all_goals (go_wp2_with fail; go_meet; case rel => exact ⟨(congrArg (fun b => Value.bool (!b)) H74.out).symm, ⟨below_drew1 (below_alloc (below_alloc (below_alloc (below_alloc (Below.refl _ _) _) _) _) _)⟩⟩)
              · have f3 : (x.f1.length == y.f1.length) = false := by simpa using q1
                have f4 : decide (x.f1.length = y.f1.length) = false := by simpa using q1
                have f5 : ((x.f1.length : Int) == (y.f1.length : Int)) = false := beq_eq_false_iff_ne.2 (by omega)
                have H74 := Aside0.mk (show headsB x y = false from by unfold headsB; rw [f1, f3]; rfl)
                replace q0 := Aside0.mk q0
                replace q1 := Aside0.mk q1
                go_region_with (first | (go_at_call 31; refine (headOf_exact _ _ _ _ _ _).mono ?_; rintro e w' ⟨rfl, rfl⟩))
                all_goals (go_wp2_with fail; go_meet; case rel => exact ⟨(congrArg (fun b => Value.bool (!b)) H74.out).symm, ⟨below_drew1 (below_alloc (below_alloc (below_alloc (below_alloc (Below.refl _ _) _) _) _) _)⟩⟩)
            · have f1 : (x.f0 == y.f0) = false := by simpa using q0
              have f2 : decide (x.f0 = y.f0) = false := by simpa using q0
              have H74 := Aside0.mk (show headsB x y = false from by unfold headsB; rw [f1]; rfl)
              replace q0 := Aside0.mk q0
              go_region_with (first | (go_at_call 31; refine (headOf_exact _ _ _ _ _ _).mono ?_; rintro e w' ⟨rfl, rfl⟩))
              all_goals (go_wp2_with fail; go_meet; case rel => exact ⟨(congrArg (fun b => Value.bool (!b)) H74.out).symm, ⟨below_drew1 (below_alloc (below_alloc (below_alloc (below_alloc (Below.refl _ _) _) _) _) _)⟩⟩)
          case rest =>
            obtain ⟨rfl, HD⟩ := hcut
            have n0_ := Aside0.mk (below_then HR.out HR.out.size HD.out)
            have n1_ := Aside0.mk (blk_below BKX.out HD.out)
            have n2_ := Aside0.mk (blk_below BKY.out HD.out)
            clear HR BKX BKY HD hcx0 hcx1 hcx2 hcy0 hcy1 hcy2
            have HR := n0_
            have BKX := n1_
            have BKY := n2_
            clear n0_ n1_ n2_
            cases hb : headsB x y
            · have hrr : r = false := by
                have H := HH2.out
                rw [if_neg (by rw [hb]; simp)] at H
                injection H with H
                exact H.symm
              have HRR := Aside0.mk hrr
              clear hrr HH2
              go_wp2
              go_ret
              exact ⟨by have := HRR.out; subst this; rfl, below_then HB.out HB.out.size HR.out⟩
            · have H := HH2.out
              rw [if_pos hb] at H
              have HH := Aside0.mk H
              clear H HH2 hb
              have hcx1 : wc.cell? ⟨gx, 1, none⟩ = some (.slice Ax x.f1.length cx) := (blk_cell BKX.out 1).trans rfl
              go_wp2
              have HO1 := Aside0.mk (Kd.R_below (Kd.R_take (m := T.length - 1) HO.out (by omega)) HR.out)
              have HM1 := Aside0.mk (HM.out.below HR.out)
              have HB1 := Aside0.mk (below_then HB.out HB.out.size HR.out)
              clear hcx1 HO HM HB HR hgt hgt2 hgt3 hw1 hp0 hp1 hp2 hp3 hp4 hp5 hp6 htn hcut
              go_loopg [8, 78] k1 (fun kq v8 v78 w' => ∃ (K' T' : List S59) (i : Nat), v78 = .int .i64 (i : Int) ∧ Aside0 (same_l1 kq l0 K' T' i x y = some r) ∧ Aside0 (kq ≤ k1) ∧ Aside0 (Kd.R k59 59 w' w.heap.size (fun _ => True) v8 T') ∧ Aside0 (Go.VI.MapIs w' bm (K'.map pairA)) ∧ Aside0 (Below w.heap.size w w') ∧ Aside0 (w'.heap[gx]? = some (.cells #[.int .i64 x.f0, .slice Ax x.f1.length cx, .bool x.f2] 43 (0, 0))) ∧ Aside0 (w'.heap[gy]? = some (.cells #[.int .i64 y.f0, .slice Ay y.f1.length cy, .bool y.f2] 43 (0, 0))))
              case atStart => exact ⟨K, T.take (T.length - 1), 0, rfl, HH, ⟨Nat.le_refl _⟩, HO1, HM1, HB1, BKX, BKY⟩
              case round =>
                clear HO1 HM1 HB1 BKX BKY HH
                obtain ⟨K', T', i, rfl, HA, HK1, HO, HM, HB, BKX, BKY⟩ := hrel
                cases gk with
                | zero => exact absurd HA.out (by simp [same_l1])
                | succ k2 =>
                  have H := HA.out
                  simp only [same_l1] at H
                  clear HA
                  by_cases hi : i < x.f1.length
                  · rw [if_pos hi] at H
                    by_cases hi2 : i < y.f1.length
                    case neg => rw [if_neg hi2] at H; cases H
                    rw [if_pos hi2] at H
                    have HH := Aside0.mk H
                    clear H
                    obtain ⟨ax, ex, hcax⟩ := Kd.at_int HIX.out (i : Int) (by omega) (by omega)
                    subst ex
                    obtain ⟨ay, ey, hcay⟩ := Kd.at_int HIY.out (i : Int) (by omega) (by omega)
                    subst ey
                    replace hcax := (HB.out.cell (World.block_lt_of_cell? w _ hcax)).trans hcax
                    replace hcay := (HB.out.cell (World.block_lt_of_cell? w _ hcay)).trans hcay
                    simp only [Int.toNat_natCast] at hcax hcay
                    have i0 : ((0 : Int) ≤ (i : Int)) = True := eq_true (by omega)
                    have i1 : decide ((0 : Int) ≤ (i : Int)) = true := decide_eq_true (by omega)
                    have i2 := eq_true hi
                    have i3 : decide (i < x.f1.length) = true := decide_eq_true hi
                    have i4 := eq_true hi2
                    have i5 : decide (i < y.f1.length) = true := decide_eq_true hi2
                    have i6 : decide ((i : Int) < (x.f1.length : Int)) = true := decide_eq_true (by omega)
                    have i7 : decide ((i : Int) < (y.f1.length : Int)) = true := decide_eq_true (by omega)
                    have HI := Aside0.mk hi
                    have hwi : (IntKind.i64.wrap ((i : Int) + 1)) = (i : Int) + 1 := (i64_w _).trans (by have := HIX.out.2.1; unfold wrap64; omega)
                    clear hi hi2
                    have hcx1 : wr.cell? ⟨gx, 1, none⟩ = some (.slice (some ax) x.f1.length cx) := (blk_cell BKX.out 1).trans rfl
                    have hcy1 : wr.cell? ⟨gy, 1, none⟩ = some (.slice (some ay) y.f1.length cy) := (blk_cell BKY.out 1).trans rfl
                    obtain ⟨qa, hqa⟩ : ∃ qa, rd x.f1 (i : Int) = qa := ⟨_, rfl⟩
                    obtain ⟨qb, hqb⟩ : ∃ qb, rd y.f1 (i : Int) = qb := ⟨_, rfl⟩
                    have H := HH.out
                    rw [hqa, hqb] at H
                    rw [hqa] at hcax
                    rw [hqb] at hcay
                    have HH2 := Aside0.mk H
                    clear H HH hqa hqb
                    go_wp2
                    go_cut [13] (fun v13 wz => ∃ gq, v13 = .pointer (some ⟨gq, 0, none⟩) ∧ Aside0 (wz.heap[gq]? = some (.cells #[.int .i64 qa, .int .i64 qb] 59 (0, 0))) ∧ Aside0 (Below wr.heap.size wr wz))
                    case first =>
                      have AL := fun {a : Addr} {v : Value} (h : wr.cell? a = some v) => (⟨fun o => pw_cell_below (below_alloc (Below.refl _ _) o) h, fun o o' => pw_cell_below (below_alloc (below_alloc (Below.refl _ _) o) o') h⟩ : (∀ o, (wr.alloc o).cell? a = some v) ∧ ∀ o o', ((wr.alloc o).alloc o').cell? a = some v)
                      obtain ⟨t01, t02⟩ := AL hcx1
                      obtain ⟨t11, t12⟩ := AL hcy1
                      obtain ⟨t21, t22⟩ := AL hcax
                      obtain ⟨t31, t32⟩ := AL hcay
                      clear AL
                      go_region
                      all_goals (go_wp2_with fail; go_meet; case rel => exact ⟨_, rfl, ⟨blk_drew (heap_alloc_new wr _)⟩, ⟨below_drew1 (below_alloc (Below.refl _ _) _)⟩⟩)
                    case rest =>
                      clear hcx1 hcy1 hcax hcay
                      obtain ⟨gq, rfl, BKQ, HR⟩ := hcut
                      have n0_ := Aside0.mk (Kd.R_below HO.out HR.out)
                      have n1_ := Aside0.mk (HM.out.below HR.out)
                      have n2_ := Aside0.mk (below_then HB.out HB.out.size HR.out)
                      have n3_ := Aside0.mk (blk_below BKX.out HR.out)
                      have n4_ := Aside0.mk (blk_below BKY.out HR.out)
                      clear HO HM HB BKX BKY HR
                      have HO := n0_
                      have HM := n1_
                      have HB := n2_
                      have BKX := n3_
                      have BKY := n4_
                      clear n0_ n1_ n2_ n3_ n4_
                      have hq0 : wc.cell? ⟨gq, 0, none⟩ = some (.int .i64 qa) := (blk_cell BKQ.out 0).trans rfl
                      have hq1 : wc.cell? ⟨gq, 1, none⟩ = some (.int .i64 qb) := (blk_cell BKQ.out 1).trans rfl
                      cases hb : hasB K' ⟨qa, qb⟩
                      · have H := HH2.out
                        rw [if_neg (by rw [hb]; simp)] at H
                        by_cases hl : T'.length < 8796093022208
                        case neg => rw [if_neg hl] at H; cases H
                        rw [if_pos hl] at H
                        have HH := Aside0.mk H
                        have HL := Aside0.mk hl
                        have HBB := Aside0.mk hb
                        clear H HH2 hl hb
                        go_wp2_with (first | ((with_reducible refine gate_ (.lookup 60 (.tmp 92) (.tmp 93) false) rfl ?_); refine Go.VI.look_event rfl (.tmp 92) (.tmp 93) 60 rfl Try.underlying60 rfl rfl HM.out (.agg [.int .i64 qa, .int .i64 qb]) (by kernel_rfl) (.agg _ _ (.cons _ _ _ _ (.int _ _) (.cons _ _ _ _ (.int _ _) .nil))) none (findA59_no HBB.out) (z := .bool false) (by kernel_rfl) ?_; intro v9 hv9; obtain rfl := vr_bool hv9; clear hv9) | ((with_reducible refine gate_ (.mapUpdate 60 (.tmp 96) (.tmp 97) (.const (.bool true))) rfl ?_); refine Go.VI.put_event rfl (.tmp 96) (.tmp 97) (.const (.bool true)) 60 (Or.inl rfl) Try.underlying60 rfl rfl rfl HM.out (.agg [.int .i64 qa, .int .i64 qb]) (.bool true) (by kernel_rfl) (.agg _ _ (.cons _ _ _ _ (.int _ _) (.cons _ _ _ _ (.int _ _) .nil))) (.bool true) (es' := List.map pairA (K' ++ [(⟨qa, qb⟩ : S59)])) (put59 (q := ⟨qa, qb⟩) HBB.out) ?_; intro w3' hm hg; have hne : ∀ (g_ e_ : Nat) (c_ : Array Value), wc.heap[g_]? = some (.cells c_ e_ (0, 0)) → some g_ ≠ some bm := fun g_ e_ c_ hh_ he_ => HM.out.ne_row hh_ (by injection he_ with he_; exact he_.symm); have n0_ := Aside0.mk (Kd.R_mono (Kd.R_grown (Kd.R_bound HO.out) hg (fun k_ hk_ => by obtain ⟨_, _, _, e_, _, c_, hc_⟩ := hk_; exact hne k_ e_ c_ hc_)) (fun _ hk_ => hk_.1)); have n2_ := Aside0.mk (HB.out.grown hg (below_size HB.out) (fun k_ hk_ => by injection hk_ with hk_; rw [← hk_]; exact HBM.out)); have n3_ := Aside0.mk (blk_grown BKX.out hg (hne _ _ _ BKX.out)); have n4_ := Aside0.mk (blk_grown BKY.out hg (hne _ _ _ BKY.out)); have n5_ := Aside0.mk (blk_grown BKQ.out hg (hne _ _ _ BKQ.out)); clear HO HM HB BKX BKY BKQ hq0 hq1; have HO := n0_; have HM := Aside0.mk hm; have HB := n2_; have BKX := n3_; have BKY := n4_; have BKQ := n5_; clear n0_ n2_ n3_ n4_ n5_ hm hg hne; have hq0 : w3'.cell? ⟨gq, 0, none⟩ = some (.int .i64 qa) := (blk_cell BKQ.out 0).trans rfl; have hq1 : w3'.cell? ⟨gq, 1, none⟩ = some (.int .i64 qb) := (blk_cell BKQ.out 1).trans rfl) | ((with_reducible refine gate_builtin (b := .append) (xs := #[.tmp 98, .tmp 100]) rfl ?_); at_builtin; refine Kd.R_append k59 (w0 := w) w.heap.size rfl (.tmp 98) (.tmp 100) 61 59 (.agg #[(.int .i64 0), (.int .i64 0)]) 16 rfl Try.underlying61 info59 rfl (by decide) (by omega) u8 T' (⟨qa, qb⟩ : S59) [.int .i64 qa, .int .i64 qb] (fun _ => True) (fun _ => False) rfl rfl ?aP (fun _ hk => hk.elim) ?aF ?aO ?aB ?aS ?aL ?_; (case aP => exact (k59_mkM _ _ _ (⟨qa, qb⟩ : S59))); (case aB => exact HB.out); (case aF => exact (fun _ _ => trivial)); (case aO => exact HO.out); (case aS => exact (below_size HB.out)); (case aL => have := HL.out; omega); intro v111 w7 ho hb hg hat; have hty := Kd.R_typed HO.out; have hne : ∀ (g_ e_ : Nat) (c_ : Array Value), e_ ≠ 59 → w3'.heap[g_]? = some (.cells c_ e_ (0, 0)) → some g_ ≠ (u8 : Value).ownBlock := fun g_ e_ c_ hn_ hh_ he_ => (by obtain ⟨c2_, hc2_⟩ := hty g_ he_.symm; rw [hh_] at hc2_; injection hc2_ with hc2_; injection hc2_ with _ hc3_; exact hn_ hc3_); have n1_ := Aside0.mk (HM.out.grown hg (fun he_ => by obtain ⟨c2_, hc2_⟩ := hty bm he_.symm; exact HM.out.ne_row hc2_ rfl)); have n3_ := Aside0.mk (blk_grown BKX.out hg (hne _ _ _ (by decide) BKX.out)); have n4_ := Aside0.mk (blk_grown BKY.out hg (hne _ _ _ (by decide) BKY.out)); clear HO HM HB BKX BKY BKQ hq0 hq1; have HO := Aside0.mk ho; have HM := n1_; have HB := Aside0.mk hb; have BKX := n3_; have BKY := n4_; clear n1_ n3_ n4_ ho hb hg hat hty hne))
                        go_roundg k2
                        case measure => omega
                        case rel => exact ⟨K' ++ [⟨qa, qb⟩], T' ++ [⟨qa, qb⟩], i + 1, by go_num, HH, ⟨by have := HK1.out; omega⟩, HO, HM, HB, BKX, BKY⟩
                      · have H := HH2.out
                        rw [if_pos hb] at H
                        have HH := Aside0.mk H
                        have HBB := Aside0.mk hb
                        clear H HH2 hb
                        go_wp2_with (first | ((with_reducible refine gate_ (.lookup 60 (.tmp 92) (.tmp 93) false) rfl ?_); refine Go.VI.look_event rfl (.tmp 92) (.tmp 93) 60 rfl Try.underlying60 rfl rfl HM.out (.agg [.int .i64 qa, .int .i64 qb]) (by kernel_rfl) (.agg _ _ (.cons _ _ _ _ (.int _ _) (.cons _ _ _ _ (.int _ _) .nil))) (some (.bool true)) (findA59_yes HBB.out) (z := .bool false) (by kernel_rfl) ?_; intro v9 hv9; obtain rfl := vr_bool hv9; clear hv9))
                        go_roundg k2
                        case measure => omega
                        case rel => exact ⟨K', T', i + 1, by go_num, HH, ⟨by have := HK1.out; omega⟩, HO, HM, HB, BKX, BKY⟩
                  · rw [if_neg hi] at H
                    have HH := Aside0.mk H
                    have i3 : decide ((i : Int) < (x.f1.length : Int)) = false := decide_eq_false (by omega)
                    have i4 : decide (i < x.f1.length) = false := decide_eq_false hi
                    have i5 := eq_false hi
                    clear H hi
                    go_wp2
                    go_roundg k2
                    case measure => have := HK1.out; omega
                    case rel => exact ⟨K', T', HH, HO, HM, HB⟩
set_option maxHeartbeats 8000000 in
set_option maxRecDepth 100000 in
theorem same_bad (kv : Nat) (A0 : Option Addr) (c0 : Nat) (l0 : List (S43)) (a1 : Int) (a2 : Int) (vb : Bool) (w : World) (hr0 : Kd.C k43 w A0 l0.length l0) (hc0 : l0.length ≤ c0) (hv : kinds_Valid.f kv l0 = some vb)
    (h : vb = false ∨ a1 < 0 ∨ (l0.length : Int) ≤ a1 ∨ a2 < 0 ∨ (l0.length : Int) ≤ a2) :
    Calls Try.prog 22 #[.slice A0 l0.length c0, .int .i64 a1, .int .i64 a2] w fun e w' => e = .returned (.bool false) ∧ Below w.heap.size w w' := by
  have HR0 := Aside0.mk hr0
  have HC0 := Aside0.mk hc0
  have HV := Aside0.mk hv
  clear hr0 hc0 hv
  have HB := Aside0.mk (Below.refl w.heap.size w)
  cases vb
  case false =>
    clear h
    go_enter Try.func22, Try.ntmps22
    go_wp2_with (first | ((with_reducible refine gate_callee (f := 19) rfl ?_); refine goesL_ (some 15) rfl rfl Try.func19 (by kernel_rfl) rfl #[.slice A0 l0.length c0] rfl (by (try simp only [List.map_toArray, List.map_cons, List.map_nil]); first | done | rfl) ?_; (with_reducible refine (kinds_Valid.calls kv _ _ l0 false _ ?side1 ?side2 HV.out).mono ?_); (case side1 => exact (Kd.C_below HR0.out HB.out)); (case side2 => exact HC0.out); rintro e w1 ⟨rfl, hb⟩; refine ⟨_, rfl, ?_⟩; have n0_ := Aside0.mk (below_step HB.out hb); clear HB hb; have HB := n0_; clear n0_))
    go_ret
    exact ⟨rfl, HB.out⟩
  case true =>
  by_cases c1 : a1 < 0
  · have b1 : decide (a1 < 0) = true := decide_eq_true c1
    clear h c1
    go_enter Try.func22, Try.ntmps22
    go_wp2_with (first | ((with_reducible refine gate_callee (f := 19) rfl ?_); refine goesL_ (some 15) rfl rfl Try.func19 (by kernel_rfl) rfl #[.slice A0 l0.length c0] rfl (by (try simp only [List.map_toArray, List.map_cons, List.map_nil]); first | done | rfl) ?_; (with_reducible refine (kinds_Valid.calls kv _ _ l0 true _ ?side1 ?side2 HV.out).mono ?_); (case side1 => exact (Kd.C_below HR0.out HB.out)); (case side2 => exact HC0.out); rintro e w1 ⟨rfl, hb⟩; refine ⟨_, rfl, ?_⟩; have n0_ := Aside0.mk (below_step HB.out hb); clear HB hb; have HB := n0_; clear n0_))
    go_ret
    exact ⟨rfl, HB.out⟩
  have b1 : decide (a1 < 0) = false := decide_eq_false c1
  by_cases c2 : (l0.length : Int) ≤ a1
  · have b2 : decide (a1 ≥ (l0.length : Int)) = true := decide_eq_true c2
    clear h c1 c2
    go_enter Try.func22, Try.ntmps22
    go_wp2_with (first | ((with_reducible refine gate_callee (f := 19) rfl ?_); refine goesL_ (some 15) rfl rfl Try.func19 (by kernel_rfl) rfl #[.slice A0 l0.length c0] rfl (by (try simp only [List.map_toArray, List.map_cons, List.map_nil]); first | done | rfl) ?_; (with_reducible refine (kinds_Valid.calls kv _ _ l0 true _ ?side1 ?side2 HV.out).mono ?_); (case side1 => exact (Kd.C_below HR0.out HB.out)); (case side2 => exact HC0.out); rintro e w1 ⟨rfl, hb⟩; refine ⟨_, rfl, ?_⟩; have n0_ := Aside0.mk (below_step HB.out hb); clear HB hb; have HB := n0_; clear n0_))
    go_ret
    exact ⟨rfl, HB.out⟩
  have b2 : decide (a1 ≥ (l0.length : Int)) = false := decide_eq_false c2
  by_cases c3 : a2 < 0
  · have b3 : decide (a2 < 0) = true := decide_eq_true c3
    clear h c1 c2 c3
    go_enter Try.func22, Try.ntmps22
    go_wp2_with (first | ((with_reducible refine gate_callee (f := 19) rfl ?_); refine goesL_ (some 15) rfl rfl Try.func19 (by kernel_rfl) rfl #[.slice A0 l0.length c0] rfl (by (try simp only [List.map_toArray, List.map_cons, List.map_nil]); first | done | rfl) ?_; (with_reducible refine (kinds_Valid.calls kv _ _ l0 true _ ?side1 ?side2 HV.out).mono ?_); (case side1 => exact (Kd.C_below HR0.out HB.out)); (case side2 => exact HC0.out); rintro e w1 ⟨rfl, hb⟩; refine ⟨_, rfl, ?_⟩; have n0_ := Aside0.mk (below_step HB.out hb); clear HB hb; have HB := n0_; clear n0_))
    go_ret
    exact ⟨rfl, HB.out⟩
  have b3 : decide (a2 < 0) = false := decide_eq_false c3
  have c4 : (l0.length : Int) ≤ a2 := by
    rcases h with h | h | h | h | h
    · cases h
    · exact absurd h c1
    · exact absurd h c2
    · exact absurd h c3
    · exact h
  have b4 : decide (a2 ≥ (l0.length : Int)) = true := decide_eq_true c4
  clear h c1 c2 c3 c4
  go_enter Try.func22, Try.ntmps22
  go_wp2_with (first | ((with_reducible refine gate_callee (f := 19) rfl ?_); refine goesL_ (some 15) rfl rfl Try.func19 (by kernel_rfl) rfl #[.slice A0 l0.length c0] rfl (by (try simp only [List.map_toArray, List.map_cons, List.map_nil]); first | done | rfl) ?_; (with_reducible refine (kinds_Valid.calls kv _ _ l0 true _ ?side1 ?side2 HV.out).mono ?_); (case side1 => exact (Kd.C_below HR0.out HB.out)); (case side2 => exact HC0.out); rintro e w1 ⟨rfl, hb⟩; refine ⟨_, rfl, ?_⟩; have n0_ := Aside0.mk (below_step HB.out hb); clear HB hb; have HB := n0_; clear n0_))
  go_ret
  exact ⟨rfl, HB.out⟩
theorem same_mono_l : ∀ k, (∀ y0 y1 y2, LeO (same_l0 k y0 y1 y2) (same_l0 (k + 1) y0 y1 y2)) ∧ (∀ y0 y1 y2 y3 y4 y5, LeO (same_l1 k y0 y1 y2 y3 y4 y5) (same_l1 (k + 1) y0 y1 y2 y3 y4 y5))
  | 0 => ⟨fun _ _ _ r h => by simp [same_l0] at h, fun _ _ _ _ _ _ r h => by simp [same_l1] at h⟩
  | k + 1 => by
    obtain ⟨ih0, ih1⟩ := same_mono_l k
    constructor
    · intro y0 y1 y2
      unfold same_l0
      repeat' first
      | (with_reducible exact ih1 _ _ _ _ _ _)
      | (with_reducible exact LeO.refl _)
      | (with_reducible exact LeO.none _)
      | (with_reducible refine LeO.ite ?_ ?_)
    · intro y0 y1 y2 y3 y4 y5
      unfold same_l1
      repeat' first
      | (with_reducible exact ih0 _ _ _)
      | (with_reducible exact ih1 _ _ _ _ _ _)
      | (with_reducible exact LeO.refl _)
      | (with_reducible exact LeO.none _)
      | (with_reducible refine LeO.ite ?_ ?_)
def kinds_Same.f (k : Nat) (l0 : List (S43)) (a1 : Int) (a2 : Int) : Option (Bool) := (kinds_Valid.f k l0).bind fun v => if v = true then (if 0 ≤ a1 then (if a1 < (l0.length : Int) then (if 0 ≤ a2 then (if a2 < (l0.length : Int) then same_l0 k l0 [⟨a1, a2⟩] [⟨a1, a2⟩] else some false) else some false) else some false) else some false) else some false
theorem kinds_Same.mono : ∀ a0 a1 a2 k, LeO (kinds_Same.f k a0 a1 a2) (kinds_Same.f (k + 1) a0 a1 a2) := by
  intro a0 a1 a2 k
  unfold kinds_Same.f
  repeat' first
      | (with_reducible exact kinds_Valid.mono _ _)
      | (with_reducible exact (same_mono_l k).1 _ _ _)
      | (with_reducible exact LeO.refl _)
      | (with_reducible refine LeO.ite ?_ ?_)
      | (with_reducible refine LeO.bind ?_ (fun _ => ?_))
theorem kinds_Same.calls (k : Nat) (A0 : Option Addr) (c0 : Nat) (l0 : List (S43)) (a1 : Int) (a2 : Int) (r : Bool) (w : World) (hr0 : Kd.C k43 w A0 l0.length l0) (hc0 : l0.length ≤ c0) (h : kinds_Same.f k l0 a1 a2 = some r) :
    Calls Try.prog 22 #[.slice A0 l0.length c0, .int .i64 a1, .int .i64 a2] w fun e w' => e = .returned (.bool r) ∧ Below w.heap.size w w' := by
  obtain ⟨v, hv, h⟩ := Option.bind_eq_some_iff.1 h
  cases v
  · rw [if_neg (by simp)] at h
    injection h with h
    subst h
    exact same_bad k A0 c0 l0 a1 a2 false w hr0 hc0 hv (.inl rfl)
  · rw [if_pos rfl] at h
    by_cases h1 : 0 ≤ a1
    case neg => rw [if_neg h1] at h; injection h with h; subst h; exact same_bad k A0 c0 l0 a1 a2 true w hr0 hc0 hv (.inr (.inl (by omega)))
    rw [if_pos h1] at h
    by_cases h2 : a1 < (l0.length : Int)
    case neg => rw [if_neg h2] at h; injection h with h; subst h; exact same_bad k A0 c0 l0 a1 a2 true w hr0 hc0 hv (.inr (.inr (.inl (by omega))))
    rw [if_pos h2] at h
    by_cases h3 : 0 ≤ a2
    case neg => rw [if_neg h3] at h; injection h with h; subst h; exact same_bad k A0 c0 l0 a1 a2 true w hr0 hc0 hv (.inr (.inr (.inr (.inl (by omega)))))
    rw [if_pos h3] at h
    by_cases h4 : a2 < (l0.length : Int)
    case neg => rw [if_neg h4] at h; injection h with h; subst h; exact same_bad k A0 c0 l0 a1 a2 true w hr0 hc0 hv (.inr (.inr (.inr (.inr (by omega)))))
    rw [if_pos h4] at h
    exact same_good k k A0 c0 l0 a1 a2 r w hr0 hc0 hv h1 h2 h3 h4 h

end Go.Proofs.Ytapagakfckjhdaa.PKindsSame
