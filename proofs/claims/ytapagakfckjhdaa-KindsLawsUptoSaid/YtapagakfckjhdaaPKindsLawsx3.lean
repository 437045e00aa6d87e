-- written for this claim over a table of functions with stand-ins
import Derived.Test.YtapagakfckjhdaaPKindsLawsx0
import Derived.Test.YtapagakfckjhdaaPKindsLawsx1
import Derived.Test.YtapagakfckjhdaaPKindsLawsx2
namespace Go.Proofs.Ytapagakfckjhdaa.PKindsLaws
open Go.RowKit Go.Proofs.YtapagakfckjhdaaW.PrintWords Go.Proofs.YtapagakfckjhdaaW.PrintLast Go.Proofs.YtapagakfckjhdaaW.PrintMore
attribute [local go_sem] max2_int min2_int max_two min_two max_three min_three max_four min_four   -- for this text's walks alone
set_option linter.unusedVariables false
set_option linter.unusedSimpArgs false

/-! ### squintlaw04_KindsLaws: function 6 -/
mutual
def squintlaw04_KindsLaws.j0 : Nat → List (S43) → Int → Int → Int → Int → Bool → Option (Bool)
 | 0, _, _, _, _, _, _ => none
 | k + 1, x0, x1, x2, x3, x9, x32 => if x32 = true then ((squintlaw04_shown.f).bind fun t144 => (some t144)) else ((squintlaw04_shown.f).bind fun t145 => ((squintlaw04_among.f x1 x9).bind fun t146 => ((squintlaw04_among.f x2 x9).bind fun t147 => ((squintlaw04_among.f x3 x9).bind fun t148 => ((kinds_Valid.f k x0).bind fun t149 => (if t149 = true then ((kinds_Same.f k x0 t146 t147).bind fun t151 => ((kinds_Same.f k x0 t147 t148).bind fun t152 => ((kinds_Same.f k x0 t146 t148).bind fun t153 => (if t145 = true then ((kinds_Same.f k x0 t146 t146).bind fun t154 => (if t154 = true then ((kinds_Same.f k x0 t147 t146).bind fun t155 => (if (t155 != t151) = true then (squintlaw04_KindsLaws.j1 k x0 t146 t147 t148 x9 t151 t152 t153 true) else (if t151 = true then (if t152 = true then (if t153 = true then (squintlaw04_KindsLaws.j1 k x0 t146 t147 t148 x9 t151 t152 t153 false) else (squintlaw04_KindsLaws.j1 k x0 t146 t147 t148 x9 t151 t152 t153 true)) else (squintlaw04_KindsLaws.j1 k x0 t146 t147 t148 x9 t151 t152 t153 t153)) else (squintlaw04_KindsLaws.j1 k x0 t146 t147 t148 x9 t151 t152 t153 false)))) else (squintlaw04_KindsLaws.j1 k x0 t146 t147 t148 x9 t151 t152 t153 true))) else (squintlaw04_KindsLaws.j1 k x0 t146 t147 t148 x9 t151 t152 t153 true))))) else (if t145 = true then ((kinds_Same.f k x0 t146 t146).bind fun t150 => (some (!t150))) else (some false))))))))
def squintlaw04_KindsLaws.j1 : Nat → List (S43) → Int → Int → Int → Int → Bool → Bool → Bool → Bool → Option (Bool)
 | 0, _, _, _, _, _, _, _, _, _ => none
 | k + 1, x0, x1, x2, x3, x9, x11, x12, x13, x103 => if x103 = true then (some false) else (if 0 ≤ x1 then (if x1 < (x0.length : Int) then (if 0 ≤ x2 then (if x2 < (x0.length : Int) then (if ((rd_T43 x0 x1).f0) = ((rd_T43 x0 x2).f0) then (if (((rd_T43 x0 x1).f2) == ((rd_T43 x0 x2).f2)) = true then (squintlaw04_KindsLaws.j2 k x0 x1 x2 x3 x9 x11 x12 x13 ((((rd_T43 x0 x1).f1).length : Int) == (((rd_T43 x0 x2).f1).length : Int))) else (squintlaw04_KindsLaws.j2 k x0 x1 x2 x3 x9 x11 x12 x13 false)) else (squintlaw04_KindsLaws.j2 k x0 x1 x2 x3 x9 x11 x12 x13 false)) else (none)) else (none)) else (none)) else (none))
def squintlaw04_KindsLaws.j2 : Nat → List (S43) → Int → Int → Int → Int → Bool → Bool → Bool → Bool → Option (Bool)
 | 0, _, _, _, _, _, _, _, _, _ => none
 | k + 1, x0, x1, x2, x3, x9, x11, x12, x13, x14 => squintlaw04_KindsLaws.l0 k x0 x1 x2 x3 x9 x11 x12 x13 x14 x14 0
def squintlaw04_KindsLaws.j4 : Nat → List (S43) → Int → Int → Int → Int → Bool → Bool → Bool → Bool → Option (Bool)
 | 0, _, _, _, _, _, _, _, _, _ => none
 | k + 1, x0, x1, x2, x3, x9, x11, x12, x13, x15 => if (x11 != x15) = true then (some false) else (if x11 = true then ((squintlaw04_ownRows.f k x0).bind fun t168 => (squintlaw04_KindsLaws.l1 k x1 x2 x3 x9 x12 x13 t168 0)) else (some true))
def squintlaw04_KindsLaws.l1 : Nat → Int → Int → Int → Int → Bool → Bool → List (S43) → Int → Option (Bool)
 | 0, _, _, _, _, _, _, _, _ => none
 | k + 1, x1, x2, x3, x9, x12, x13, x17, x18 => if x18 < x9 then (squintlaw04_KindsLaws.l2 k x1 x2 x3 x9 x12 x13 x17 x18 0) else ((kinds_Same.f k x17 x3 x1).bind fun t171 => (if (t171 == x13) = true then ((kinds_Same.f k x17 x2 x3).bind fun t172 => (if (t172 == x12) = true then ((kinds_Same.f k x17 x1 x2).bind fun t173 => (some t173)) else (some false))) else (some false)))
def squintlaw04_KindsLaws.l2 : Nat → Int → Int → Int → Int → Bool → Bool → List (S43) → Int → Int → Option (Bool)
 | 0, _, _, _, _, _, _, _, _, _ => none
 | k + 1, x1, x2, x3, x9, x12, x13, x17, x18, x19 => if 0 ≤ x18 then (if x18 < (x17.length : Int) then (if x19 < (((rd_T43 x17 x18).f1).length : Int) then (if 0 ≤ x19 then (if (rd ((rd_T43 x17 x18).f1) x19) = x1 then (if (Int.tmod (wrap64 (x18 + x19)) 2) = 0 then (squintlaw04_KindsLaws.l2 k x1 x2 x3 x9 x12 x13 (x17.set (x18 : Int).toNat (⟨(rd_T43 x17 x18).f0, (((rd_T43 x17 x18).f1).set (x19 : Int).toNat x2), (rd_T43 x17 x18).f2⟩ : S43)) x18 (wrap64 (x19 + 1))) else (squintlaw04_KindsLaws.l2 k x1 x2 x3 x9 x12 x13 x17 x18 (wrap64 (x19 + 1)))) else (squintlaw04_KindsLaws.l2 k x1 x2 x3 x9 x12 x13 x17 x18 (wrap64 (x19 + 1)))) else (none)) else (squintlaw04_KindsLaws.l1 k x1 x2 x3 x9 x12 x13 x17 (wrap64 (x18 + 1)))) else (none)) else (none)
def squintlaw04_KindsLaws.l0 : Nat → List (S43) → Int → Int → Int → Int → Bool → Bool → Bool → Bool → Bool → Int → Option (Bool)
 | 0, _, _, _, _, _, _, _, _, _, _, _ => none
 | k + 1, x0, x1, x2, x3, x9, x11, x12, x13, x14, x15, x16 => if x14 = true then (if 0 ≤ x1 then (if x1 < (x0.length : Int) then (if x16 < (((rd_T43 x0 x1).f1).length : Int) then (if x15 = true then (if 0 ≤ x16 then (if 0 ≤ x2 then (if x2 < (x0.length : Int) then (if x16 < (((rd_T43 x0 x2).f1).length : Int) then ((kinds_Same.f k x0 (rd ((rd_T43 x0 x1).f1) x16) (rd ((rd_T43 x0 x2).f1) x16)).bind fun t167 => (squintlaw04_KindsLaws.l0 k x0 x1 x2 x3 x9 x11 x12 x13 x14 t167 (wrap64 (x16 + 1)))) else (none)) else (none)) else (none)) else (none)) else (squintlaw04_KindsLaws.l0 k x0 x1 x2 x3 x9 x11 x12 x13 x14 false (wrap64 (x16 + 1)))) else (squintlaw04_KindsLaws.j4 k x0 x1 x2 x3 x9 x11 x12 x13 x15)) else (none)) else (none)) else (squintlaw04_KindsLaws.j4 k x0 x1 x2 x3 x9 x11 x12 x13 x15)
end
def squintlaw04_KindsLaws.f (k : Nat) (l0 : List (S43)) (a1 : Int) (a2 : Int) (a3 : Int) : Option (Bool) := if (l0.length : Int) = 0 then (squintlaw04_KindsLaws.j0 k l0 a1 a2 a3 (l0.length : Int) true) else (if (l0.length : Int) > 300 then (squintlaw04_KindsLaws.j0 k l0 a1 a2 a3 (l0.length : Int) true) else ((squintlaw04_ofRows.f k l0).bind fun t140 => ((squintlaw04_beyond.f k t140).bind fun t143 => (squintlaw04_KindsLaws.j0 k l0 a1 a2 a3 (l0.length : Int) t143))))
theorem squintlaw04_KindsLaws.mono_l : ∀ k, (∀ y0 y1 y2 y3 y4 y5, LeO (squintlaw04_KindsLaws.j0 k y0 y1 y2 y3 y4 y5) (squintlaw04_KindsLaws.j0 (k + 1) y0 y1 y2 y3 y4 y5)) ∧ (∀ y0 y1 y2 y3 y4 y5 y6 y7 y8, LeO (squintlaw04_KindsLaws.j1 k y0 y1 y2 y3 y4 y5 y6 y7 y8) (squintlaw04_KindsLaws.j1 (k + 1) y0 y1 y2 y3 y4 y5 y6 y7 y8)) ∧ (∀ y0 y1 y2 y3 y4 y5 y6 y7 y8, LeO (squintlaw04_KindsLaws.j2 k y0 y1 y2 y3 y4 y5 y6 y7 y8) (squintlaw04_KindsLaws.j2 (k + 1) y0 y1 y2 y3 y4 y5 y6 y7 y8)) ∧ (∀ y0 y1 y2 y3 y4 y5 y6 y7 y8, LeO (squintlaw04_KindsLaws.j4 k y0 y1 y2 y3 y4 y5 y6 y7 y8) (squintlaw04_KindsLaws.j4 (k + 1) y0 y1 y2 y3 y4 y5 y6 y7 y8)) ∧ (∀ y0 y1 y2 y3 y4 y5 y6 y7, LeO (squintlaw04_KindsLaws.l1 k y0 y1 y2 y3 y4 y5 y6 y7) (squintlaw04_KindsLaws.l1 (k + 1) y0 y1 y2 y3 y4 y5 y6 y7)) ∧ (∀ y0 y1 y2 y3 y4 y5 y6 y7 y8, LeO (squintlaw04_KindsLaws.l2 k y0 y1 y2 y3 y4 y5 y6 y7 y8) (squintlaw04_KindsLaws.l2 (k + 1) y0 y1 y2 y3 y4 y5 y6 y7 y8)) ∧ (∀ y0 y1 y2 y3 y4 y5 y6 y7 y8 y9 y10, LeO (squintlaw04_KindsLaws.l0 k y0 y1 y2 y3 y4 y5 y6 y7 y8 y9 y10) (squintlaw04_KindsLaws.l0 (k + 1) y0 y1 y2 y3 y4 y5 y6 y7 y8 y9 y10))
 | 0 => ⟨fun _ _ _ _ _ _ r h => by simp [squintlaw04_KindsLaws.j0] at h, fun _ _ _ _ _ _ _ _ _ r h => by simp [squintlaw04_KindsLaws.j1] at h, fun _ _ _ _ _ _ _ _ _ r h => by simp [squintlaw04_KindsLaws.j2] at h, fun _ _ _ _ _ _ _ _ _ r h => by simp [squintlaw04_KindsLaws.j4] at h, fun _ _ _ _ _ _ _ _ r h => by simp [squintlaw04_KindsLaws.l1] at h, fun _ _ _ _ _ _ _ _ _ r h => by simp [squintlaw04_KindsLaws.l2] at h, fun _ _ _ _ _ _ _ _ _ _ _ r h => by simp [squintlaw04_KindsLaws.l0] at h⟩
 | k + 1 => by
  obtain ⟨ih0, ih1, ih2, ih3, ih4, ih5, ih6⟩ := squintlaw04_KindsLaws.mono_l k
  refine ⟨?_, ?_, ?_, ?_, ?_, ?_, ?_⟩
  ·intro y0 y1 y2 y3 y4 y5
   unfold squintlaw04_KindsLaws.j0
   repeat' first
   | (with_reducible exact ih0 _ _ _ _ _ _)
   | (with_reducible exact ih1 _ _ _ _ _ _ _ _ _)
   | (with_reducible exact ih2 _ _ _ _ _ _ _ _ _)
   | (with_reducible exact ih3 _ _ _ _ _ _ _ _ _)
   | (with_reducible exact ih4 _ _ _ _ _ _ _ _)
   | (with_reducible exact ih5 _ _ _ _ _ _ _ _ _)
   | (with_reducible exact ih6 _ _ _ _ _ _ _ _ _ _ _)
   | (with_reducible exact kinds_Same.mono _ _ _ _)
   | (with_reducible exact kinds_Valid.mono _ _)
   | (with_reducible exact squintlaw04_beyond.mono _ _)
   | (with_reducible exact squintlaw04_ofRows.mono _ _)
   | (with_reducible exact squintlaw04_ownRows.mono _ _)
   | (with_reducible exact LeO.refl _)
   | (with_reducible exact LeO.none _)
   | (with_reducible refine LeO.ite ?_ ?_)
   | (with_reducible refine LeO.bind ?_ (fun _ => ?_))
   | exact ih0 _ _ _ _ _ _
   | exact ih1 _ _ _ _ _ _ _ _ _
   | exact ih2 _ _ _ _ _ _ _ _ _
   | exact ih3 _ _ _ _ _ _ _ _ _
   | exact ih4 _ _ _ _ _ _ _ _
   | exact ih5 _ _ _ _ _ _ _ _ _
   | exact ih6 _ _ _ _ _ _ _ _ _ _ _
   | exact kinds_Same.mono _ _ _ _
   | exact kinds_Valid.mono _ _
   | exact squintlaw04_beyond.mono _ _
   | exact squintlaw04_ofRows.mono _ _
   | exact squintlaw04_ownRows.mono _ _
   | exact LeO.none _
   | refine LeO.ite ?_ ?_
   | refine LeO.bind ?_ (fun _ => ?_)
  ·intro y0 y1 y2 y3 y4 y5 y6 y7 y8
   unfold squintlaw04_KindsLaws.j1
   repeat' first
   | (with_reducible exact ih0 _ _ _ _ _ _)
   | (with_reducible exact ih1 _ _ _ _ _ _ _ _ _)
   | (with_reducible exact ih2 _ _ _ _ _ _ _ _ _)
   | (with_reducible exact ih3 _ _ _ _ _ _ _ _ _)
   | (with_reducible exact ih4 _ _ _ _ _ _ _ _)
   | (with_reducible exact ih5 _ _ _ _ _ _ _ _ _)
   | (with_reducible exact ih6 _ _ _ _ _ _ _ _ _ _ _)
   | (with_reducible exact kinds_Same.mono _ _ _ _)
   | (with_reducible exact kinds_Valid.mono _ _)
   | (with_reducible exact squintlaw04_beyond.mono _ _)
   | (with_reducible exact squintlaw04_ofRows.mono _ _)
   | (with_reducible exact squintlaw04_ownRows.mono _ _)
   | (with_reducible exact LeO.refl _)
   | (with_reducible exact LeO.none _)
   | (with_reducible refine LeO.ite ?_ ?_)
   | (with_reducible refine LeO.bind ?_ (fun _ => ?_))
   | exact ih0 _ _ _ _ _ _
   | exact ih1 _ _ _ _ _ _ _ _ _
   | exact ih2 _ _ _ _ _ _ _ _ _
   | exact ih3 _ _ _ _ _ _ _ _ _
   | exact ih4 _ _ _ _ _ _ _ _
   | exact ih5 _ _ _ _ _ _ _ _ _
   | exact ih6 _ _ _ _ _ _ _ _ _ _ _
   | exact kinds_Same.mono _ _ _ _
   | exact kinds_Valid.mono _ _
   | exact squintlaw04_beyond.mono _ _
   | exact squintlaw04_ofRows.mono _ _
   | exact squintlaw04_ownRows.mono _ _
   | exact LeO.none _
   | refine LeO.ite ?_ ?_
   | refine LeO.bind ?_ (fun _ => ?_)
  ·intro y0 y1 y2 y3 y4 y5 y6 y7 y8
   unfold squintlaw04_KindsLaws.j2
   repeat' first
   | (with_reducible exact ih0 _ _ _ _ _ _)
   | (with_reducible exact ih1 _ _ _ _ _ _ _ _ _)
   | (with_reducible exact ih2 _ _ _ _ _ _ _ _ _)
   | (with_reducible exact ih3 _ _ _ _ _ _ _ _ _)
   | (with_reducible exact ih4 _ _ _ _ _ _ _ _)
   | (with_reducible exact ih5 _ _ _ _ _ _ _ _ _)
   | (with_reducible exact ih6 _ _ _ _ _ _ _ _ _ _ _)
   | (with_reducible exact kinds_Same.mono _ _ _ _)
   | (with_reducible exact kinds_Valid.mono _ _)
   | (with_reducible exact squintlaw04_beyond.mono _ _)
   | (with_reducible exact squintlaw04_ofRows.mono _ _)
   | (with_reducible exact squintlaw04_ownRows.mono _ _)
   | (with_reducible exact LeO.refl _)
   | (with_reducible exact LeO.none _)
   | (with_reducible refine LeO.ite ?_ ?_)
   | (with_reducible refine LeO.bind ?_ (fun _ => ?_))
   | exact ih0 _ _ _ _ _ _
   | exact ih1 _ _ _ _ _ _ _ _ _
   | exact ih2 _ _ _ _ _ _ _ _ _
   | exact ih3 _ _ _ _ _ _ _ _ _
   | exact ih4 _ _ _ _ _ _ _ _
   | exact ih5 _ _ _ _ _ _ _ _ _
   | exact ih6 _ _ _ _ _ _ _ _ _ _ _
   | exact kinds_Same.mono _ _ _ _
   | exact kinds_Valid.mono _ _
   | exact squintlaw04_beyond.mono _ _
   | exact squintlaw04_ofRows.mono _ _
   | exact squintlaw04_ownRows.mono _ _
   | exact LeO.none _
   | refine LeO.ite ?_ ?_
   | refine LeO.bind ?_ (fun _ => ?_)
  ·intro y0 y1 y2 y3 y4 y5 y6 y7 y8
   unfold squintlaw04_KindsLaws.j4
   repeat' first
   | (with_reducible exact ih0 _ _ _ _ _ _)
   | (with_reducible exact ih1 _ _ _ _ _ _ _ _ _)
   | (with_reducible exact ih2 _ _ _ _ _ _ _ _ _)
   | (with_reducible exact ih3 _ _ _ _ _ _ _ _ _)
   | (with_reducible exact ih4 _ _ _ _ _ _ _ _)
   | (with_reducible exact ih5 _ _ _ _ _ _ _ _ _)
   | (with_reducible exact ih6 _ _ _ _ _ _ _ _ _ _ _)
   | (with_reducible exact kinds_Same.mono _ _ _ _)
   | (with_reducible exact kinds_Valid.mono _ _)
   | (with_reducible exact squintlaw04_beyond.mono _ _)
   | (with_reducible exact squintlaw04_ofRows.mono _ _)
   | (with_reducible exact squintlaw04_ownRows.mono _ _)
   | (with_reducible exact LeO.refl _)
   | (with_reducible exact LeO.none _)
   | (with_reducible refine LeO.ite ?_ ?_)
   | (with_reducible refine LeO.bind ?_ (fun _ => ?_))
   | exact ih0 _ _ _ _ _ _
   | exact ih1 _ _ _ _ _ _ _ _ _
   | exact ih2 _ _ _ _ _ _ _ _ _
   | exact ih3 _ _ _ _ _ _ _ _ _
   | exact ih4 _ _ _ _ _ _ _ _
   | exact ih5 _ _ _ _ _ _ _ _ _
   | exact ih6 _ _ _ _ _ _ _ _ _ _ _
   | exact kinds_Same.mono _ _ _ _
   | exact kinds_Valid.mono _ _
   | exact squintlaw04_beyond.mono _ _
   | exact squintlaw04_ofRows.mono _ _
   | exact squintlaw04_ownRows.mono _ _
   | exact LeO.none _
   | refine LeO.ite ?_ ?_
   | refine LeO.bind ?_ (fun _ => ?_)
  ·intro y0 y1 y2 y3 y4 y5 y6 y7
   unfold squintlaw04_KindsLaws.l1
   repeat' first
   | (with_reducible exact ih0 _ _ _ _ _ _)
   | (with_reducible exact ih1 _ _ _ _ _ _ _ _ _)
   | (with_reducible exact ih2 _ _ _ _ _ _ _ _ _)
   | (with_reducible exact ih3 _ _ _ _ _ _ _ _ _)
   | (with_reducible exact ih4 _ _ _ _ _ _ _ _)
   | (with_reducible exact ih5 _ _ _ _ _ _ _ _ _)
   | (with_reducible exact ih6 _ _ _ _ _ _ _ _ _ _ _)
   | (with_reducible exact kinds_Same.mono _ _ _ _)
   | (with_reducible exact kinds_Valid.mono _ _)
   | (with_reducible exact squintlaw04_beyond.mono _ _)
   | (with_reducible exact squintlaw04_ofRows.mono _ _)
   | (with_reducible exact squintlaw04_ownRows.mono _ _)
   | (with_reducible exact LeO.refl _)
   | (with_reducible exact LeO.none _)
   | (with_reducible refine LeO.ite ?_ ?_)
   | (with_reducible refine LeO.bind ?_ (fun _ => ?_))
   | exact ih0 _ _ _ _ _ _
   | exact ih1 _ _ _ _ _ _ _ _ _
   | exact ih2 _ _ _ _ _ _ _ _ _
   | exact ih3 _ _ _ _ _ _ _ _ _
   | exact ih4 _ _ _ _ _ _ _ _
   | exact ih5 _ _ _ _ _ _ _ _ _
   | exact ih6 _ _ _ _ _ _ _ _ _ _ _
   | exact kinds_Same.mono _ _ _ _
   | exact kinds_Valid.mono _ _
   | exact squintlaw04_beyond.mono _ _
   | exact squintlaw04_ofRows.mono _ _
   | exact squintlaw04_ownRows.mono _ _
   | exact LeO.none _
   | refine LeO.ite ?_ ?_
   | refine LeO.bind ?_ (fun _ => ?_)
  ·intro y0 y1 y2 y3 y4 y5 y6 y7 y8
   unfold squintlaw04_KindsLaws.l2
   repeat' first
   | (with_reducible exact ih0 _ _ _ _ _ _)
   | (with_reducible exact ih1 _ _ _ _ _ _ _ _ _)
   | (with_reducible exact ih2 _ _ _ _ _ _ _ _ _)
   | (with_reducible exact ih3 _ _ _ _ _ _ _ _ _)
   | (with_reducible exact ih4 _ _ _ _ _ _ _ _)
   | (with_reducible exact ih5 _ _ _ _ _ _ _ _ _)
   | (with_reducible exact ih6 _ _ _ _ _ _ _ _ _ _ _)
   | (with_reducible exact kinds_Same.mono _ _ _ _)
   | (with_reducible exact kinds_Valid.mono _ _)
   | (with_reducible exact squintlaw04_beyond.mono _ _)
   | (with_reducible exact squintlaw04_ofRows.mono _ _)
   | (with_reducible exact squintlaw04_ownRows.mono _ _)
   | (with_reducible exact LeO.refl _)
   | (with_reducible exact LeO.none _)
   | (with_reducible refine LeO.ite ?_ ?_)
   | (with_reducible refine LeO.bind ?_ (fun _ => ?_))
   | exact ih0 _ _ _ _ _ _
   | exact ih1 _ _ _ _ _ _ _ _ _
   | exact ih2 _ _ _ _ _ _ _ _ _
   | exact ih3 _ _ _ _ _ _ _ _ _
   | exact ih4 _ _ _ _ _ _ _ _
   | exact ih5 _ _ _ _ _ _ _ _ _
   | exact ih6 _ _ _ _ _ _ _ _ _ _ _
   | exact kinds_Same.mono _ _ _ _
   | exact kinds_Valid.mono _ _
   | exact squintlaw04_beyond.mono _ _
   | exact squintlaw04_ofRows.mono _ _
   | exact squintlaw04_ownRows.mono _ _
   | exact LeO.none _
   | refine LeO.ite ?_ ?_
   | refine LeO.bind ?_ (fun _ => ?_)
  ·intro y0 y1 y2 y3 y4 y5 y6 y7 y8 y9 y10
   unfold squintlaw04_KindsLaws.l0
   repeat' first
   | (with_reducible exact ih0 _ _ _ _ _ _)
   | (with_reducible exact ih1 _ _ _ _ _ _ _ _ _)
   | (with_reducible exact ih2 _ _ _ _ _ _ _ _ _)
   | (with_reducible exact ih3 _ _ _ _ _ _ _ _ _)
   | (with_reducible exact ih4 _ _ _ _ _ _ _ _)
   | (with_reducible exact ih5 _ _ _ _ _ _ _ _ _)
   | (with_reducible exact ih6 _ _ _ _ _ _ _ _ _ _ _)
   | (with_reducible exact kinds_Same.mono _ _ _ _)
   | (with_reducible exact kinds_Valid.mono _ _)
   | (with_reducible exact squintlaw04_beyond.mono _ _)
   | (with_reducible exact squintlaw04_ofRows.mono _ _)
   | (with_reducible exact squintlaw04_ownRows.mono _ _)
   | (with_reducible exact LeO.refl _)
   | (with_reducible exact LeO.none _)
   | (with_reducible refine LeO.ite ?_ ?_)
   | (with_reducible refine LeO.bind ?_ (fun _ => ?_))
   | exact ih0 _ _ _ _ _ _
   | exact ih1 _ _ _ _ _ _ _ _ _
   | exact ih2 _ _ _ _ _ _ _ _ _
   | exact ih3 _ _ _ _ _ _ _ _ _
   | exact ih4 _ _ _ _ _ _ _ _
   | exact ih5 _ _ _ _ _ _ _ _ _
   | exact ih6 _ _ _ _ _ _ _ _ _ _ _
   | exact kinds_Same.mono _ _ _ _
   | exact kinds_Valid.mono _ _
   | exact squintlaw04_beyond.mono _ _
   | exact squintlaw04_ofRows.mono _ _
   | exact squintlaw04_ownRows.mono _ _
   | exact LeO.none _
   | refine LeO.ite ?_ ?_
   | refine LeO.bind ?_ (fun _ => ?_)
theorem squintlaw04_KindsLaws.mono : ∀ a0 a1 a2 a3 k, LeO (squintlaw04_KindsLaws.f k a0 a1 a2 a3) (squintlaw04_KindsLaws.f (k + 1) a0 a1 a2 a3) := by
 intro a0 a1 a2 a3 k
 obtain ⟨ih0, ih1, ih2, ih3, ih4, ih5, ih6⟩ := squintlaw04_KindsLaws.mono_l k
 unfold squintlaw04_KindsLaws.f
 repeat' first
   | (with_reducible exact ih0 _ _ _ _ _ _)
   | (with_reducible exact ih1 _ _ _ _ _ _ _ _ _)
   | (with_reducible exact ih2 _ _ _ _ _ _ _ _ _)
   | (with_reducible exact ih3 _ _ _ _ _ _ _ _ _)
   | (with_reducible exact ih4 _ _ _ _ _ _ _ _)
   | (with_reducible exact ih5 _ _ _ _ _ _ _ _ _)
   | (with_reducible exact ih6 _ _ _ _ _ _ _ _ _ _ _)
   | (with_reducible exact kinds_Same.mono _ _ _ _)
   | (with_reducible exact kinds_Valid.mono _ _)
   | (with_reducible exact squintlaw04_beyond.mono _ _)
   | (with_reducible exact squintlaw04_ofRows.mono _ _)
   | (with_reducible exact squintlaw04_ownRows.mono _ _)
   | (with_reducible exact LeO.refl _)
   | (with_reducible exact LeO.none _)
   | (with_reducible refine LeO.ite ?_ ?_)
   | (with_reducible refine LeO.bind ?_ (fun _ => ?_))
   | exact ih0 _ _ _ _ _ _
   | exact ih1 _ _ _ _ _ _ _ _ _
   | exact ih2 _ _ _ _ _ _ _ _ _
   | exact ih3 _ _ _ _ _ _ _ _ _
   | exact ih4 _ _ _ _ _ _ _ _
   | exact ih5 _ _ _ _ _ _ _ _ _
   | exact ih6 _ _ _ _ _ _ _ _ _ _ _
   | exact kinds_Same.mono _ _ _ _
   | exact kinds_Valid.mono _ _
   | exact squintlaw04_beyond.mono _ _
   | exact squintlaw04_ofRows.mono _ _
   | exact squintlaw04_ownRows.mono _ _
   | exact LeO.none _
   | refine LeO.ite ?_ ?_
   | refine LeO.bind ?_ (fun _ => ?_)
def squintlaw04_KindsLaws.T15 : Bool × List (List Nat × List Nat) := (true, [([], []), ([], []), ([0, 1], [0, 1]), ([2], [2]), ([3], [3]), ([], []), ([], []), ([5, 6], [5, 6]), ([7], [7]), ([8], [8]), ([4, 9], [4, 9]), ([10], [10]), ([11], [11]), ([11], [11]), ([12, 13, 11], [11, 12, 13]), ([14, 11], [11, 14]), ([15, 11], [11, 15]), ([11], [11]), ([11], [11]), ([17, 18, 11], [11, 17, 18]), ([19, 11], [11, 19]), ([20, 11], [11, 20]), ([16, 21, 11], [11, 16, 21]), ([11, 22], [11, 22]), ([23, 11], [23]), ([24], [24]), ([24], [24]), ([25, 26, 24], [24, 25, 26]), ([27, 24], [24, 27]), ([28, 24], [24, 28]), ([29, 24], [24, 29]), ([24], [24]), ([24], [24]), ([31, 32, 24], [24, 31, 32]), ([33, 24], [24, 33]), ([34, 24], [24, 34]), ([35, 24], [24, 35]), ([30, 36, 24], [24, 30, 36]), ([24, 37], [24, 37]), ([38, 24, 0, 1, 2, 3, 4, 5, 6, 7, 8, 9, 10, 11, 12, 13, 14, 15, 16, 17, 18, 19, 20, 21, 22, 23, 24, 25, 26, 27, 28, 29, 30, 31, 32, 33, 34, 35, 36, 37, 38], [38])])
def squintlaw04_KindsLaws.B15 : List Nat := [0, 0, 3, 7, 15, 0, 0, 96, 224, 480, 1023, 2047, 4095, 4095, 16383, 32767, 65535, 4095, 4095, 397311, 921599, 1970175, 4194303, 8388607, 16777215, 33554431, 33554431, 134217727, 268435455, 536870911, 1073741823, 33554431, 33554431, 6476005375, 15065939967, 32245809151, 66605547519, 137438953471, 274877906943, 549755813887]
theorem squintlaw04_KindsLaws.tab15 : rtab .any (opsOf Try.f6 15) = squintlaw04_KindsLaws.T15 := by kernel_rfl
theorem squintlaw04_KindsLaws.bits15 : waitsOk squintlaw04_KindsLaws.T15.2 squintlaw04_KindsLaws.B15 = true := by kernel_rfl
def squintlaw04_KindsLaws.T20 : Bool × List (List Nat × List Nat) := (true, [([], []), ([0], [0]), ([1], [1]), ([1], [1]), ([1], [1]), ([3, 4, 1], [1, 3, 4]), ([5, 1], [1, 5]), ([6, 1], [1, 6]), ([1], [1]), ([7, 8, 1], [1, 7, 8]), ([9, 1], [1, 9]), ([1], [1]), ([1], [1]), ([11, 12, 1], [1, 11, 12]), ([13, 1], [1, 13]), ([14, 1], [1, 14]), ([1], [1]), ([15, 16, 1], [1, 15, 16]), ([17, 1], [1, 17]), ([2, 10, 18, 1, 1], [1, 2, 10, 18]), ([1, 19], [1, 19]), ([20, 19, 0, 1, 2, 3, 4, 5, 6, 7, 8, 9, 10, 11, 12, 13, 14, 15, 16, 17, 18, 19, 20], [0, 20])])
def squintlaw04_KindsLaws.B20 : List Nat := [0, 1, 3, 3, 3, 27, 59, 123, 3, 507, 1019, 3, 3, 6147, 14339, 30723, 3, 129027, 260099, 524287, 1048575, 2097151]
theorem squintlaw04_KindsLaws.tab20 : rtab .any (opsOf Try.f6 20) = squintlaw04_KindsLaws.T20 := by kernel_rfl
theorem squintlaw04_KindsLaws.bits20 : waitsOk squintlaw04_KindsLaws.T20.2 squintlaw04_KindsLaws.B20 = true := by kernel_rfl
set_option maxHeartbeats 8000000 in
set_option maxRecDepth 100000 in
theorem squintlaw04_KindsLaws.calls (k : Nat) (A0 : Option Addr) (c0 : Nat) (l0 : List (S43)) (a1 : Int) (a2 : Int) (a3 : Int) (r : Bool) (w : World) (hr0 : Kd.C k43 w A0 l0.length l0) (hc0 : l0.length ≤ c0) (h : squintlaw04_KindsLaws.f k l0 a1 a2 a3 = some r) :
  Calls Try.prog 6 #[.slice A0 l0.length c0, .int .i64 a1, .int .i64 a2, .int .i64 a3] w fun e w' => e = .returned (.bool r) ∧ Below w.heap.size w w' := by
 have HR0 := Aside0.mk hr0
 have HC0 := Aside0.mk hc0
 clear hr0 hc0
 have HB := Aside0.mk (Below.refl w.heap.size w)
 have H : (if (l0.length : Int) = 0 then (squintlaw04_KindsLaws.j0 k l0 a1 a2 a3 (l0.length : Int) true) else (if (l0.length : Int) > 300 then (squintlaw04_KindsLaws.j0 k l0 a1 a2 a3 (l0.length : Int) true) else ((squintlaw04_ofRows.f k l0).bind fun t140 => ((squintlaw04_beyond.f k t140).bind fun t143 => (squintlaw04_KindsLaws.j0 k l0 a1 a2 a3 (l0.length : Int) t143))))) = some r := h
 clear h
 have HC5 := Aside0.mk H
 clear H
 go_enter Try.func6, Try.ntmps6
 go_upto_region 2 with (fail)
 go_cut [32] (fun v32 wc => ∃ (kq : Nat) (x32_4 : Bool), v32 = .bool x32_4 ∧ Aside0 (squintlaw04_KindsLaws.j0 kq l0 a1 a2 a3 (l0.length : Int) x32_4 = some r) ∧ Aside0 (kq ≤ k) ∧ Aside0 (Below w.heap.size w wc))
 case first => as_aux_lemma =>
  have H := HC5.out
  clear HC5
  by_cases c6 : (l0.length : Int) = 0
  ·rw [if_pos c6] at H
   have c6b0 : ((l0.length : Int) == 0) = true := beq_iff_eq.mpr c6
   have c6b1 : ((l0.length : Int) != 0) = false := bne_eq_false_iff_eq.mpr c6
   clear c6
   (first | rw [c6b0] | (simp only [i64_w, i32_w]; rw [c6b0]) | skip)
   have H' := Aside0.mk H
   clear H
   go_wp2
   go_meet
   case rel => exact ⟨_, (true), (by first | rfl | (simp; done) | (simp [*]; done)), H', ⟨by first | omega | exact Nat.le_refl _⟩, ⟨by repeat (first | (with_reducible first | exact HB.out | apply below_alloc | apply pw_below_drewN | apply below_drew1) | exact HB.out)⟩⟩
  ·rw [if_neg c6] at H
   have c6b0 : ((l0.length : Int) == 0) = false := beq_eq_false_iff_ne.mpr c6
   have c6b1 : ((l0.length : Int) != 0) = true := bne_iff_ne.mpr c6
   have c6b2 : ¬ (l0 = []) := fun h_ => c6 (by rw [h_]; rfl)
   (first | rw [c6b0] | (simp only [i64_w, i32_w]; rw [c6b0]) | skip)
   by_cases c7 : (l0.length : Int) > 300
   ·rw [if_pos c7] at H
    have c7b0 : decide (300 < (l0.length : Int)) = true := decide_eq_true c7
    have c7b1 : decide (300 < l0.length) = true := decide_eq_true (by omega)
    clear c7
    have H' := Aside0.mk H
    clear H
    go_wp2
    go_meet
    case rel => exact ⟨_, (true), (by first | rfl | (simp; done) | (simp [*]; done)), H', ⟨by first | omega | exact Nat.le_refl _⟩, ⟨by repeat (first | (with_reducible first | exact HB.out | apply below_alloc | apply pw_below_drewN | apply below_drew1) | exact HB.out)⟩⟩
   ·rw [if_neg c7] at H
    have c7b0 : decide (300 < (l0.length : Int)) = false := decide_eq_false c7
    have c7b1 : decide (300 < l0.length) = false := decide_eq_false (by omega)
    clear c7
    replace H := Option.bind_eq_some_iff.mp H
    obtain ⟨t140, A80, H⟩ := H
    replace H : ((squintlaw04_beyond.f k t140).bind fun t143 => (squintlaw04_KindsLaws.j0 k l0 a1 a2 a3 (l0.length : Int) t143)) = some r := H
    have A8 := Aside0.mk A80
    clear A80
    replace H := Option.bind_eq_some_iff.mp H
    obtain ⟨t143, A90, H⟩ := H
    replace H : (squintlaw04_KindsLaws.j0 k l0 a1 a2 a3 (l0.length : Int) t143) = some r := H
    have A9 := Aside0.mk A90
    clear A90
    have H' := Aside0.mk H
    clear H
    go_wp2_with (first | (go_at_call 17; (with_reducible refine (squintlaw04_ofRows.calls k _ _ l0 t140 _ ?side1 ?side2 A8.out).mono ?_); (case side1 => repeat (first | exact (Kd.C_below HR0.out HB.out) | (with_reducible refine Kd.C_alloc ?_ _) | (with_reducible refine Kd.C_drewN ?_ _) | (with_reducible refine Kd.C_drew ?_))); (case side2 => exact HC0.out); rintro e w10 ⟨v141, rfl, ho0, hb⟩; have n0_ := Aside0.mk (Kd.R_lower ho0 (below_size (by repeat (first | (with_reducible first | exact HB.out | apply below_alloc | apply pw_below_drewN | apply below_drew1) | exact HB.out)))); have n1_ := Aside0.mk (below_step (by repeat (first | (with_reducible first | exact HB.out | apply below_alloc | apply pw_below_drewN | apply below_drew1) | exact HB.out)) hb); clear HB; have HO142 := n0_; have HB := n1_; clear n0_ n1_; (try clear hb); (try clear hb2); (try clear hk); (try clear hi); (try clear ho0); obtain ⟨Ao11, co11, eo11⟩ := Kd.R_slice HO142.out; subst eo11) | (go_at_call 9; (with_reducible refine (squintlaw04_beyond.calls k _ _ t140 t143 _ ?side1 ?side2 A9.out).mono ?_); (case side1 => repeat (first | exact (Kd.R_reads' HO142.out).2.2 | (with_reducible refine Kd.C_alloc ?_ _) | (with_reducible refine Kd.C_drewN ?_ _) | (with_reducible refine Kd.C_drew ?_))); (case side2 => exact (Kd.R_reads' HO142.out).2.1); rintro e w' ⟨rfl, ⟨nd, rfl⟩⟩))
    go_meet
    case rel => exact ⟨_, (t143), (by first | rfl | (simp; done) | (simp [*]; done)), H', ⟨by first | omega | exact Nat.le_refl _⟩, ⟨by repeat (first | (with_reducible first | exact HB.out | apply below_alloc | apply pw_below_drewN | apply below_drew1) | exact HB.out)⟩⟩
 case rest => as_aux_lemma =>
  clear HC5
  try clear p2
  try clear c6
  try clear c6b0
  try clear c6b1
  try clear c6b2
  try clear c7
  try clear c7b0
  try clear c7b1
  obtain ⟨kq, x32_4, rfl, HA, HJ4, HB⟩ := hcut
  cases kq with
  | zero => exact absurd HA.out (by simp [squintlaw04_KindsLaws.j0])
  | succ kj4 =>
   have H := HA.out
   clear HA
   simp only [squintlaw04_KindsLaws.j0] at H
   by_cases c12 : x32_4 = true
   ·subst c12
    have H1 : ((squintlaw04_shown.f).bind fun t144 => (some t144)) = some r := by rw [if_pos rfl] at H; exact H
    clear H
    have H := H1
    clear H1
    replace H := Option.bind_eq_some_iff.mp H
    obtain ⟨t144, A130, H⟩ := H
    replace H : (some t144) = some r := H
    have A13 := Aside0.mk A130
    clear A130
    obtain rfl := Option.some.inj H
    go_wp2_with (first | ((with_reducible refine gate_callee (f := 11) rfl ?_); refine goesL_ (some 33) rfl rfl Try.func11 (by kernel_rfl) rfl #[] rfl (by (try simp only [List.map_toArray, List.map_cons, List.map_nil]); first | done | rfl | (simp only [List.length_drop, List.length_take]; rfl)) ?_; (with_reducible refine (squintlaw04_shown.calls  t144 _ A13.out).mono ?_); rintro e w14 ⟨rfl, hb⟩; refine ⟨_, rfl, ?_⟩; have n0_ := Aside0.mk (below_step (by repeat (first | (with_reducible first | exact HB.out | apply below_alloc | apply pw_below_drewN | apply below_drew1) | exact HB.out)) hb); clear HB; have HB := n0_; clear n0_; (try clear hb); (try clear hb2); (try clear hk); (try clear hi)))
    go_ret
    exact ⟨by first | rfl | (simp [errW_none, errW_some] <;> rfl) | (simp [*, errW_none, errW_some] <;> rfl), by repeat (first | (with_reducible first | exact HB.out | apply below_alloc | apply pw_below_drewN | apply below_drew1) | exact HB.out)⟩
   ·replace c12 := Bool.eq_false_iff.mpr c12
    subst c12
    have H1 : ((squintlaw04_shown.f).bind fun t145 => ((squintlaw04_among.f a1 (l0.length : Int)).bind fun t146 => ((squintlaw04_among.f a2 (l0.length : Int)).bind fun t147 => ((squintlaw04_among.f a3 (l0.length : Int)).bind fun t148 => ((kinds_Valid.f kj4 l0).bind fun t149 => (if t149 = true then ((kinds_Same.f kj4 l0 t146 t147).bind fun t151 => ((kinds_Same.f kj4 l0 t147 t148).bind fun t152 => ((kinds_Same.f kj4 l0 t146 t148).bind fun t153 => (if t145 = true then ((kinds_Same.f kj4 l0 t146 t146).bind fun t154 => (if t154 = true then ((kinds_Same.f kj4 l0 t147 t146).bind fun t155 => (if (t155 != t151) = true then (squintlaw04_KindsLaws.j1 kj4 l0 t146 t147 t148 (l0.length : Int) t151 t152 t153 true) else (if t151 = true then (if t152 = true then (if t153 = true then (squintlaw04_KindsLaws.j1 kj4 l0 t146 t147 t148 (l0.length : Int) t151 t152 t153 false) else (squintlaw04_KindsLaws.j1 kj4 l0 t146 t147 t148 (l0.length : Int) t151 t152 t153 true)) else (squintlaw04_KindsLaws.j1 kj4 l0 t146 t147 t148 (l0.length : Int) t151 t152 t153 t153)) else (squintlaw04_KindsLaws.j1 kj4 l0 t146 t147 t148 (l0.length : Int) t151 t152 t153 false)))) else (squintlaw04_KindsLaws.j1 kj4 l0 t146 t147 t148 (l0.length : Int) t151 t152 t153 true))) else (squintlaw04_KindsLaws.j1 kj4 l0 t146 t147 t148 (l0.length : Int) t151 t152 t153 true))))) else (if t145 = true then ((kinds_Same.f kj4 l0 t146 t146).bind fun t150 => (some (!t150))) else (some false)))))))) = some r := by rw [if_neg (show ¬ (false = true) by decide)] at H; exact H
    clear H
    have H := H1
    clear H1
    replace H := Option.bind_eq_some_iff.mp H
    obtain ⟨t145, A150, H⟩ := H
    replace H : ((squintlaw04_among.f a1 (l0.length : Int)).bind fun t146 => ((squintlaw04_among.f a2 (l0.length : Int)).bind fun t147 => ((squintlaw04_among.f a3 (l0.length : Int)).bind fun t148 => ((kinds_Valid.f kj4 l0).bind fun t149 => (if t149 = true then ((kinds_Same.f kj4 l0 t146 t147).bind fun t151 => ((kinds_Same.f kj4 l0 t147 t148).bind fun t152 => ((kinds_Same.f kj4 l0 t146 t148).bind fun t153 => (if t145 = true then ((kinds_Same.f kj4 l0 t146 t146).bind fun t154 => (if t154 = true then ((kinds_Same.f kj4 l0 t147 t146).bind fun t155 => (if (t155 != t151) = true then (squintlaw04_KindsLaws.j1 kj4 l0 t146 t147 t148 (l0.length : Int) t151 t152 t153 true) else (if t151 = true then (if t152 = true then (if t153 = true then (squintlaw04_KindsLaws.j1 kj4 l0 t146 t147 t148 (l0.length : Int) t151 t152 t153 false) else (squintlaw04_KindsLaws.j1 kj4 l0 t146 t147 t148 (l0.length : Int) t151 t152 t153 true)) else (squintlaw04_KindsLaws.j1 kj4 l0 t146 t147 t148 (l0.length : Int) t151 t152 t153 t153)) else (squintlaw04_KindsLaws.j1 kj4 l0 t146 t147 t148 (l0.length : Int) t151 t152 t153 false)))) else (squintlaw04_KindsLaws.j1 kj4 l0 t146 t147 t148 (l0.length : Int) t151 t152 t153 true))) else (squintlaw04_KindsLaws.j1 kj4 l0 t146 t147 t148 (l0.length : Int) t151 t152 t153 true))))) else (if t145 = true then ((kinds_Same.f kj4 l0 t146 t146).bind fun t150 => (some (!t150))) else (some false))))))) = some r := H
    have A15 := Aside0.mk A150
    clear A150
    replace H := Option.bind_eq_some_iff.mp H
    obtain ⟨t146, A160, H⟩ := H
    replace H : ((squintlaw04_among.f a2 (l0.length : Int)).bind fun t147 => ((squintlaw04_among.f a3 (l0.length : Int)).bind fun t148 => ((kinds_Valid.f kj4 l0).bind fun t149 => (if t149 = true then ((kinds_Same.f kj4 l0 t146 t147).bind fun t151 => ((kinds_Same.f kj4 l0 t147 t148).bind fun t152 => ((kinds_Same.f kj4 l0 t146 t148).bind fun t153 => (if t145 = true then ((kinds_Same.f kj4 l0 t146 t146).bind fun t154 => (if t154 = true then ((kinds_Same.f kj4 l0 t147 t146).bind fun t155 => (if (t155 != t151) = true then (squintlaw04_KindsLaws.j1 kj4 l0 t146 t147 t148 (l0.length : Int) t151 t152 t153 true) else (if t151 = true then (if t152 = true then (if t153 = true then (squintlaw04_KindsLaws.j1 kj4 l0 t146 t147 t148 (l0.length : Int) t151 t152 t153 false) else (squintlaw04_KindsLaws.j1 kj4 l0 t146 t147 t148 (l0.length : Int) t151 t152 t153 true)) else (squintlaw04_KindsLaws.j1 kj4 l0 t146 t147 t148 (l0.length : Int) t151 t152 t153 t153)) else (squintlaw04_KindsLaws.j1 kj4 l0 t146 t147 t148 (l0.length : Int) t151 t152 t153 false)))) else (squintlaw04_KindsLaws.j1 kj4 l0 t146 t147 t148 (l0.length : Int) t151 t152 t153 true))) else (squintlaw04_KindsLaws.j1 kj4 l0 t146 t147 t148 (l0.length : Int) t151 t152 t153 true))))) else (if t145 = true then ((kinds_Same.f kj4 l0 t146 t146).bind fun t150 => (some (!t150))) else (some false)))))) = some r := H
    have A16 := Aside0.mk A160
    clear A160
    replace H := Option.bind_eq_some_iff.mp H
    obtain ⟨t147, A170, H⟩ := H
    replace H : ((squintlaw04_among.f a3 (l0.length : Int)).bind fun t148 => ((kinds_Valid.f kj4 l0).bind fun t149 => (if t149 = true then ((kinds_Same.f kj4 l0 t146 t147).bind fun t151 => ((kinds_Same.f kj4 l0 t147 t148).bind fun t152 => ((kinds_Same.f kj4 l0 t146 t148).bind fun t153 => (if t145 = true then ((kinds_Same.f kj4 l0 t146 t146).bind fun t154 => (if t154 = true then ((kinds_Same.f kj4 l0 t147 t146).bind fun t155 => (if (t155 != t151) = true then (squintlaw04_KindsLaws.j1 kj4 l0 t146 t147 t148 (l0.length : Int) t151 t152 t153 true) else (if t151 = true then (if t152 = true then (if t153 = true then (squintlaw04_KindsLaws.j1 kj4 l0 t146 t147 t148 (l0.length : Int) t151 t152 t153 false) else (squintlaw04_KindsLaws.j1 kj4 l0 t146 t147 t148 (l0.length : Int) t151 t152 t153 true)) else (squintlaw04_KindsLaws.j1 kj4 l0 t146 t147 t148 (l0.length : Int) t151 t152 t153 t153)) else (squintlaw04_KindsLaws.j1 kj4 l0 t146 t147 t148 (l0.length : Int) t151 t152 t153 false)))) else (squintlaw04_KindsLaws.j1 kj4 l0 t146 t147 t148 (l0.length : Int) t151 t152 t153 true))) else (squintlaw04_KindsLaws.j1 kj4 l0 t146 t147 t148 (l0.length : Int) t151 t152 t153 true))))) else (if t145 = true then ((kinds_Same.f kj4 l0 t146 t146).bind fun t150 => (some (!t150))) else (some false))))) = some r := H
    have A17 := Aside0.mk A170
    clear A170
    replace H := Option.bind_eq_some_iff.mp H
    obtain ⟨t148, A180, H⟩ := H
    replace H : ((kinds_Valid.f kj4 l0).bind fun t149 => (if t149 = true then ((kinds_Same.f kj4 l0 t146 t147).bind fun t151 => ((kinds_Same.f kj4 l0 t147 t148).bind fun t152 => ((kinds_Same.f kj4 l0 t146 t148).bind fun t153 => (if t145 = true then ((kinds_Same.f kj4 l0 t146 t146).bind fun t154 => (if t154 = true then ((kinds_Same.f kj4 l0 t147 t146).bind fun t155 => (if (t155 != t151) = true then (squintlaw04_KindsLaws.j1 kj4 l0 t146 t147 t148 (l0.length : Int) t151 t152 t153 true) else (if t151 = true then (if t152 = true then (if t153 = true then (squintlaw04_KindsLaws.j1 kj4 l0 t146 t147 t148 (l0.length : Int) t151 t152 t153 false) else (squintlaw04_KindsLaws.j1 kj4 l0 t146 t147 t148 (l0.length : Int) t151 t152 t153 true)) else (squintlaw04_KindsLaws.j1 kj4 l0 t146 t147 t148 (l0.length : Int) t151 t152 t153 t153)) else (squintlaw04_KindsLaws.j1 kj4 l0 t146 t147 t148 (l0.length : Int) t151 t152 t153 false)))) else (squintlaw04_KindsLaws.j1 kj4 l0 t146 t147 t148 (l0.length : Int) t151 t152 t153 true))) else (squintlaw04_KindsLaws.j1 kj4 l0 t146 t147 t148 (l0.length : Int) t151 t152 t153 true))))) else (if t145 = true then ((kinds_Same.f kj4 l0 t146 t146).bind fun t150 => (some (!t150))) else (some false)))) = some r := H
    have A18 := Aside0.mk A180
    clear A180
    replace H := Option.bind_eq_some_iff.mp H
    obtain ⟨t149, A190, H⟩ := H
    replace H : (if t149 = true then ((kinds_Same.f kj4 l0 t146 t147).bind fun t151 => ((kinds_Same.f kj4 l0 t147 t148).bind fun t152 => ((kinds_Same.f kj4 l0 t146 t148).bind fun t153 => (if t145 = true then ((kinds_Same.f kj4 l0 t146 t146).bind fun t154 => (if t154 = true then ((kinds_Same.f kj4 l0 t147 t146).bind fun t155 => (if (t155 != t151) = true then (squintlaw04_KindsLaws.j1 kj4 l0 t146 t147 t148 (l0.length : Int) t151 t152 t153 true) else (if t151 = true then (if t152 = true then (if t153 = true then (squintlaw04_KindsLaws.j1 kj4 l0 t146 t147 t148 (l0.length : Int) t151 t152 t153 false) else (squintlaw04_KindsLaws.j1 kj4 l0 t146 t147 t148 (l0.length : Int) t151 t152 t153 true)) else (squintlaw04_KindsLaws.j1 kj4 l0 t146 t147 t148 (l0.length : Int) t151 t152 t153 t153)) else (squintlaw04_KindsLaws.j1 kj4 l0 t146 t147 t148 (l0.length : Int) t151 t152 t153 false)))) else (squintlaw04_KindsLaws.j1 kj4 l0 t146 t147 t148 (l0.length : Int) t151 t152 t153 true))) else (squintlaw04_KindsLaws.j1 kj4 l0 t146 t147 t148 (l0.length : Int) t151 t152 t153 true))))) else (if t145 = true then ((kinds_Same.f kj4 l0 t146 t146).bind fun t150 => (some (!t150))) else (some false))) = some r := H
    have A19 := Aside0.mk A190
    clear A190
    by_cases c20 : t149 = true
    ·subst c20
     have H1 : ((kinds_Same.f kj4 l0 t146 t147).bind fun t151 => ((kinds_Same.f kj4 l0 t147 t148).bind fun t152 => ((kinds_Same.f kj4 l0 t146 t148).bind fun t153 => (if t145 = true then ((kinds_Same.f kj4 l0 t146 t146).bind fun t154 => (if t154 = true then ((kinds_Same.f kj4 l0 t147 t146).bind fun t155 => (if (t155 != t151) = true then (squintlaw04_KindsLaws.j1 kj4 l0 t146 t147 t148 (l0.length : Int) t151 t152 t153 true) else (if t151 = true then (if t152 = true then (if t153 = true then (squintlaw04_KindsLaws.j1 kj4 l0 t146 t147 t148 (l0.length : Int) t151 t152 t153 false) else (squintlaw04_KindsLaws.j1 kj4 l0 t146 t147 t148 (l0.length : Int) t151 t152 t153 true)) else (squintlaw04_KindsLaws.j1 kj4 l0 t146 t147 t148 (l0.length : Int) t151 t152 t153 t153)) else (squintlaw04_KindsLaws.j1 kj4 l0 t146 t147 t148 (l0.length : Int) t151 t152 t153 false)))) else (squintlaw04_KindsLaws.j1 kj4 l0 t146 t147 t148 (l0.length : Int) t151 t152 t153 true))) else (squintlaw04_KindsLaws.j1 kj4 l0 t146 t147 t148 (l0.length : Int) t151 t152 t153 true))))) = some r := by rw [if_pos rfl] at H; exact H
     clear H
     have H := H1
     clear H1
     replace H := Option.bind_eq_some_iff.mp H
     obtain ⟨t151, A210, H⟩ := H
     replace H : ((kinds_Same.f kj4 l0 t147 t148).bind fun t152 => ((kinds_Same.f kj4 l0 t146 t148).bind fun t153 => (if t145 = true then ((kinds_Same.f kj4 l0 t146 t146).bind fun t154 => (if t154 = true then ((kinds_Same.f kj4 l0 t147 t146).bind fun t155 => (if (t155 != t151) = true then (squintlaw04_KindsLaws.j1 kj4 l0 t146 t147 t148 (l0.length : Int) t151 t152 t153 true) else (if t151 = true then (if t152 = true then (if t153 = true then (squintlaw04_KindsLaws.j1 kj4 l0 t146 t147 t148 (l0.length : Int) t151 t152 t153 false) else (squintlaw04_KindsLaws.j1 kj4 l0 t146 t147 t148 (l0.length : Int) t151 t152 t153 true)) else (squintlaw04_KindsLaws.j1 kj4 l0 t146 t147 t148 (l0.length : Int) t151 t152 t153 t153)) else (squintlaw04_KindsLaws.j1 kj4 l0 t146 t147 t148 (l0.length : Int) t151 t152 t153 false)))) else (squintlaw04_KindsLaws.j1 kj4 l0 t146 t147 t148 (l0.length : Int) t151 t152 t153 true))) else (squintlaw04_KindsLaws.j1 kj4 l0 t146 t147 t148 (l0.length : Int) t151 t152 t153 true)))) = some r := H
     have A21 := Aside0.mk A210
     clear A210
     replace H := Option.bind_eq_some_iff.mp H
     obtain ⟨t152, A220, H⟩ := H
     replace H : ((kinds_Same.f kj4 l0 t146 t148).bind fun t153 => (if t145 = true then ((kinds_Same.f kj4 l0 t146 t146).bind fun t154 => (if t154 = true then ((kinds_Same.f kj4 l0 t147 t146).bind fun t155 => (if (t155 != t151) = true then (squintlaw04_KindsLaws.j1 kj4 l0 t146 t147 t148 (l0.length : Int) t151 t152 t153 true) else (if t151 = true then (if t152 = true then (if t153 = true then (squintlaw04_KindsLaws.j1 kj4 l0 t146 t147 t148 (l0.length : Int) t151 t152 t153 false) else (squintlaw04_KindsLaws.j1 kj4 l0 t146 t147 t148 (l0.length : Int) t151 t152 t153 true)) else (squintlaw04_KindsLaws.j1 kj4 l0 t146 t147 t148 (l0.length : Int) t151 t152 t153 t153)) else (squintlaw04_KindsLaws.j1 kj4 l0 t146 t147 t148 (l0.length : Int) t151 t152 t153 false)))) else (squintlaw04_KindsLaws.j1 kj4 l0 t146 t147 t148 (l0.length : Int) t151 t152 t153 true))) else (squintlaw04_KindsLaws.j1 kj4 l0 t146 t147 t148 (l0.length : Int) t151 t152 t153 true))) = some r := H
     have A22 := Aside0.mk A220
     clear A220
     replace H := Option.bind_eq_some_iff.mp H
     obtain ⟨t153, A230, H⟩ := H
     replace H : (if t145 = true then ((kinds_Same.f kj4 l0 t146 t146).bind fun t154 => (if t154 = true then ((kinds_Same.f kj4 l0 t147 t146).bind fun t155 => (if (t155 != t151) = true then (squintlaw04_KindsLaws.j1 kj4 l0 t146 t147 t148 (l0.length : Int) t151 t152 t153 true) else (if t151 = true then (if t152 = true then (if t153 = true then (squintlaw04_KindsLaws.j1 kj4 l0 t146 t147 t148 (l0.length : Int) t151 t152 t153 false) else (squintlaw04_KindsLaws.j1 kj4 l0 t146 t147 t148 (l0.length : Int) t151 t152 t153 true)) else (squintlaw04_KindsLaws.j1 kj4 l0 t146 t147 t148 (l0.length : Int) t151 t152 t153 t153)) else (squintlaw04_KindsLaws.j1 kj4 l0 t146 t147 t148 (l0.length : Int) t151 t152 t153 false)))) else (squintlaw04_KindsLaws.j1 kj4 l0 t146 t147 t148 (l0.length : Int) t151 t152 t153 true))) else (squintlaw04_KindsLaws.j1 kj4 l0 t146 t147 t148 (l0.length : Int) t151 t152 t153 true)) = some r := H
     have A23 := Aside0.mk A230
     clear A230
     have HC24 := Aside0.mk H
     clear H
     go_upto_region 13 with (first | ((with_reducible refine gate_callee (f := 11) rfl ?_); refine goesL_ (some 34) rfl rfl Try.func11 (by kernel_rfl) rfl #[] rfl (by (try simp only [List.map_toArray, List.map_cons, List.map_nil]); first | done | rfl | (simp only [List.length_drop, List.length_take]; rfl)) ?_; (with_reducible refine (squintlaw04_shown.calls  t145 _ A15.out).mono ?_); rintro e w25 ⟨rfl, hb⟩; refine ⟨_, rfl, ?_⟩; have n0_ := Aside0.mk (below_step (by repeat (first | (with_reducible first | exact HB.out | apply below_alloc | apply pw_below_drewN | apply below_drew1) | exact HB.out)) hb); clear HB; have HB := n0_; clear n0_; (try clear hb); (try clear hb2); (try clear hk); (try clear hi)) | ((with_reducible refine gate_callee (f := 24) rfl ?_); refine goesL_ (some 37) rfl rfl Try.func24 (by kernel_rfl) rfl #[.int .i64 a1, .int .i64 (l0.length : Int)] rfl (by (try simp only [List.map_toArray, List.map_cons, List.map_nil]); first | done | rfl | (simp only [List.length_drop, List.length_take]; rfl)) ?_; (with_reducible refine (squintlaw04_among.calls a1 (l0.length : Int) t146 _ A16.out).mono ?_); rintro e w' ⟨rfl, ⟨nd, rfl⟩⟩; refine ⟨_, rfl, ?_⟩) | ((with_reducible refine gate_callee (f := 24) rfl ?_); refine goesL_ (some 40) rfl rfl Try.func24 (by kernel_rfl) rfl #[.int .i64 a2, .int .i64 (l0.length : Int)] rfl (by (try simp only [List.map_toArray, List.map_cons, List.map_nil]); first | done | rfl | (simp only [List.length_drop, List.length_take]; rfl)) ?_; (with_reducible refine (squintlaw04_among.calls a2 (l0.length : Int) t147 _ A17.out).mono ?_); rintro e w' ⟨rfl, ⟨nd, rfl⟩⟩; refine ⟨_, rfl, ?_⟩) | ((with_reducible refine gate_callee (f := 24) rfl ?_); refine goesL_ (some 43) rfl rfl Try.func24 (by kernel_rfl) rfl #[.int .i64 a3, .int .i64 (l0.length : Int)] rfl (by (try simp only [List.map_toArray, List.map_cons, List.map_nil]); first | done | rfl | (simp only [List.length_drop, List.length_take]; rfl)) ?_; (with_reducible refine (squintlaw04_among.calls a3 (l0.length : Int) t148 _ A18.out).mono ?_); rintro e w' ⟨rfl, ⟨nd, rfl⟩⟩; refine ⟨_, rfl, ?_⟩) | ((with_reducible refine gate_callee (f := 19) rfl ?_); refine goesL_ (some 45) rfl rfl Try.func19 (by kernel_rfl) rfl #[.slice A0 l0.length c0] rfl (by (try simp only [List.map_toArray, List.map_cons, List.map_nil]); first | done | rfl | (simp only [List.length_drop, List.length_take]; rfl)) ?_; (with_reducible refine (kinds_Valid.calls kj4 _ _ l0 true _ ?side1 ?side2 A19.out).mono ?_); (case side1 => repeat (first | exact (Kd.C_below HR0.out (by repeat (first | (with_reducible first | exact HB.out | apply below_alloc | apply pw_below_drewN | apply below_drew1) | exact HB.out))) | (with_reducible refine Kd.C_alloc ?_ _) | (with_reducible refine Kd.C_drewN ?_ _) | (with_reducible refine Kd.C_drew ?_))); (case side2 => exact HC0.out); rintro e w26 ⟨rfl, hb⟩; refine ⟨_, rfl, ?_⟩; have n0_ := Aside0.mk (below_step (by repeat (first | (with_reducible first | exact HB.out | apply below_alloc | apply pw_below_drewN | apply below_drew1) | exact HB.out)) hb); clear HB; have HB := n0_; clear n0_; (try clear hb); (try clear hb2); (try clear hk); (try clear hi)) | ((with_reducible refine gate_callee (f := 22) rfl ?_); refine goesL_ (some 58) rfl rfl Try.func22 (by kernel_rfl) rfl #[.slice A0 l0.length c0, .int .i64 t146, .int .i64 t147] rfl (by (try simp only [List.map_toArray, List.map_cons, List.map_nil]); first | done | rfl | (simp only [List.length_drop, List.length_take]; rfl)) ?_; (with_reducible refine (kinds_Same.calls kj4 _ _ l0 t146 t147 t151 _ ?side1 ?side2 A21.out).mono ?_); (case side1 => repeat (first | exact (Kd.C_below HR0.out HB.out) | (with_reducible refine Kd.C_alloc ?_ _) | (with_reducible refine Kd.C_drewN ?_ _) | (with_reducible refine Kd.C_drew ?_))); (case side2 => exact HC0.out); rintro e w27 ⟨rfl, hb⟩; refine ⟨_, rfl, ?_⟩; have n0_ := Aside0.mk (below_step (by repeat (first | (with_reducible first | exact HB.out | apply below_alloc | apply pw_below_drewN | apply below_drew1) | exact HB.out)) hb); clear HB; have HB := n0_; clear n0_; (try clear hb); (try clear hb2); (try clear hk); (try clear hi)) | ((with_reducible refine gate_callee (f := 22) rfl ?_); refine goesL_ (some 62) rfl rfl Try.func22 (by kernel_rfl) rfl #[.slice A0 l0.length c0, .int .i64 t147, .int .i64 t148] rfl (by (try simp only [List.map_toArray, List.map_cons, List.map_nil]); first | done | rfl | (simp only [List.length_drop, List.length_take]; rfl)) ?_; (with_reducible refine (kinds_Same.calls kj4 _ _ l0 t147 t148 t152 _ ?side1 ?side2 A22.out).mono ?_); (case side1 => repeat (first | exact (Kd.C_below HR0.out HB.out) | (with_reducible refine Kd.C_alloc ?_ _) | (with_reducible refine Kd.C_drewN ?_ _) | (with_reducible refine Kd.C_drew ?_))); (case side2 => exact HC0.out); rintro e w28 ⟨rfl, hb⟩; refine ⟨_, rfl, ?_⟩; have n0_ := Aside0.mk (below_step (by repeat (first | (with_reducible first | exact HB.out | apply below_alloc | apply pw_below_drewN | apply below_drew1) | exact HB.out)) hb); clear HB; have HB := n0_; clear n0_; (try clear hb); (try clear hb2); (try clear hk); (try clear hi)) | ((with_reducible refine gate_callee (f := 22) rfl ?_); refine goesL_ (some 66) rfl rfl Try.func22 (by kernel_rfl) rfl #[.slice A0 l0.length c0, .int .i64 t146, .int .i64 t148] rfl (by (try simp only [List.map_toArray, List.map_cons, List.map_nil]); first | done | rfl | (simp only [List.length_drop, List.length_take]; rfl)) ?_; (with_reducible refine (kinds_Same.calls kj4 _ _ l0 t146 t148 t153 _ ?side1 ?side2 A23.out).mono ?_); (case side1 => repeat (first | exact (Kd.C_below HR0.out HB.out) | (with_reducible refine Kd.C_alloc ?_ _) | (with_reducible refine Kd.C_drewN ?_ _) | (with_reducible refine Kd.C_drew ?_))); (case side2 => exact HC0.out); rintro e w29 ⟨rfl, hb⟩; refine ⟨_, rfl, ?_⟩; have n0_ := Aside0.mk (below_step (by repeat (first | (with_reducible first | exact HB.out | apply below_alloc | apply pw_below_drewN | apply below_drew1) | exact HB.out)) hb); clear HB; have HB := n0_; clear n0_; (try clear hb); (try clear hb2); (try clear hk); (try clear hi)))
     (try simp only [Act.put, List.setIfInBounds_toArray, List.set_cons_zero, List.set_cons_succ])
     go_cut [103] (fun v103 wc => ∃ (kq : Nat) (x103_23 : Bool), v103 = .bool x103_23 ∧ Aside0 (squintlaw04_KindsLaws.j1 kq l0 t146 t147 t148 (l0.length : Int) t151 t152 t153 x103_23 = some r) ∧ Aside0 (kq ≤ kj4) ∧ Aside0 (Below w.heap.size w wc))
     case first => as_aux_lemma =>
      have H := HC24.out
      clear HC24
      by_cases c30 : t145 = true
      ·subst c30
       have H1 : ((kinds_Same.f kj4 l0 t146 t146).bind fun t154 => (if t154 = true then ((kinds_Same.f kj4 l0 t147 t146).bind fun t155 => (if (t155 != t151) = true then (squintlaw04_KindsLaws.j1 kj4 l0 t146 t147 t148 (l0.length : Int) t151 t152 t153 true) else (if t151 = true then (if t152 = true then (if t153 = true then (squintlaw04_KindsLaws.j1 kj4 l0 t146 t147 t148 (l0.length : Int) t151 t152 t153 false) else (squintlaw04_KindsLaws.j1 kj4 l0 t146 t147 t148 (l0.length : Int) t151 t152 t153 true)) else (squintlaw04_KindsLaws.j1 kj4 l0 t146 t147 t148 (l0.length : Int) t151 t152 t153 t153)) else (squintlaw04_KindsLaws.j1 kj4 l0 t146 t147 t148 (l0.length : Int) t151 t152 t153 false)))) else (squintlaw04_KindsLaws.j1 kj4 l0 t146 t147 t148 (l0.length : Int) t151 t152 t153 true))) = some r := by rw [if_pos rfl] at H; exact H
       clear H
       have H := H1
       clear H1
       replace H := Option.bind_eq_some_iff.mp H
       obtain ⟨t154, A310, H⟩ := H
       replace H : (if t154 = true then ((kinds_Same.f kj4 l0 t147 t146).bind fun t155 => (if (t155 != t151) = true then (squintlaw04_KindsLaws.j1 kj4 l0 t146 t147 t148 (l0.length : Int) t151 t152 t153 true) else (if t151 = true then (if t152 = true then (if t153 = true then (squintlaw04_KindsLaws.j1 kj4 l0 t146 t147 t148 (l0.length : Int) t151 t152 t153 false) else (squintlaw04_KindsLaws.j1 kj4 l0 t146 t147 t148 (l0.length : Int) t151 t152 t153 true)) else (squintlaw04_KindsLaws.j1 kj4 l0 t146 t147 t148 (l0.length : Int) t151 t152 t153 t153)) else (squintlaw04_KindsLaws.j1 kj4 l0 t146 t147 t148 (l0.length : Int) t151 t152 t153 false)))) else (squintlaw04_KindsLaws.j1 kj4 l0 t146 t147 t148 (l0.length : Int) t151 t152 t153 true)) = some r := H
       have A31 := Aside0.mk A310
       clear A310
       by_cases c32 : t154 = true
       ·subst c32
        have H1 : ((kinds_Same.f kj4 l0 t147 t146).bind fun t155 => (if (t155 != t151) = true then (squintlaw04_KindsLaws.j1 kj4 l0 t146 t147 t148 (l0.length : Int) t151 t152 t153 true) else (if t151 = true then (if t152 = true then (if t153 = true then (squintlaw04_KindsLaws.j1 kj4 l0 t146 t147 t148 (l0.length : Int) t151 t152 t153 false) else (squintlaw04_KindsLaws.j1 kj4 l0 t146 t147 t148 (l0.length : Int) t151 t152 t153 true)) else (squintlaw04_KindsLaws.j1 kj4 l0 t146 t147 t148 (l0.length : Int) t151 t152 t153 t153)) else (squintlaw04_KindsLaws.j1 kj4 l0 t146 t147 t148 (l0.length : Int) t151 t152 t153 false)))) = some r := by rw [if_pos rfl] at H; exact H
        clear H
        have H := H1
        clear H1
        replace H := Option.bind_eq_some_iff.mp H
        obtain ⟨t155, A330, H⟩ := H
        replace H : (if (t155 != t151) = true then (squintlaw04_KindsLaws.j1 kj4 l0 t146 t147 t148 (l0.length : Int) t151 t152 t153 true) else (if t151 = true then (if t152 = true then (if t153 = true then (squintlaw04_KindsLaws.j1 kj4 l0 t146 t147 t148 (l0.length : Int) t151 t152 t153 false) else (squintlaw04_KindsLaws.j1 kj4 l0 t146 t147 t148 (l0.length : Int) t151 t152 t153 true)) else (squintlaw04_KindsLaws.j1 kj4 l0 t146 t147 t148 (l0.length : Int) t151 t152 t153 t153)) else (squintlaw04_KindsLaws.j1 kj4 l0 t146 t147 t148 (l0.length : Int) t151 t152 t153 false))) = some r := H
        have A33 := Aside0.mk A330
        clear A330
        by_cases c34 : (t155 != t151) = true
        ·rw [if_pos c34] at H
         have c34b0 : (t155 != t151) = true := c34
         (try (have c34b1 : decide (t155 = t151) = false := by simpa using c34))
         (try (have c34b2 : (t155 == t151) = false := by simpa using c34))
         (try (have c34b3 : ¬ (t155 = t151) := by simpa using c34))
         clear c34
         (first | rw [c34b0] | (simp only [i64_w, i32_w]; rw [c34b0]) | skip)
         have H' := Aside0.mk H
         clear H
         go_wp2_with (first | (go_at_call 22; (with_reducible refine (kinds_Same.calls kj4 _ _ l0 t146 t146 true _ ?side1 ?side2 A31.out).mono ?_); (case side1 => repeat (first | exact (Kd.C_below HR0.out HB.out) | (with_reducible refine Kd.C_alloc ?_ _) | (with_reducible refine Kd.C_drewN ?_ _) | (with_reducible refine Kd.C_drew ?_))); (case side2 => exact HC0.out); rintro e w35 ⟨rfl, hb⟩; have n0_ := Aside0.mk (below_step (by repeat (first | (with_reducible first | exact HB.out | apply below_alloc | apply pw_below_drewN | apply below_drew1) | exact HB.out)) hb); clear HB; have HB := n0_; clear n0_; (try clear hb); (try clear hb2); (try clear hk); (try clear hi)) | (go_at_call 22; (with_reducible refine (kinds_Same.calls kj4 _ _ l0 t147 t146 t155 _ ?side1 ?side2 A33.out).mono ?_); (case side1 => repeat (first | exact (Kd.C_below HR0.out HB.out) | (with_reducible refine Kd.C_alloc ?_ _) | (with_reducible refine Kd.C_drewN ?_ _) | (with_reducible refine Kd.C_drew ?_))); (case side2 => exact HC0.out); rintro e w36 ⟨rfl, hb⟩; have n0_ := Aside0.mk (below_step (by repeat (first | (with_reducible first | exact HB.out | apply below_alloc | apply pw_below_drewN | apply below_drew1) | exact HB.out)) hb); clear HB; have HB := n0_; clear n0_; (try clear hb); (try clear hb2); (try clear hk); (try clear hi)))
         go_meet
         case rel => exact ⟨_, (true), (by first | rfl | (simp; done) | (simp [*]; done)), H', ⟨by have := HJ4.out; first | omega | exact Nat.le_refl _⟩, ⟨by repeat (first | (with_reducible first | exact HB.out | apply below_alloc | apply pw_below_drewN | apply below_drew1) | exact HB.out)⟩⟩
        ·rw [if_neg c34] at H
         have c34b0 : (t155 != t151) = false := by simpa using c34
         (try (have c34b1 : decide (t155 = t151) = true := by simpa using c34))
         (try (have c34b2 : (t155 == t151) = true := by simpa using c34))
         clear c34
         (first | rw [c34b0] | (simp only [i64_w, i32_w]; rw [c34b0]) | skip)
         by_cases c37 : t151 = true
         ·subst c37
          have H1 : (if t152 = true then (if t153 = true then (squintlaw04_KindsLaws.j1 kj4 l0 t146 t147 t148 (l0.length : Int) true t152 t153 false) else (squintlaw04_KindsLaws.j1 kj4 l0 t146 t147 t148 (l0.length : Int) true t152 t153 true)) else (squintlaw04_KindsLaws.j1 kj4 l0 t146 t147 t148 (l0.length : Int) true t152 t153 t153)) = some r := by rw [if_pos rfl] at H; exact H
          clear H
          have H := H1
          clear H1
          by_cases c38 : t152 = true
          ·subst c38
           have H1 : (if t153 = true then (squintlaw04_KindsLaws.j1 kj4 l0 t146 t147 t148 (l0.length : Int) true true t153 false) else (squintlaw04_KindsLaws.j1 kj4 l0 t146 t147 t148 (l0.length : Int) true true t153 true)) = some r := by rw [if_pos rfl] at H; exact H
           clear H
           have H := H1
           clear H1
           by_cases c39 : t153 = true
           ·subst c39
            have H1 : (squintlaw04_KindsLaws.j1 kj4 l0 t146 t147 t148 (l0.length : Int) true true true false) = some r := by rw [if_pos rfl] at H; exact H
            clear H
            have H := H1
            clear H1
            have H' := Aside0.mk H
            clear H
            go_wp2_with (first | (go_at_call 22; (with_reducible refine (kinds_Same.calls kj4 _ _ l0 t146 t146 true _ ?side1 ?side2 A31.out).mono ?_); (case side1 => repeat (first | exact (Kd.C_below HR0.out HB.out) | (with_reducible refine Kd.C_alloc ?_ _) | (with_reducible refine Kd.C_drewN ?_ _) | (with_reducible refine Kd.C_drew ?_))); (case side2 => exact HC0.out); rintro e w40 ⟨rfl, hb⟩; have n0_ := Aside0.mk (below_step (by repeat (first | (with_reducible first | exact HB.out | apply below_alloc | apply pw_below_drewN | apply below_drew1) | exact HB.out)) hb); clear HB; have HB := n0_; clear n0_; (try clear hb); (try clear hb2); (try clear hk); (try clear hi)) | (go_at_call 22; (with_reducible refine (kinds_Same.calls kj4 _ _ l0 t147 t146 t155 _ ?side1 ?side2 A33.out).mono ?_); (case side1 => repeat (first | exact (Kd.C_below HR0.out HB.out) | (with_reducible refine Kd.C_alloc ?_ _) | (with_reducible refine Kd.C_drewN ?_ _) | (with_reducible refine Kd.C_drew ?_))); (case side2 => exact HC0.out); rintro e w41 ⟨rfl, hb⟩; have n0_ := Aside0.mk (below_step (by repeat (first | (with_reducible first | exact HB.out | apply below_alloc | apply pw_below_drewN | apply below_drew1) | exact HB.out)) hb); clear HB; have HB := n0_; clear n0_; (try clear hb); (try clear hb2); (try clear hk); (try clear hi)))
            go_meet
            case rel => exact ⟨_, (false), (by first | rfl | (simp; done) | (simp [*]; done)), H', ⟨by have := HJ4.out; first | omega | exact Nat.le_refl _⟩, ⟨by repeat (first | (with_reducible first | exact HB.out | apply below_alloc | apply pw_below_drewN | apply below_drew1) | exact HB.out)⟩⟩
           ·replace c39 := Bool.eq_false_iff.mpr c39
            subst c39
            have H1 : (squintlaw04_KindsLaws.j1 kj4 l0 t146 t147 t148 (l0.length : Int) true true false true) = some r := by rw [if_neg (show ¬ (false = true) by decide)] at H; exact H
            clear H
            have H := H1
            clear H1
            have H' := Aside0.mk H
            clear H
            go_wp2_with (first | (go_at_call 22; (with_reducible refine (kinds_Same.calls kj4 _ _ l0 t146 t146 true _ ?side1 ?side2 A31.out).mono ?_); (case side1 => repeat (first | exact (Kd.C_below HR0.out HB.out) | (with_reducible refine Kd.C_alloc ?_ _) | (with_reducible refine Kd.C_drewN ?_ _) | (with_reducible refine Kd.C_drew ?_))); (case side2 => exact HC0.out); rintro e w42 ⟨rfl, hb⟩; have n0_ := Aside0.mk (below_step (by repeat (first | (with_reducible first | exact HB.out | apply below_alloc | apply pw_below_drewN | apply below_drew1) | exact HB.out)) hb); clear HB; have HB := n0_; clear n0_; (try clear hb); (try clear hb2); (try clear hk); (try clear hi)) | (go_at_call 22; (with_reducible refine (kinds_Same.calls kj4 _ _ l0 t147 t146 t155 _ ?side1 ?side2 A33.out).mono ?_); (case side1 => repeat (first | exact (Kd.C_below HR0.out HB.out) | (with_reducible refine Kd.C_alloc ?_ _) | (with_reducible refine Kd.C_drewN ?_ _) | (with_reducible refine Kd.C_drew ?_))); (case side2 => exact HC0.out); rintro e w43 ⟨rfl, hb⟩; have n0_ := Aside0.mk (below_step (by repeat (first | (with_reducible first | exact HB.out | apply below_alloc | apply pw_below_drewN | apply below_drew1) | exact HB.out)) hb); clear HB; have HB := n0_; clear n0_; (try clear hb); (try clear hb2); (try clear hk); (try clear hi)))
            go_meet
            case rel => exact ⟨_, (true), (by first | rfl | (simp; done) | (simp [*]; done)), H', ⟨by have := HJ4.out; first | omega | exact Nat.le_refl _⟩, ⟨by repeat (first | (with_reducible first | exact HB.out | apply below_alloc | apply pw_below_drewN | apply below_drew1) | exact HB.out)⟩⟩
          ·replace c38 := Bool.eq_false_iff.mpr c38
           subst c38
           have H1 : (squintlaw04_KindsLaws.j1 kj4 l0 t146 t147 t148 (l0.length : Int) true false t153 t153) = some r := by rw [if_neg (show ¬ (false = true) by decide)] at H; exact H
           clear H
           have H := H1
           clear H1
           have H' := Aside0.mk H
           clear H
           go_wp2_with (first | (go_at_call 22; (with_reducible refine (kinds_Same.calls kj4 _ _ l0 t146 t146 true _ ?side1 ?side2 A31.out).mono ?_); (case side1 => repeat (first | exact (Kd.C_below HR0.out HB.out) | (with_reducible refine Kd.C_alloc ?_ _) | (with_reducible refine Kd.C_drewN ?_ _) | (with_reducible refine Kd.C_drew ?_))); (case side2 => exact HC0.out); rintro e w44 ⟨rfl, hb⟩; have n0_ := Aside0.mk (below_step (by repeat (first | (with_reducible first | exact HB.out | apply below_alloc | apply pw_below_drewN | apply below_drew1) | exact HB.out)) hb); clear HB; have HB := n0_; clear n0_; (try clear hb); (try clear hb2); (try clear hk); (try clear hi)) | (go_at_call 22; (with_reducible refine (kinds_Same.calls kj4 _ _ l0 t147 t146 t155 _ ?side1 ?side2 A33.out).mono ?_); (case side1 => repeat (first | exact (Kd.C_below HR0.out HB.out) | (with_reducible refine Kd.C_alloc ?_ _) | (with_reducible refine Kd.C_drewN ?_ _) | (with_reducible refine Kd.C_drew ?_))); (case side2 => exact HC0.out); rintro e w45 ⟨rfl, hb⟩; have n0_ := Aside0.mk (below_step (by repeat (first | (with_reducible first | exact HB.out | apply below_alloc | apply pw_below_drewN | apply below_drew1) | exact HB.out)) hb); clear HB; have HB := n0_; clear n0_; (try clear hb); (try clear hb2); (try clear hk); (try clear hi)))
           go_meet
           case rel => exact ⟨_, (t153), (by first | rfl | (simp; done) | (simp [*]; done)), H', ⟨by have := HJ4.out; first | omega | exact Nat.le_refl _⟩, ⟨by repeat (first | (with_reducible first | exact HB.out | apply below_alloc | apply pw_below_drewN | apply below_drew1) | exact HB.out)⟩⟩
         ·replace c37 := Bool.eq_false_iff.mpr c37
          subst c37
          have H1 : (squintlaw04_KindsLaws.j1 kj4 l0 t146 t147 t148 (l0.length : Int) false t152 t153 false) = some r := by rw [if_neg (show ¬ (false = true) by decide)] at H; exact H
          clear H
          have H := H1
          clear H1
          have H' := Aside0.mk H
          clear H
          go_wp2_with (first | (go_at_call 22; (with_reducible refine (kinds_Same.calls kj4 _ _ l0 t146 t146 true _ ?side1 ?side2 A31.out).mono ?_); (case side1 => repeat (first | exact (Kd.C_below HR0.out HB.out) | (with_reducible refine Kd.C_alloc ?_ _) | (with_reducible refine Kd.C_drewN ?_ _) | (with_reducible refine Kd.C_drew ?_))); (case side2 => exact HC0.out); rintro e w46 ⟨rfl, hb⟩; have n0_ := Aside0.mk (below_step (by repeat (first | (with_reducible first | exact HB.out | apply below_alloc | apply pw_below_drewN | apply below_drew1) | exact HB.out)) hb); clear HB; have HB := n0_; clear n0_; (try clear hb); (try clear hb2); (try clear hk); (try clear hi)) | (go_at_call 22; (with_reducible refine (kinds_Same.calls kj4 _ _ l0 t147 t146 t155 _ ?side1 ?side2 A33.out).mono ?_); (case side1 => repeat (first | exact (Kd.C_below HR0.out HB.out) | (with_reducible refine Kd.C_alloc ?_ _) | (with_reducible refine Kd.C_drewN ?_ _) | (with_reducible refine Kd.C_drew ?_))); (case side2 => exact HC0.out); rintro e w47 ⟨rfl, hb⟩; have n0_ := Aside0.mk (below_step (by repeat (first | (with_reducible first | exact HB.out | apply below_alloc | apply pw_below_drewN | apply below_drew1) | exact HB.out)) hb); clear HB; have HB := n0_; clear n0_; (try clear hb); (try clear hb2); (try clear hk); (try clear hi)))
          go_meet
          case rel => exact ⟨_, (false), (by first | rfl | (simp; done) | (simp [*]; done)), H', ⟨by have := HJ4.out; first | omega | exact Nat.le_refl _⟩, ⟨by repeat (first | (with_reducible first | exact HB.out | apply below_alloc | apply pw_below_drewN | apply below_drew1) | exact HB.out)⟩⟩
       ·replace c32 := Bool.eq_false_iff.mpr c32
        subst c32
        have H1 : (squintlaw04_KindsLaws.j1 kj4 l0 t146 t147 t148 (l0.length : Int) t151 t152 t153 true) = some r := by rw [if_neg (show ¬ (false = true) by decide)] at H; exact H
        clear H
        have H := H1
        clear H1
        have H' := Aside0.mk H
        clear H
        go_wp2_with (first | (go_at_call 22; (with_reducible refine (kinds_Same.calls kj4 _ _ l0 t146 t146 false _ ?side1 ?side2 A31.out).mono ?_); (case side1 => repeat (first | exact (Kd.C_below HR0.out HB.out) | (with_reducible refine Kd.C_alloc ?_ _) | (with_reducible refine Kd.C_drewN ?_ _) | (with_reducible refine Kd.C_drew ?_))); (case side2 => exact HC0.out); rintro e w48 ⟨rfl, hb⟩; have n0_ := Aside0.mk (below_step (by repeat (first | (with_reducible first | exact HB.out | apply below_alloc | apply pw_below_drewN | apply below_drew1) | exact HB.out)) hb); clear HB; have HB := n0_; clear n0_; (try clear hb); (try clear hb2); (try clear hk); (try clear hi)))
        go_meet
        case rel => exact ⟨_, (true), (by first | rfl | (simp; done) | (simp [*]; done)), H', ⟨by have := HJ4.out; first | omega | exact Nat.le_refl _⟩, ⟨by repeat (first | (with_reducible first | exact HB.out | apply below_alloc | apply pw_below_drewN | apply below_drew1) | exact HB.out)⟩⟩
      ·replace c30 := Bool.eq_false_iff.mpr c30
       subst c30
       have H1 : (squintlaw04_KindsLaws.j1 kj4 l0 t146 t147 t148 (l0.length : Int) t151 t152 t153 true) = some r := by rw [if_neg (show ¬ (false = true) by decide)] at H; exact H
       clear H
       have H := H1
       clear H1
       have H' := Aside0.mk H
       clear H
       go_wp2
       go_meet
       case rel => exact ⟨_, (true), (by first | rfl | (simp; done) | (simp [*]; done)), H', ⟨by have := HJ4.out; first | omega | exact Nat.le_refl _⟩, ⟨by repeat (first | (with_reducible first | exact HB.out | apply below_alloc | apply pw_below_drewN | apply below_drew1) | exact HB.out)⟩⟩
     case rest => as_aux_lemma =>
      clear HC24
      try clear c1
      try clear c2
      try clear p2
      try clear c3
      try clear c6
      try clear c6b0
      try clear c6b1
      try clear c6b2
      try clear c7
      try clear c7b0
      try clear c7b1
      try clear c11
      try clear c12
      try clear c19
      try clear c20
      try clear c22
      try clear c24
      try clear c30
      try clear c32
      try clear c34
      try clear c34b0
      try clear c34b1
      try clear c34b2
      try clear c37
      try clear c38
      try clear c39
      try clear p2
      obtain ⟨kq, x103_23, rfl, HA, HJ23, HB⟩ := hcut
      cases kq with
      | zero => exact absurd HA.out (by simp [squintlaw04_KindsLaws.j1])
      | succ kj23 =>
       have H := HA.out
       clear HA
       simp only [squintlaw04_KindsLaws.j1] at H
       by_cases c49 : x103_23 = true
       ·subst c49
        have H1 : (some false) = some r := by rw [if_pos rfl] at H; exact H
        clear H
        have H := H1
        clear H1
        obtain rfl := Option.some.inj H
        go_wp2
        go_ret
        exact ⟨by first | rfl | (simp [errW_none, errW_some] <;> rfl) | (simp [*, errW_none, errW_some] <;> rfl), by repeat (first | (with_reducible first | exact HB.out | apply below_alloc | apply pw_below_drewN | apply below_drew1) | exact HB.out)⟩
       ·replace c49 := Bool.eq_false_iff.mpr c49
        subst c49
        have H1 : (if 0 ≤ t146 then (if t146 < (l0.length : Int) then (if 0 ≤ t147 then (if t147 < (l0.length : Int) then (if ((rd_T43 l0 t146).f0) = ((rd_T43 l0 t147).f0) then (if (((rd_T43 l0 t146).f2) == ((rd_T43 l0 t147).f2)) = true then (squintlaw04_KindsLaws.j2 kj23 l0 t146 t147 t148 (l0.length : Int) t151 t152 t153 ((((rd_T43 l0 t146).f1).length : Int) == (((rd_T43 l0 t147).f1).length : Int))) else (squintlaw04_KindsLaws.j2 kj23 l0 t146 t147 t148 (l0.length : Int) t151 t152 t153 false)) else (squintlaw04_KindsLaws.j2 kj23 l0 t146 t147 t148 (l0.length : Int) t151 t152 t153 false)) else (none)) else (none)) else (none)) else (none)) = some r := by rw [if_neg (show ¬ (false = true) by decide)] at H; exact H
        clear H
        have H := H1
        clear H1
        have HC50 := Aside0.mk H
        clear H
        go_upto_region 15 with (fail)
        go_cut [14] (fun v14 wc => ∃ (kq : Nat) (x14_49 : Bool), v14 = .bool x14_49 ∧ Aside0 (squintlaw04_KindsLaws.j2 kq l0 t146 t147 t148 (l0.length : Int) t151 t152 t153 x14_49 = some r) ∧ Aside0 (kq ≤ kj23) ∧ Aside0 (Below w.heap.size w wc))
        case first => as_aux_lemma =>
         have H := HC50.out
         clear HC50
         by_cases c51 : 0 ≤ t146
         ·rw [if_pos c51] at H
          have c51b0 : decide (0 ≤ t146) = true := decide_eq_true c51
          clear c51
          (first | rw [c51b0] | (simp only [i64_w, i32_w]; rw [c51b0]) | skip)
          by_cases c52 : t146 < (l0.length : Int)
          ·rw [if_pos c52] at H
           have c52b0 : decide (t146 < (l0.length : Int)) = true := decide_eq_true c52
           clear c52
           by_cases c53 : 0 ≤ t147
           ·rw [if_pos c53] at H
            have c53b0 : decide (0 ≤ t147) = true := decide_eq_true c53
            clear c53
            by_cases c54 : t147 < (l0.length : Int)
            ·rw [if_pos c54] at H
             have c54b0 : decide (t147 < (l0.length : Int)) = true := decide_eq_true c54
             clear c54
             by_cases c55 : ((rd_T43 l0 t146).f0) = ((rd_T43 l0 t147).f0)
             ·rw [if_pos c55] at H
              have c55b0 : (((rd_T43 l0 t146).f0) == ((rd_T43 l0 t147).f0)) = true := beq_iff_eq.mpr c55
              have c55b1 : (((rd_T43 l0 t146).f0) != ((rd_T43 l0 t147).f0)) = false := bne_eq_false_iff_eq.mpr c55
              clear c55
              by_cases c56 : (((rd_T43 l0 t146).f2) == ((rd_T43 l0 t147).f2)) = true
              ·rw [if_pos c56] at H
               have c56b0 : (((rd_T43 l0 t146).f2) == ((rd_T43 l0 t147).f2)) = true := c56
               (try (have c56b1 : decide (((rd_T43 l0 t146).f2) = ((rd_T43 l0 t147).f2)) = true := by simpa using c56))
               (try (have c56b2 : (((rd_T43 l0 t146).f2) == ((rd_T43 l0 t147).f2)) = true := by simpa using c56))
               clear c56
               have H' := Aside0.mk H
               clear H
               try go_wp2
               have n0_ := Aside0.mk (below_drew1 HB.out)
               clear HB
               have HB := n0_
               clear n0_
               have p156 : 0 ≤ (t146 : Int) := of_decide_eq_true (by first | (with_reducible assumption) | assumption)
               have q156 : t146 < (l0.length : Int) := of_decide_eq_true (by first | (with_reducible assumption) | assumption)
               obtain ⟨ad156, A156_1, c156_1, e156, hx156_0, hx156_1, hx156_2, hl156_1, hi156_1⟩ := at_T43 HR0.out t146 p156 q156
               have hw156_2 := hx156_2
               have hw156_1 := hx156_1
               have hw156_0 := hx156_0
               cases e156
               replace hx156_0 := (HB.out.cell (World.block_lt_of_cell? w _ hx156_0)).trans hx156_0
               replace hx156_1 := (HB.out.cell (World.block_lt_of_cell? w _ hx156_1)).trans hx156_1
               replace hx156_2 := (HB.out.cell (World.block_lt_of_cell? w _ hx156_2)).trans hx156_2
               have HR156_1 := Aside0.mk hi156_1
               have HC156_1 := Aside0.mk hl156_1
               clear hi156_1 hl156_1
               replace p156 := eq_true p156
               replace q156 := eq_true q156
               have p157 : 0 ≤ (t147 : Int) := of_decide_eq_true (by first | (with_reducible assumption) | assumption)
               have q157 : t147 < (l0.length : Int) := of_decide_eq_true (by first | (with_reducible assumption) | assumption)
               obtain ⟨ad157, A157_1, c157_1, e157, hx157_0, hx157_1, hx157_2, hl157_1, hi157_1⟩ := at_T43 HR0.out t147 p157 q157
               have hw157_2 := hx157_2
               have hw157_1 := hx157_1
               have hw157_0 := hx157_0
               obtain rfl : ad156 = ad157 := (by injection e157)
               replace hx157_0 := (HB.out.cell (World.block_lt_of_cell? w _ hx157_0)).trans hx157_0
               replace hx157_1 := (HB.out.cell (World.block_lt_of_cell? w _ hx157_1)).trans hx157_1
               replace hx157_2 := (HB.out.cell (World.block_lt_of_cell? w _ hx157_2)).trans hx157_2
               have HR157_1 := Aside0.mk hi157_1
               have HC157_1 := Aside0.mk hl157_1
               clear hi157_1 hl157_1
               replace p157 := eq_true p157
               replace q157 := eq_true q157
               have p158 : 0 ≤ (t146 : Int) := of_decide_eq_true (by first | (with_reducible assumption) | assumption)
               have q158 : t146 < (l0.length : Int) := of_decide_eq_true (by first | (with_reducible assumption) | assumption)
               obtain ⟨ad158, A158_1, c158_1, e158, hx158_0, hx158_1, hx158_2, hl158_1, hi158_1⟩ := at_T43 HR0.out t146 p158 q158
               have hw158_2 := hx158_2
               have hw158_1 := hx158_1
               have hw158_0 := hx158_0
               obtain rfl : ad156 = ad158 := (by injection e158)
               replace hx158_0 := (HB.out.cell (World.block_lt_of_cell? w _ hx158_0)).trans hx158_0
               replace hx158_1 := (HB.out.cell (World.block_lt_of_cell? w _ hx158_1)).trans hx158_1
               replace hx158_2 := (HB.out.cell (World.block_lt_of_cell? w _ hx158_2)).trans hx158_2
               have HR158_1 := Aside0.mk hi158_1
               have HC158_1 := Aside0.mk hl158_1
               clear hi158_1 hl158_1
               replace p158 := eq_true p158
               replace q158 := eq_true q158
               have ea_ := Option.some.inj (hx156_1.symm.trans hx158_1)
               injection ea_ with ea_ en_ ec_
               subst ea_
               subst ec_
               clear en_
               have p159 : 0 ≤ (t147 : Int) := of_decide_eq_true (by first | (with_reducible assumption) | assumption)
               have q159 : t147 < (l0.length : Int) := of_decide_eq_true (by first | (with_reducible assumption) | assumption)
               obtain ⟨ad159, A159_1, c159_1, e159, hx159_0, hx159_1, hx159_2, hl159_1, hi159_1⟩ := at_T43 HR0.out t147 p159 q159
               have hw159_2 := hx159_2
               have hw159_1 := hx159_1
               have hw159_0 := hx159_0
               obtain rfl : ad156 = ad159 := (by injection e159)
               replace hx159_0 := (HB.out.cell (World.block_lt_of_cell? w _ hx159_0)).trans hx159_0
               replace hx159_1 := (HB.out.cell (World.block_lt_of_cell? w _ hx159_1)).trans hx159_1
               replace hx159_2 := (HB.out.cell (World.block_lt_of_cell? w _ hx159_2)).trans hx159_2
               have HR159_1 := Aside0.mk hi159_1
               have HC159_1 := Aside0.mk hl159_1
               clear hi159_1 hl159_1
               replace p159 := eq_true p159
               replace q159 := eq_true q159
               have ea_ := Option.some.inj (hx157_1.symm.trans hx159_1)
               injection ea_ with ea_ en_ ec_
               subst ea_
               subst ec_
               clear en_
               have p160 : 0 ≤ (t146 : Int) := of_decide_eq_true (by first | (with_reducible assumption) | assumption)
               have q160 : t146 < (l0.length : Int) := of_decide_eq_true (by first | (with_reducible assumption) | assumption)
               obtain ⟨ad160, A160_1, c160_1, e160, hx160_0, hx160_1, hx160_2, hl160_1, hi160_1⟩ := at_T43 HR0.out t146 p160 q160
               have hw160_2 := hx160_2
               have hw160_1 := hx160_1
               have hw160_0 := hx160_0
               obtain rfl : ad156 = ad160 := (by injection e160)
               replace hx160_0 := (HB.out.cell (World.block_lt_of_cell? w _ hx160_0)).trans hx160_0
               replace hx160_1 := (HB.out.cell (World.block_lt_of_cell? w _ hx160_1)).trans hx160_1
               replace hx160_2 := (HB.out.cell (World.block_lt_of_cell? w _ hx160_2)).trans hx160_2
               have HR160_1 := Aside0.mk hi160_1
               have HC160_1 := Aside0.mk hl160_1
               clear hi160_1 hl160_1
               replace p160 := eq_true p160
               replace q160 := eq_true q160
               have ea_ := Option.some.inj (hx156_1.symm.trans hx160_1)
               injection ea_ with ea_ en_ ec_
               subst ea_
               subst ec_
               clear en_
               have p161 : 0 ≤ (t147 : Int) := of_decide_eq_true (by first | (with_reducible assumption) | assumption)
               have q161 : t147 < (l0.length : Int) := of_decide_eq_true (by first | (with_reducible assumption) | assumption)
               obtain ⟨ad161, A161_1, c161_1, e161, hx161_0, hx161_1, hx161_2, hl161_1, hi161_1⟩ := at_T43 HR0.out t147 p161 q161
               have hw161_2 := hx161_2
               have hw161_1 := hx161_1
               have hw161_0 := hx161_0
               obtain rfl : ad156 = ad161 := (by injection e161)
               replace hx161_0 := (HB.out.cell (World.block_lt_of_cell? w _ hx161_0)).trans hx161_0
               replace hx161_1 := (HB.out.cell (World.block_lt_of_cell? w _ hx161_1)).trans hx161_1
               replace hx161_2 := (HB.out.cell (World.block_lt_of_cell? w _ hx161_2)).trans hx161_2
               have HR161_1 := Aside0.mk hi161_1
               have HC161_1 := Aside0.mk hl161_1
               clear hi161_1 hl161_1
               replace p161 := eq_true p161
               replace q161 := eq_true q161
               have ea_ := Option.some.inj (hx157_1.symm.trans hx161_1)
               injection ea_ with ea_ en_ ec_
               subst ea_
               subst ec_
               clear en_
               refine start_ (n := 40) (S := fun w' => w'.cell? (ad156.add ((t146).toNat * 3)) = some (.int .i64 ((rd_T43 l0 t146).f0)) ∧ w'.cell? ⟨(ad156.add ((t146).toNat * 3)).block, (ad156.add ((t146).toNat * 3)).off + 1, none⟩ = some (.slice A156_1 ((rd_T43 l0 t146).f1).length c156_1) ∧ w'.cell? ⟨(ad156.add ((t146).toNat * 3)).block, (ad156.add ((t146).toNat * 3)).off + 2, none⟩ = some (.bool ((rd_T43 l0 t146).f2)) ∧ w'.cell? (ad156.add ((t147).toNat * 3)) = some (.int .i64 ((rd_T43 l0 t147).f0)) ∧ w'.cell? ⟨(ad156.add ((t147).toNat * 3)).block, (ad156.add ((t147).toNat * 3)).off + 1, none⟩ = some (.slice A157_1 ((rd_T43 l0 t147).f1).length c157_1) ∧ w'.cell? ⟨(ad156.add ((t147).toNat * 3)).block, (ad156.add ((t147).toNat * 3)).off + 2, none⟩ = some (.bool ((rd_T43 l0 t147).f2)) ∧ w'.cell? (ad156.add ((t146).toNat * 3)) = some (.int .i64 ((rd_T43 l0 t146).f0)) ∧ w'.cell? ⟨(ad156.add ((t146).toNat * 3)).block, (ad156.add ((t146).toNat * 3)).off + 1, none⟩ = some (.slice A156_1 ((rd_T43 l0 t146).f1).length c156_1) ∧ w'.cell? ⟨(ad156.add ((t146).toNat * 3)).block, (ad156.add ((t146).toNat * 3)).off + 2, none⟩ = some (.bool ((rd_T43 l0 t146).f2)) ∧ w'.cell? (ad156.add ((t147).toNat * 3)) = some (.int .i64 ((rd_T43 l0 t147).f0)) ∧ w'.cell? ⟨(ad156.add ((t147).toNat * 3)).block, (ad156.add ((t147).toNat * 3)).off + 1, none⟩ = some (.slice A157_1 ((rd_T43 l0 t147).f1).length c157_1) ∧ w'.cell? ⟨(ad156.add ((t147).toNat * 3)).block, (ad156.add ((t147).toNat * 3)).off + 2, none⟩ = some (.bool ((rd_T43 l0 t147).f2)) ∧ w'.cell? (ad156.add ((t146).toNat * 3)) = some (.int .i64 ((rd_T43 l0 t146).f0)) ∧ w'.cell? ⟨(ad156.add ((t146).toNat * 3)).block, (ad156.add ((t146).toNat * 3)).off + 1, none⟩ = some (.slice A156_1 ((rd_T43 l0 t146).f1).length c156_1) ∧ w'.cell? ⟨(ad156.add ((t146).toNat * 3)).block, (ad156.add ((t146).toNat * 3)).off + 2, none⟩ = some (.bool ((rd_T43 l0 t146).f2)) ∧ w'.cell? (ad156.add ((t147).toNat * 3)) = some (.int .i64 ((rd_T43 l0 t147).f0)) ∧ w'.cell? ⟨(ad156.add ((t147).toNat * 3)).block, (ad156.add ((t147).toNat * 3)).off + 1, none⟩ = some (.slice A157_1 ((rd_T43 l0 t147).f1).length c157_1) ∧ w'.cell? ⟨(ad156.add ((t147).toNat * 3)).block, (ad156.add ((t147).toNat * 3)).off + 2, none⟩ = some (.bool ((rd_T43 l0 t147).f2))) (ds := []) #[false, false, false, false, false, false, false, false, false, false, false, false, false, false, false, false, false, false, false, false, false, false, false, false, false, false, false, false, false, false, false, false, false, false, false, false, false, false, false, false] (by kernel_rfl) rfl rfl ⟨((HB.out.cell (World.block_lt_of_cell? w _ hw156_0)).trans hw156_0), ((HB.out.cell (World.block_lt_of_cell? w _ hw156_1)).trans hw156_1), ((HB.out.cell (World.block_lt_of_cell? w _ hw156_2)).trans hw156_2), ((HB.out.cell (World.block_lt_of_cell? w _ hw157_0)).trans hw157_0), ((HB.out.cell (World.block_lt_of_cell? w _ hw157_1)).trans hw157_1), ((HB.out.cell (World.block_lt_of_cell? w _ hw157_2)).trans hw157_2), ((HB.out.cell (World.block_lt_of_cell? w _ hw158_0)).trans hw158_0), ((HB.out.cell (World.block_lt_of_cell? w _ hw158_1)).trans hw158_1), ((HB.out.cell (World.block_lt_of_cell? w _ hw158_2)).trans hw158_2), ((HB.out.cell (World.block_lt_of_cell? w _ hw159_0)).trans hw159_0), ((HB.out.cell (World.block_lt_of_cell? w _ hw159_1)).trans hw159_1), ((HB.out.cell (World.block_lt_of_cell? w _ hw159_2)).trans hw159_2), ((HB.out.cell (World.block_lt_of_cell? w _ hw160_0)).trans hw160_0), ((HB.out.cell (World.block_lt_of_cell? w _ hw160_1)).trans hw160_1), ((HB.out.cell (World.block_lt_of_cell? w _ hw160_2)).trans hw160_2), ((HB.out.cell (World.block_lt_of_cell? w _ hw161_0)).trans hw161_0), ((HB.out.cell (World.block_lt_of_cell? w _ hw161_1)).trans hw161_1), ((HB.out.cell (World.block_lt_of_cell? w _ hw161_2)).trans hw161_2)⟩ (fun hHeld => ?_); refine with_tabW squintlaw04_KindsLaws.tab15 squintlaw04_KindsLaws.bits15 (fun HT_ HW_ => ?_)
               generalize wc.drew = w57 at HB HR156_1 HR157_1 HR158_1 HR159_1 HR160_1 HR161_1 hx156_0 hx156_1 hx156_2 hx157_0 hx157_1 hx157_2 hx158_0 hx158_1 hx158_2 hx159_0 hx159_1 hx159_2 hx160_0 hx160_1 hx160_2 hx161_0 hx161_1 hx161_2 hHeld ⊢
               refine pure_ (i := 0) (N := some 104) (v := ?_) (a' := ?_) #[true, false, false, false, false, false, false, false, false, false, false, false, false, false, false, false, false, false, false, false, false, false, false, false, false, false, false, false, false, false, false, false, false, false, false, false, false, false, false, false] rfl rfl (any_of HT_.out (by kernel_rfl)) (fun _ _ _ h => h) (Or.inl ⟨by rfl, ?_⟩) ?_ ?_
               rotate_left
               ·intro w'
                go_simp
                with_reducible rfl
               rotate_left
               ·simp only [Act.put, List.setIfInBounds_toArray, List.set_cons_zero, List.set_cons_succ, i64_w, i32_w]
                rfl
               refine pure_ (i := 1) (N := some 105) (v := ?_) (a' := ?_) #[true, true, false, false, false, false, false, false, false, false, false, false, false, false, false, false, false, false, false, false, false, false, false, false, false, false, false, false, false, false, false, false, false, false, false, false, false, false, false, false] rfl rfl (any_of HT_.out (by kernel_rfl)) (fun _ _ _ h => h) (Or.inl ⟨by rfl, ?_⟩) ?_ ?_
               rotate_left
               ·intro w'
                go_simp
                with_reducible rfl
               rotate_left
               ·simp only [Act.put, List.setIfInBounds_toArray, List.set_cons_zero, List.set_cons_succ, i64_w, i32_w]
                rfl
               refine pure_ (i := 2) (N := some 106) (v := ?_) (a' := ?_) #[true, true, true, false, false, false, false, false, false, false, false, false, false, false, false, false, false, false, false, false, false, false, false, false, false, false, false, false, false, false, false, false, false, false, false, false, false, false, false, false] rfl rfl (any_of HT_.out (by kernel_rfl)) (fun _ _ _ h => h) (Or.inl ⟨by rfl, ?_⟩) ?_ ?_
               rotate_left
               ·intro w'
                go_simp
                with_reducible rfl
               rotate_left
               ·simp only [Act.put, List.setIfInBounds_toArray, List.set_cons_zero, List.set_cons_succ, i64_w, i32_w]
                rfl
               refine pure_ (i := 3) (N := some 107) (v := ?_) (a' := ?_) #[true, true, true, true, false, false, false, false, false, false, false, false, false, false, false, false, false, false, false, false, false, false, false, false, false, false, false, false, false, false, false, false, false, false, false, false, false, false, false, false] rfl rfl (any_of HT_.out (by kernel_rfl)) (fun _ _ _ h => h) (Or.inl ⟨by rfl, ?_⟩) ?_ ?_
               rotate_left
               ·intro w'
                go_simp
                with_reducible rfl
               rotate_left
               ·simp only [Act.put, List.setIfInBounds_toArray, List.set_cons_zero, List.set_cons_succ, i64_w, i32_w]
                rfl
               refine pure_ (i := 5) (N := some 109) (v := ?_) (a' := ?_) #[true, true, true, true, false, true, false, false, false, false, false, false, false, false, false, false, false, false, false, false, false, false, false, false, false, false, false, false, false, false, false, false, false, false, false, false, false, false, false, false] rfl rfl (any_of HT_.out (by kernel_rfl)) (fun _ _ _ h => h) (Or.inl ⟨by rfl, ?_⟩) ?_ ?_
               rotate_left
               ·intro w'
                go_simp
                with_reducible rfl
               rotate_left
               ·simp only [Act.put, List.setIfInBounds_toArray, List.set_cons_zero, List.set_cons_succ, i64_w, i32_w]
                rfl
               refine pure_ (i := 6) (N := some 110) (v := ?_) (a' := ?_) #[true, true, true, true, false, true, true, false, false, false, false, false, false, false, false, false, false, false, false, false, false, false, false, false, false, false, false, false, false, false, false, false, false, false, false, false, false, false, false, false] rfl rfl (any_of HT_.out (by kernel_rfl)) (fun _ _ _ h => h) (Or.inl ⟨by rfl, ?_⟩) ?_ ?_
               rotate_left
               ·intro w'
                go_simp
                with_reducible rfl
               rotate_left
               ·simp only [Act.put, List.setIfInBounds_toArray, List.set_cons_zero, List.set_cons_succ, i64_w, i32_w]
                rfl
               refine pure_ (i := 7) (N := some 111) (v := ?_) (a' := ?_) #[true, true, true, true, false, true, true, true, false, false, false, false, false, false, false, false, false, false, false, false, false, false, false, false, false, false, false, false, false, false, false, false, false, false, false, false, false, false, false, false] rfl rfl (any_of HT_.out (by kernel_rfl)) (fun _ _ _ h => h) (Or.inl ⟨by rfl, ?_⟩) ?_ ?_
               rotate_left
               ·intro w'
                go_simp
                with_reducible rfl
               rotate_left
               ·simp only [Act.put, List.setIfInBounds_toArray, List.set_cons_zero, List.set_cons_succ, i64_w, i32_w]
                rfl
               refine pure_ (i := 8) (N := some 112) (v := ?_) (a' := ?_) #[true, true, true, true, false, true, true, true, true, false, false, false, false, false, false, false, false, false, false, false, false, false, false, false, false, false, false, false, false, false, false, false, false, false, false, false, false, false, false, false] rfl rfl (any_of HT_.out (by kernel_rfl)) (fun _ _ _ h => h) (Or.inl ⟨by rfl, ?_⟩) ?_ ?_
               rotate_left
               ·intro w'
                go_simp
                with_reducible rfl
               rotate_left
               ·simp only [Act.put, List.setIfInBounds_toArray, List.set_cons_zero, List.set_cons_succ, i64_w, i32_w]
                rfl
               refine take_ (i := 4) (N := some 108) (v := ?_) (a' := ?_) #[true, true, true, true, true, true, true, true, true, false, false, false, false, false, false, false, false, false, false, false, false, false, false, false, false, false, false, false, false, false, false, false, false, false, false, false, false, false, false, false] rfl rfl (take_ofW HT_.out HW_.out (by kernel_rfl)) (fun _ _ _ h => h) (Or.inl ⟨by rfl, ?_⟩) hHeld ?_ ?_
               rotate_left
               ·rintro w' ⟨s0, s1, s2, s3, s4, s5, s6, s7, s8, s9, s10, s11, s12, s13, s14, s15, s16, s17⟩
                go_simp
                with_reducible rfl
               rotate_left
               ·simp only [Act.put, List.setIfInBounds_toArray, List.set_cons_zero, List.set_cons_succ, i64_w, i32_w]
                rfl
               refine take_ (i := 9) (N := some 113) (v := ?_) (a' := ?_) #[true, true, true, true, true, true, true, true, true, true, false, false, false, false, false, false, false, false, false, false, false, false, false, false, false, false, false, false, false, false, false, false, false, false, false, false, false, false, false, false] rfl rfl (take_ofW HT_.out HW_.out (by kernel_rfl)) (fun _ _ _ h => h) (Or.inl ⟨by rfl, ?_⟩) hHeld ?_ ?_
               rotate_left
               ·rintro w' ⟨s0, s1, s2, s3, s4, s5, s6, s7, s8, s9, s10, s11, s12, s13, s14, s15, s16, s17⟩
                go_simp
                with_reducible rfl
               rotate_left
               ·simp only [Act.put, List.setIfInBounds_toArray, List.set_cons_zero, List.set_cons_succ, i64_w, i32_w]
                rfl
               refine pure_ (i := 10) (N := some 114) (v := ?_) (a' := ?_) #[true, true, true, true, true, true, true, true, true, true, true, false, false, false, false, false, false, false, false, false, false, false, false, false, false, false, false, false, false, false, false, false, false, false, false, false, false, false, false, false] rfl rfl (any_of HT_.out (by kernel_rfl)) (fun _ _ _ h => h) (Or.inl ⟨by rfl, ?_⟩) ?_ ?_
               rotate_left
               ·intro w'
                go_simp
                with_reducible rfl
               rotate_left
               ·simp only [Act.put, List.setIfInBounds_toArray, List.set_cons_zero, List.set_cons_succ, i64_w, i32_w]
                rfl
               refine pure_ (i := 11) (N := some 115) (v := ?_) (a' := ?_) #[true, true, true, true, true, true, true, true, true, true, true, true, false, false, false, false, false, false, false, false, false, false, false, false, false, false, false, false, false, false, false, false, false, false, false, false, false, false, false, false] rfl rfl (any_of HT_.out (by kernel_rfl)) (fun _ _ _ h => h) (Or.inl ⟨by rfl, ?_⟩) ?_ ?_
               rotate_left
               ·intro w'
                go_simp
                with_reducible rfl
               rotate_left
               ·simp only [Act.put, List.setIfInBounds_toArray, List.set_cons_zero, List.set_cons_succ, i64_w, i32_w]
                rfl
               refine pure_ (i := 12) (N := some 116) (v := ?_) (a' := ?_) #[true, true, true, true, true, true, true, true, true, true, true, true, true, false, false, false, false, false, false, false, false, false, false, false, false, false, false, false, false, false, false, false, false, false, false, false, false, false, false, false] rfl rfl (any_of HT_.out (by kernel_rfl)) (fun _ _ _ h => h) (Or.inl ⟨by rfl, ?_⟩) ?_ ?_
               rotate_left
               ·intro w'
                go_simp
                with_reducible rfl
               rotate_left
               ·simp only [Act.put, List.setIfInBounds_toArray, List.set_cons_zero, List.set_cons_succ, i64_w, i32_w]
                rfl
               refine pure_ (i := 13) (N := some 117) (v := ?_) (a' := ?_) #[true, true, true, true, true, true, true, true, true, true, true, true, true, true, false, false, false, false, false, false, false, false, false, false, false, false, false, false, false, false, false, false, false, false, false, false, false, false, false, false] rfl rfl (any_of HT_.out (by kernel_rfl)) (fun _ _ _ h => h) (Or.inl ⟨by rfl, ?_⟩) ?_ ?_
               rotate_left
               ·intro w'
                go_simp
                with_reducible rfl
               rotate_left
               ·simp only [Act.put, List.setIfInBounds_toArray, List.set_cons_zero, List.set_cons_succ, i64_w, i32_w]
                rfl
               refine pure_ (i := 14) (N := some 118) (v := ?_) (a' := ?_) #[true, true, true, true, true, true, true, true, true, true, true, true, true, true, true, false, false, false, false, false, false, false, false, false, false, false, false, false, false, false, false, false, false, false, false, false, false, false, false, false] rfl rfl (any_of HT_.out (by kernel_rfl)) (fun _ _ _ h => h) (Or.inl ⟨by rfl, ?_⟩) ?_ ?_
               rotate_left
               ·intro w'
                go_simp
                with_reducible rfl
               rotate_left
               ·simp only [Act.put, List.setIfInBounds_toArray, List.set_cons_zero, List.set_cons_succ, i64_w, i32_w]
                rfl
               refine pure_ (i := 15) (N := some 119) (v := ?_) (a' := ?_) #[true, true, true, true, true, true, true, true, true, true, true, true, true, true, true, true, false, false, false, false, false, false, false, false, false, false, false, false, false, false, false, false, false, false, false, false, false, false, false, false] rfl rfl (any_of HT_.out (by kernel_rfl)) (fun _ _ _ h => h) (Or.inl ⟨by rfl, ?_⟩) ?_ ?_
               rotate_left
               ·intro w'
                go_simp
                with_reducible rfl
               rotate_left
               ·simp only [Act.put, List.setIfInBounds_toArray, List.set_cons_zero, List.set_cons_succ, i64_w, i32_w]
                rfl
               refine pure_ (i := 17) (N := some 121) (v := ?_) (a' := ?_) #[true, true, true, true, true, true, true, true, true, true, true, true, true, true, true, true, false, true, false, false, false, false, false, false, false, false, false, false, false, false, false, false, false, false, false, false, false, false, false, false] rfl rfl (any_of HT_.out (by kernel_rfl)) (fun _ _ _ h => h) (Or.inl ⟨by rfl, ?_⟩) ?_ ?_
               rotate_left
               ·intro w'
                go_simp
                with_reducible rfl
               rotate_left
               ·simp only [Act.put, List.setIfInBounds_toArray, List.set_cons_zero, List.set_cons_succ, i64_w, i32_w]
                rfl
               refine pure_ (i := 18) (N := some 122) (v := ?_) (a' := ?_) #[true, true, true, true, true, true, true, true, true, true, true, true, true, true, true, true, false, true, true, false, false, false, false, false, false, false, false, false, false, false, false, false, false, false, false, false, false, false, false, false] rfl rfl (any_of HT_.out (by kernel_rfl)) (fun _ _ _ h => h) (Or.inl ⟨by rfl, ?_⟩) ?_ ?_
               rotate_left
               ·intro w'
                go_simp
                with_reducible rfl
               rotate_left
               ·simp only [Act.put, List.setIfInBounds_toArray, List.set_cons_zero, List.set_cons_succ, i64_w, i32_w]
                rfl
               refine pure_ (i := 19) (N := some 123) (v := ?_) (a' := ?_) #[true, true, true, true, true, true, true, true, true, true, true, true, true, true, true, true, false, true, true, true, false, false, false, false, false, false, false, false, false, false, false, false, false, false, false, false, false, false, false, false] rfl rfl (any_of HT_.out (by kernel_rfl)) (fun _ _ _ h => h) (Or.inl ⟨by rfl, ?_⟩) ?_ ?_
               rotate_left
               ·intro w'
                go_simp
                with_reducible rfl
               rotate_left
               ·simp only [Act.put, List.setIfInBounds_toArray, List.set_cons_zero, List.set_cons_succ, i64_w, i32_w]
                rfl
               refine pure_ (i := 20) (N := some 124) (v := ?_) (a' := ?_) #[true, true, true, true, true, true, true, true, true, true, true, true, true, true, true, true, false, true, true, true, true, false, false, false, false, false, false, false, false, false, false, false, false, false, false, false, false, false, false, false] rfl rfl (any_of HT_.out (by kernel_rfl)) (fun _ _ _ h => h) (Or.inl ⟨by rfl, ?_⟩) ?_ ?_
               rotate_left
               ·intro w'
                go_simp
                with_reducible rfl
               rotate_left
               ·simp only [Act.put, List.setIfInBounds_toArray, List.set_cons_zero, List.set_cons_succ, i64_w, i32_w]
                rfl
               refine take_ (i := 16) (N := some 120) (v := ?_) (a' := ?_) #[true, true, true, true, true, true, true, true, true, true, true, true, true, true, true, true, true, true, true, true, true, false, false, false, false, false, false, false, false, false, false, false, false, false, false, false, false, false, false, false] rfl rfl (take_ofW HT_.out HW_.out (by kernel_rfl)) (fun _ _ _ h => h) (Or.inl ⟨by rfl, ?_⟩) hHeld ?_ ?_
               rotate_left
               ·rintro w' ⟨s0, s1, s2, s3, s4, s5, s6, s7, s8, s9, s10, s11, s12, s13, s14, s15, s16, s17⟩
                go_simp
                with_reducible rfl
               rotate_left
               ·simp only [Act.put, List.setIfInBounds_toArray, List.set_cons_zero, List.set_cons_succ, i64_w, i32_w]
                rfl
               refine take_ (i := 21) (N := some 125) (v := ?_) (a' := ?_) #[true, true, true, true, true, true, true, true, true, true, true, true, true, true, true, true, true, true, true, true, true, true, false, false, false, false, false, false, false, false, false, false, false, false, false, false, false, false, false, false] rfl rfl (take_ofW HT_.out HW_.out (by kernel_rfl)) (fun _ _ _ h => h) (Or.inl ⟨by rfl, ?_⟩) hHeld ?_ ?_
               rotate_left
               ·rintro w' ⟨s0, s1, s2, s3, s4, s5, s6, s7, s8, s9, s10, s11, s12, s13, s14, s15, s16, s17⟩
                go_simp
                with_reducible rfl
               rotate_left
               ·simp only [Act.put, List.setIfInBounds_toArray, List.set_cons_zero, List.set_cons_succ, i64_w, i32_w]
                rfl
               refine pure_ (i := 22) (N := some 126) (v := ?_) (a' := ?_) #[true, true, true, true, true, true, true, true, true, true, true, true, true, true, true, true, true, true, true, true, true, true, true, false, false, false, false, false, false, false, false, false, false, false, false, false, false, false, false, false] rfl rfl (any_of HT_.out (by kernel_rfl)) (fun _ _ _ h => h) (Or.inl ⟨by rfl, ?_⟩) ?_ ?_
               rotate_left
               ·intro w'
                go_simp
                with_reducible rfl
               rotate_left
               ·simp only [Act.put, List.setIfInBounds_toArray, List.set_cons_zero, List.set_cons_succ, i64_w, i32_w]
                rfl
               refine pure_ (i := 23) (N := some 127) (v := ?_) (a' := ?_) #[true, true, true, true, true, true, true, true, true, true, true, true, true, true, true, true, true, true, true, true, true, true, true, true, false, false, false, false, false, false, false, false, false, false, false, false, false, false, false, false] rfl rfl (any_of HT_.out (by kernel_rfl)) (fun _ _ _ h => h) (Or.inl ⟨by rfl, ?_⟩) ?_ ?_
               rotate_left
               ·intro w'
                go_simp
                with_reducible rfl
               rotate_left
               ·simp only [Act.put, List.setIfInBounds_toArray, List.set_cons_zero, List.set_cons_succ, i64_w, i32_w]
                rfl
               refine pure_ (i := 24) (N := some 128) (v := ?_) (a' := ?_) #[true, true, true, true, true, true, true, true, true, true, true, true, true, true, true, true, true, true, true, true, true, true, true, true, true, false, false, false, false, false, false, false, false, false, false, false, false, false, false, false] rfl rfl (any_of HT_.out (by kernel_rfl)) (fun _ _ _ h => h) (Or.inl ⟨by rfl, ?_⟩) ?_ ?_
               rotate_left
               ·intro w'
                go_simp
                with_reducible rfl
               rotate_left
               ·simp only [Act.put, List.setIfInBounds_toArray, List.set_cons_zero, List.set_cons_succ, i64_w, i32_w]
                rfl
               refine pure_ (i := 25) (N := some 129) (v := ?_) (a' := ?_) #[true, true, true, true, true, true, true, true, true, true, true, true, true, true, true, true, true, true, true, true, true, true, true, true, true, true, false, false, false, false, false, false, false, false, false, false, false, false, false, false] rfl rfl (any_of HT_.out (by kernel_rfl)) (fun _ _ _ h => h) (Or.inl ⟨by rfl, ?_⟩) ?_ ?_
               rotate_left
               ·intro w'
                go_simp
                with_reducible rfl
               rotate_left
               ·simp only [Act.put, List.setIfInBounds_toArray, List.set_cons_zero, List.set_cons_succ, i64_w, i32_w]
                rfl
               refine pure_ (i := 26) (N := some 130) (v := ?_) (a' := ?_) #[true, true, true, true, true, true, true, true, true, true, true, true, true, true, true, true, true, true, true, true, true, true, true, true, true, true, true, false, false, false, false, false, false, false, false, false, false, false, false, false] rfl rfl (any_of HT_.out (by kernel_rfl)) (fun _ _ _ h => h) (Or.inl ⟨by rfl, ?_⟩) ?_ ?_
               rotate_left
               ·intro w'
                go_simp
                with_reducible rfl
               rotate_left
               ·simp only [Act.put, List.setIfInBounds_toArray, List.set_cons_zero, List.set_cons_succ, i64_w, i32_w]
                rfl
               refine pure_ (i := 27) (N := some 131) (v := ?_) (a' := ?_) #[true, true, true, true, true, true, true, true, true, true, true, true, true, true, true, true, true, true, true, true, true, true, true, true, true, true, true, true, false, false, false, false, false, false, false, false, false, false, false, false] rfl rfl (any_of HT_.out (by kernel_rfl)) (fun _ _ _ h => h) (Or.inl ⟨by rfl, ?_⟩) ?_ ?_
               rotate_left
               ·intro w'
                go_simp
                with_reducible rfl
               rotate_left
               ·simp only [Act.put, List.setIfInBounds_toArray, List.set_cons_zero, List.set_cons_succ, i64_w, i32_w]
                rfl
               refine pure_ (i := 28) (N := some 132) (v := ?_) (a' := ?_) #[true, true, true, true, true, true, true, true, true, true, true, true, true, true, true, true, true, true, true, true, true, true, true, true, true, true, true, true, true, false, false, false, false, false, false, false, false, false, false, false] rfl rfl (any_of HT_.out (by kernel_rfl)) (fun _ _ _ h => h) (Or.inl ⟨by rfl, ?_⟩) ?_ ?_
               rotate_left
               ·intro w'
                go_simp
                with_reducible rfl
               rotate_left
               ·simp only [Act.put, List.setIfInBounds_toArray, List.set_cons_zero, List.set_cons_succ, i64_w, i32_w]
                rfl
               refine pure_ (i := 31) (N := some 135) (v := ?_) (a' := ?_) #[true, true, true, true, true, true, true, true, true, true, true, true, true, true, true, true, true, true, true, true, true, true, true, true, true, true, true, true, true, false, false, true, false, false, false, false, false, false, false, false] rfl rfl (any_of HT_.out (by kernel_rfl)) (fun _ _ _ h => h) (Or.inl ⟨by rfl, ?_⟩) ?_ ?_
               rotate_left
               ·intro w'
                go_simp
                with_reducible rfl
               rotate_left
               ·simp only [Act.put, List.setIfInBounds_toArray, List.set_cons_zero, List.set_cons_succ, i64_w, i32_w]
                rfl
               refine pure_ (i := 32) (N := some 136) (v := ?_) (a' := ?_) #[true, true, true, true, true, true, true, true, true, true, true, true, true, true, true, true, true, true, true, true, true, true, true, true, true, true, true, true, true, false, false, true, true, false, false, false, false, false, false, false] rfl rfl (any_of HT_.out (by kernel_rfl)) (fun _ _ _ h => h) (Or.inl ⟨by rfl, ?_⟩) ?_ ?_
               rotate_left
               ·intro w'
                go_simp
                with_reducible rfl
               rotate_left
               ·simp only [Act.put, List.setIfInBounds_toArray, List.set_cons_zero, List.set_cons_succ, i64_w, i32_w]
                rfl
               refine pure_ (i := 33) (N := some 137) (v := ?_) (a' := ?_) #[true, true, true, true, true, true, true, true, true, true, true, true, true, true, true, true, true, true, true, true, true, true, true, true, true, true, true, true, true, false, false, true, true, true, false, false, false, false, false, false] rfl rfl (any_of HT_.out (by kernel_rfl)) (fun _ _ _ h => h) (Or.inl ⟨by rfl, ?_⟩) ?_ ?_
               rotate_left
               ·intro w'
                go_simp
                with_reducible rfl
               rotate_left
               ·simp only [Act.put, List.setIfInBounds_toArray, List.set_cons_zero, List.set_cons_succ, i64_w, i32_w]
                rfl
               refine pure_ (i := 34) (N := some 138) (v := ?_) (a' := ?_) #[true, true, true, true, true, true, true, true, true, true, true, true, true, true, true, true, true, true, true, true, true, true, true, true, true, true, true, true, true, false, false, true, true, true, true, false, false, false, false, false] rfl rfl (any_of HT_.out (by kernel_rfl)) (fun _ _ _ h => h) (Or.inl ⟨by rfl, ?_⟩) ?_ ?_
               rotate_left
               ·intro w'
                go_simp
                with_reducible rfl
               rotate_left
               ·simp only [Act.put, List.setIfInBounds_toArray, List.set_cons_zero, List.set_cons_succ, i64_w, i32_w]
                rfl
               refine take_ (i := 29) (N := some 133) (v := ?_) (a' := ?_) #[true, true, true, true, true, true, true, true, true, true, true, true, true, true, true, true, true, true, true, true, true, true, true, true, true, true, true, true, true, true, false, true, true, true, true, false, false, false, false, false] rfl rfl (take_ofW HT_.out HW_.out (by kernel_rfl)) (fun _ _ _ h => h) (Or.inl ⟨by rfl, ?_⟩) hHeld ?_ ?_
               rotate_left
               ·rintro w' ⟨s0, s1, s2, s3, s4, s5, s6, s7, s8, s9, s10, s11, s12, s13, s14, s15, s16, s17⟩
                go_simp
                with_reducible rfl
               rotate_left
               ·simp only [Act.put, List.setIfInBounds_toArray, List.set_cons_zero, List.set_cons_succ, i64_w, i32_w]
                rfl
               refine pure_ (i := 30) (N := some 134) (v := ?_) (a' := ?_) #[true, true, true, true, true, true, true, true, true, true, true, true, true, true, true, true, true, true, true, true, true, true, true, true, true, true, true, true, true, true, true, true, true, true, true, false, false, false, false, false] rfl rfl (any_of HT_.out (by kernel_rfl)) (fun _ _ _ h => h) (Or.inl ⟨by rfl, ?_⟩) ?_ ?_
               rotate_left
               ·intro w'
                go_simp
                with_reducible rfl
               rotate_left
               ·simp only [Act.put, List.setIfInBounds_toArray, List.set_cons_zero, List.set_cons_succ, i64_w, i32_w]
                rfl
               refine take_ (i := 35) (N := some 139) (v := ?_) (a' := ?_) #[true, true, true, true, true, true, true, true, true, true, true, true, true, true, true, true, true, true, true, true, true, true, true, true, true, true, true, true, true, true, true, true, true, true, true, true, false, false, false, false] rfl rfl (take_ofW HT_.out HW_.out (by kernel_rfl)) (fun _ _ _ h => h) (Or.inl ⟨by rfl, ?_⟩) hHeld ?_ ?_
               rotate_left
               ·rintro w' ⟨s0, s1, s2, s3, s4, s5, s6, s7, s8, s9, s10, s11, s12, s13, s14, s15, s16, s17⟩
                go_simp
                with_reducible rfl
               rotate_left
               ·simp only [Act.put, List.setIfInBounds_toArray, List.set_cons_zero, List.set_cons_succ, i64_w, i32_w]
                rfl
               refine pure_ (i := 36) (N := some 140) (v := ?_) (a' := ?_) #[true, true, true, true, true, true, true, true, true, true, true, true, true, true, true, true, true, true, true, true, true, true, true, true, true, true, true, true, true, true, true, true, true, true, true, true, true, false, false, false] rfl rfl (any_of HT_.out (by kernel_rfl)) (fun _ _ _ h => h) (Or.inl ⟨by rfl, ?_⟩) ?_ ?_
               rotate_left
               ·intro w'
                go_simp
                with_reducible rfl
               rotate_left
               ·simp only [Act.put, List.setIfInBounds_toArray, List.set_cons_zero, List.set_cons_succ, i64_w, i32_w]
                rfl
               refine pure_ (i := 37) (N := some 141) (v := ?_) (a' := ?_) #[true, true, true, true, true, true, true, true, true, true, true, true, true, true, true, true, true, true, true, true, true, true, true, true, true, true, true, true, true, true, true, true, true, true, true, true, true, true, false, false] rfl rfl (any_of HT_.out (by kernel_rfl)) (fun _ _ _ h => h) (Or.inl ⟨by rfl, ?_⟩) ?_ ?_
               rotate_left
               ·intro w'
                go_simp
                with_reducible rfl
               rotate_left
               ·simp only [Act.put, List.setIfInBounds_toArray, List.set_cons_zero, List.set_cons_succ, i64_w, i32_w]
                rfl
               refine pure_ (i := 38) (N := some 142) (v := ?_) (a' := ?_) #[true, true, true, true, true, true, true, true, true, true, true, true, true, true, true, true, true, true, true, true, true, true, true, true, true, true, true, true, true, true, true, true, true, true, true, true, true, true, true, false] rfl rfl (any_of HT_.out (by kernel_rfl)) (fun _ _ _ h => h) (Or.inl ⟨by rfl, ?_⟩) ?_ ?_
               rotate_left
               ·intro w'
                go_simp
                with_reducible rfl
               rotate_left
               ·simp only [Act.put, List.setIfInBounds_toArray, List.set_cons_zero, List.set_cons_succ, i64_w, i32_w]
                rfl
               refine pure_ (i := 39) (N := some 14) (v := ?_) (a' := ?_) #[true, true, true, true, true, true, true, true, true, true, true, true, true, true, true, true, true, true, true, true, true, true, true, true, true, true, true, true, true, true, true, true, true, true, true, true, true, true, true, true] rfl rfl (any_of HT_.out (by kernel_rfl)) (fun _ _ _ h => h) (Or.inl ⟨by rfl, ?_⟩) ?_ ?_
               rotate_left
               ·intro w'
                go_simp
                with_reducible rfl
               rotate_left
               ·simp only [Act.put, List.setIfInBounds_toArray, List.set_cons_zero, List.set_cons_succ, i64_w, i32_w]
                rfl
               refine done_ (done_of HT_.out (by kernel_rfl)) ?_
               try go_wp2
               go_meet
               case rel => exact ⟨_, (((((rd_T43 l0 t146).f1).length : Int) == (((rd_T43 l0 t147).f1).length : Int))), (by first | rfl | (simp; done) | (simp [*]; done)), H', ⟨by have := HJ4.out; have := HJ23.out; first | omega | exact Nat.le_refl _⟩, ⟨by repeat (first | (with_reducible first | exact HB.out | apply below_alloc | apply pw_below_drewN | apply below_drew1) | exact HB.out)⟩⟩
              ·rw [if_neg c56] at H
               have c56b0 : (((rd_T43 l0 t146).f2) == ((rd_T43 l0 t147).f2)) = false := by simpa using c56
               (try (have c56b1 : decide (((rd_T43 l0 t146).f2) = ((rd_T43 l0 t147).f2)) = false := by simpa using c56))
               (try (have c56b2 : (((rd_T43 l0 t146).f2) == ((rd_T43 l0 t147).f2)) = false := by simpa using c56))
               (try (have c56b3 : ¬ (((rd_T43 l0 t146).f2) = ((rd_T43 l0 t147).f2)) := by simpa using c56))
               clear c56
               have H' := Aside0.mk H
               clear H
               try go_wp2
               have n0_ := Aside0.mk (below_drew1 HB.out)
               clear HB
               have HB := n0_
               clear n0_
               have p156 : 0 ≤ (t146 : Int) := of_decide_eq_true (by first | (with_reducible assumption) | assumption)
               have q156 : t146 < (l0.length : Int) := of_decide_eq_true (by first | (with_reducible assumption) | assumption)
               obtain ⟨ad156, A156_1, c156_1, e156, hx156_0, hx156_1, hx156_2, hl156_1, hi156_1⟩ := at_T43 HR0.out t146 p156 q156
               have hw156_2 := hx156_2
               have hw156_1 := hx156_1
               have hw156_0 := hx156_0
               cases e156
               replace hx156_0 := (HB.out.cell (World.block_lt_of_cell? w _ hx156_0)).trans hx156_0
               replace hx156_1 := (HB.out.cell (World.block_lt_of_cell? w _ hx156_1)).trans hx156_1
               replace hx156_2 := (HB.out.cell (World.block_lt_of_cell? w _ hx156_2)).trans hx156_2
               have HR156_1 := Aside0.mk hi156_1
               have HC156_1 := Aside0.mk hl156_1
               clear hi156_1 hl156_1
               replace p156 := eq_true p156
               replace q156 := eq_true q156
               have p157 : 0 ≤ (t147 : Int) := of_decide_eq_true (by first | (with_reducible assumption) | assumption)
               have q157 : t147 < (l0.length : Int) := of_decide_eq_true (by first | (with_reducible assumption) | assumption)
               obtain ⟨ad157, A157_1, c157_1, e157, hx157_0, hx157_1, hx157_2, hl157_1, hi157_1⟩ := at_T43 HR0.out t147 p157 q157
               have hw157_2 := hx157_2
               have hw157_1 := hx157_1
               have hw157_0 := hx157_0
               obtain rfl : ad156 = ad157 := (by injection e157)
               replace hx157_0 := (HB.out.cell (World.block_lt_of_cell? w _ hx157_0)).trans hx157_0
               replace hx157_1 := (HB.out.cell (World.block_lt_of_cell? w _ hx157_1)).trans hx157_1
               replace hx157_2 := (HB.out.cell (World.block_lt_of_cell? w _ hx157_2)).trans hx157_2
               have HR157_1 := Aside0.mk hi157_1
               have HC157_1 := Aside0.mk hl157_1
               clear hi157_1 hl157_1
               replace p157 := eq_true p157
               replace q157 := eq_true q157
               have p158 : 0 ≤ (t146 : Int) := of_decide_eq_true (by first | (with_reducible assumption) | assumption)
               have q158 : t146 < (l0.length : Int) := of_decide_eq_true (by first | (with_reducible assumption) | assumption)
               obtain ⟨ad158, A158_1, c158_1, e158, hx158_0, hx158_1, hx158_2, hl158_1, hi158_1⟩ := at_T43 HR0.out t146 p158 q158
               have hw158_2 := hx158_2
               have hw158_1 := hx158_1
               have hw158_0 := hx158_0
               obtain rfl : ad156 = ad158 := (by injection e158)
               replace hx158_0 := (HB.out.cell (World.block_lt_of_cell? w _ hx158_0)).trans hx158_0
               replace hx158_1 := (HB.out.cell (World.block_lt_of_cell? w _ hx158_1)).trans hx158_1
               replace hx158_2 := (HB.out.cell (World.block_lt_of_cell? w _ hx158_2)).trans hx158_2
               have HR158_1 := Aside0.mk hi158_1
               have HC158_1 := Aside0.mk hl158_1
               clear hi158_1 hl158_1
               replace p158 := eq_true p158
               replace q158 := eq_true q158
               have ea_ := Option.some.inj (hx156_1.symm.trans hx158_1)
               injection ea_ with ea_ en_ ec_
               subst ea_
               subst ec_
               clear en_
               have p159 : 0 ≤ (t147 : Int) := of_decide_eq_true (by first | (with_reducible assumption) | assumption)
               have q159 : t147 < (l0.length : Int) := of_decide_eq_true (by first | (with_reducible assumption) | assumption)
               obtain ⟨ad159, A159_1, c159_1, e159, hx159_0, hx159_1, hx159_2, hl159_1, hi159_1⟩ := at_T43 HR0.out t147 p159 q159
               have hw159_2 := hx159_2
               have hw159_1 := hx159_1
               have hw159_0 := hx159_0
               obtain rfl : ad156 = ad159 := (by injection e159)
               replace hx159_0 := (HB.out.cell (World.block_lt_of_cell? w _ hx159_0)).trans hx159_0
               replace hx159_1 := (HB.out.cell (World.block_lt_of_cell? w _ hx159_1)).trans hx159_1
               replace hx159_2 := (HB.out.cell (World.block_lt_of_cell? w _ hx159_2)).trans hx159_2
               have HR159_1 := Aside0.mk hi159_1
               have HC159_1 := Aside0.mk hl159_1
               clear hi159_1 hl159_1
               replace p159 := eq_true p159
               replace q159 := eq_true q159
               have ea_ := Option.some.inj (hx157_1.symm.trans hx159_1)
               injection ea_ with ea_ en_ ec_
               subst ea_
               subst ec_
               clear en_
               refine start_ (n := 40) (S := fun w' => w'.cell? (ad156.add ((t146).toNat * 3)) = some (.int .i64 ((rd_T43 l0 t146).f0)) ∧ w'.cell? ⟨(ad156.add ((t146).toNat * 3)).block, (ad156.add ((t146).toNat * 3)).off + 1, none⟩ = some (.slice A156_1 ((rd_T43 l0 t146).f1).length c156_1) ∧ w'.cell? ⟨(ad156.add ((t146).toNat * 3)).block, (ad156.add ((t146).toNat * 3)).off + 2, none⟩ = some (.bool ((rd_T43 l0 t146).f2)) ∧ w'.cell? (ad156.add ((t147).toNat * 3)) = some (.int .i64 ((rd_T43 l0 t147).f0)) ∧ w'.cell? ⟨(ad156.add ((t147).toNat * 3)).block, (ad156.add ((t147).toNat * 3)).off + 1, none⟩ = some (.slice A157_1 ((rd_T43 l0 t147).f1).length c157_1) ∧ w'.cell? ⟨(ad156.add ((t147).toNat * 3)).block, (ad156.add ((t147).toNat * 3)).off + 2, none⟩ = some (.bool ((rd_T43 l0 t147).f2)) ∧ w'.cell? (ad156.add ((t146).toNat * 3)) = some (.int .i64 ((rd_T43 l0 t146).f0)) ∧ w'.cell? ⟨(ad156.add ((t146).toNat * 3)).block, (ad156.add ((t146).toNat * 3)).off + 1, none⟩ = some (.slice A156_1 ((rd_T43 l0 t146).f1).length c156_1) ∧ w'.cell? ⟨(ad156.add ((t146).toNat * 3)).block, (ad156.add ((t146).toNat * 3)).off + 2, none⟩ = some (.bool ((rd_T43 l0 t146).f2)) ∧ w'.cell? (ad156.add ((t147).toNat * 3)) = some (.int .i64 ((rd_T43 l0 t147).f0)) ∧ w'.cell? ⟨(ad156.add ((t147).toNat * 3)).block, (ad156.add ((t147).toNat * 3)).off + 1, none⟩ = some (.slice A157_1 ((rd_T43 l0 t147).f1).length c157_1) ∧ w'.cell? ⟨(ad156.add ((t147).toNat * 3)).block, (ad156.add ((t147).toNat * 3)).off + 2, none⟩ = some (.bool ((rd_T43 l0 t147).f2))) (ds := []) #[false, false, false, false, false, false, false, false, false, false, false, false, false, false, false, false, false, false, false, false, false, false, false, false, false, false, false, false, false, false, false, false, false, false, false, false, false, false, false, false] (by kernel_rfl) rfl rfl ⟨((HB.out.cell (World.block_lt_of_cell? w _ hw156_0)).trans hw156_0), ((HB.out.cell (World.block_lt_of_cell? w _ hw156_1)).trans hw156_1), ((HB.out.cell (World.block_lt_of_cell? w _ hw156_2)).trans hw156_2), ((HB.out.cell (World.block_lt_of_cell? w _ hw157_0)).trans hw157_0), ((HB.out.cell (World.block_lt_of_cell? w _ hw157_1)).trans hw157_1), ((HB.out.cell (World.block_lt_of_cell? w _ hw157_2)).trans hw157_2), ((HB.out.cell (World.block_lt_of_cell? w _ hw158_0)).trans hw158_0), ((HB.out.cell (World.block_lt_of_cell? w _ hw158_1)).trans hw158_1), ((HB.out.cell (World.block_lt_of_cell? w _ hw158_2)).trans hw158_2), ((HB.out.cell (World.block_lt_of_cell? w _ hw159_0)).trans hw159_0), ((HB.out.cell (World.block_lt_of_cell? w _ hw159_1)).trans hw159_1), ((HB.out.cell (World.block_lt_of_cell? w _ hw159_2)).trans hw159_2)⟩ (fun hHeld => ?_); refine with_tabW squintlaw04_KindsLaws.tab15 squintlaw04_KindsLaws.bits15 (fun HT_ HW_ => ?_)
               generalize wc.drew = w58 at HB HR156_1 HR157_1 HR158_1 HR159_1 hx156_0 hx156_1 hx156_2 hx157_0 hx157_1 hx157_2 hx158_0 hx158_1 hx158_2 hx159_0 hx159_1 hx159_2 hHeld ⊢
               refine pure_ (i := 0) (N := some 104) (v := ?_) (a' := ?_) #[true, false, false, false, false, false, false, false, false, false, false, false, false, false, false, false, false, false, false, false, false, false, false, false, false, false, false, false, false, false, false, false, false, false, false, false, false, false, false, false] rfl rfl (any_of HT_.out (by kernel_rfl)) (fun _ _ _ h => h) (Or.inl ⟨by rfl, ?_⟩) ?_ ?_
               rotate_left
               ·intro w'
                go_simp
                with_reducible rfl
               rotate_left
               ·simp only [Act.put, List.setIfInBounds_toArray, List.set_cons_zero, List.set_cons_succ, i64_w, i32_w]
                rfl
               refine pure_ (i := 1) (N := some 105) (v := ?_) (a' := ?_) #[true, true, false, false, false, false, false, false, false, false, false, false, false, false, false, false, false, false, false, false, false, false, false, false, false, false, false, false, false, false, false, false, false, false, false, false, false, false, false, false] rfl rfl (any_of HT_.out (by kernel_rfl)) (fun _ _ _ h => h) (Or.inl ⟨by rfl, ?_⟩) ?_ ?_
               rotate_left
               ·intro w'
                go_simp
                with_reducible rfl
               rotate_left
               ·simp only [Act.put, List.setIfInBounds_toArray, List.set_cons_zero, List.set_cons_succ, i64_w, i32_w]
                rfl
               refine pure_ (i := 2) (N := some 106) (v := ?_) (a' := ?_) #[true, true, true, false, false, false, false, false, false, false, false, false, false, false, false, false, false, false, false, false, false, false, false, false, false, false, false, false, false, false, false, false, false, false, false, false, false, false, false, false] rfl rfl (any_of HT_.out (by kernel_rfl)) (fun _ _ _ h => h) (Or.inl ⟨by rfl, ?_⟩) ?_ ?_
               rotate_left
               ·intro w'
                go_simp
                with_reducible rfl
               rotate_left
               ·simp only [Act.put, List.setIfInBounds_toArray, List.set_cons_zero, List.set_cons_succ, i64_w, i32_w]
                rfl
               refine pure_ (i := 3) (N := some 107) (v := ?_) (a' := ?_) #[true, true, true, true, false, false, false, false, false, false, false, false, false, false, false, false, false, false, false, false, false, false, false, false, false, false, false, false, false, false, false, false, false, false, false, false, false, false, false, false] rfl rfl (any_of HT_.out (by kernel_rfl)) (fun _ _ _ h => h) (Or.inl ⟨by rfl, ?_⟩) ?_ ?_
               rotate_left
               ·intro w'
                go_simp
                with_reducible rfl
               rotate_left
               ·simp only [Act.put, List.setIfInBounds_toArray, List.set_cons_zero, List.set_cons_succ, i64_w, i32_w]
                rfl
               refine pure_ (i := 5) (N := some 109) (v := ?_) (a' := ?_) #[true, true, true, true, false, true, false, false, false, false, false, false, false, false, false, false, false, false, false, false, false, false, false, false, false, false, false, false, false, false, false, false, false, false, false, false, false, false, false, false] rfl rfl (any_of HT_.out (by kernel_rfl)) (fun _ _ _ h => h) (Or.inl ⟨by rfl, ?_⟩) ?_ ?_
               rotate_left
               ·intro w'
                go_simp
                with_reducible rfl
               rotate_left
               ·simp only [Act.put, List.setIfInBounds_toArray, List.set_cons_zero, List.set_cons_succ, i64_w, i32_w]
                rfl
               refine pure_ (i := 6) (N := some 110) (v := ?_) (a' := ?_) #[true, true, true, true, false, true, true, false, false, false, false, false, false, false, false, false, false, false, false, false, false, false, false, false, false, false, false, false, false, false, false, false, false, false, false, false, false, false, false, false] rfl rfl (any_of HT_.out (by kernel_rfl)) (fun _ _ _ h => h) (Or.inl ⟨by rfl, ?_⟩) ?_ ?_
               rotate_left
               ·intro w'
                go_simp
                with_reducible rfl
               rotate_left
               ·simp only [Act.put, List.setIfInBounds_toArray, List.set_cons_zero, List.set_cons_succ, i64_w, i32_w]
                rfl
               refine pure_ (i := 7) (N := some 111) (v := ?_) (a' := ?_) #[true, true, true, true, false, true, true, true, false, false, false, false, false, false, false, false, false, false, false, false, false, false, false, false, false, false, false, false, false, false, false, false, false, false, false, false, false, false, false, false] rfl rfl (any_of HT_.out (by kernel_rfl)) (fun _ _ _ h => h) (Or.inl ⟨by rfl, ?_⟩) ?_ ?_
               rotate_left
               ·intro w'
                go_simp
                with_reducible rfl
               rotate_left
               ·simp only [Act.put, List.setIfInBounds_toArray, List.set_cons_zero, List.set_cons_succ, i64_w, i32_w]
                rfl
               refine pure_ (i := 8) (N := some 112) (v := ?_) (a' := ?_) #[true, true, true, true, false, true, true, true, true, false, false, false, false, false, false, false, false, false, false, false, false, false, false, false, false, false, false, false, false, false, false, false, false, false, false, false, false, false, false, false] rfl rfl (any_of HT_.out (by kernel_rfl)) (fun _ _ _ h => h) (Or.inl ⟨by rfl, ?_⟩) ?_ ?_
               rotate_left
               ·intro w'
                go_simp
                with_reducible rfl
               rotate_left
               ·simp only [Act.put, List.setIfInBounds_toArray, List.set_cons_zero, List.set_cons_succ, i64_w, i32_w]
                rfl
               refine take_ (i := 4) (N := some 108) (v := ?_) (a' := ?_) #[true, true, true, true, true, true, true, true, true, false, false, false, false, false, false, false, false, false, false, false, false, false, false, false, false, false, false, false, false, false, false, false, false, false, false, false, false, false, false, false] rfl rfl (take_ofW HT_.out HW_.out (by kernel_rfl)) (fun _ _ _ h => h) (Or.inl ⟨by rfl, ?_⟩) hHeld ?_ ?_
               rotate_left
               ·rintro w' ⟨s0, s1, s2, s3, s4, s5, s6, s7, s8, s9, s10, s11⟩
                go_simp
                with_reducible rfl
               rotate_left
               ·simp only [Act.put, List.setIfInBounds_toArray, List.set_cons_zero, List.set_cons_succ, i64_w, i32_w]
                rfl
               refine take_ (i := 9) (N := some 113) (v := ?_) (a' := ?_) #[true, true, true, true, true, true, true, true, true, true, false, false, false, false, false, false, false, false, false, false, false, false, false, false, false, false, false, false, false, false, false, false, false, false, false, false, false, false, false, false] rfl rfl (take_ofW HT_.out HW_.out (by kernel_rfl)) (fun _ _ _ h => h) (Or.inl ⟨by rfl, ?_⟩) hHeld ?_ ?_
               rotate_left
               ·rintro w' ⟨s0, s1, s2, s3, s4, s5, s6, s7, s8, s9, s10, s11⟩
                go_simp
                with_reducible rfl
               rotate_left
               ·simp only [Act.put, List.setIfInBounds_toArray, List.set_cons_zero, List.set_cons_succ, i64_w, i32_w]
                rfl
               refine pure_ (i := 10) (N := some 114) (v := ?_) (a' := ?_) #[true, true, true, true, true, true, true, true, true, true, true, false, false, false, false, false, false, false, false, false, false, false, false, false, false, false, false, false, false, false, false, false, false, false, false, false, false, false, false, false] rfl rfl (any_of HT_.out (by kernel_rfl)) (fun _ _ _ h => h) (Or.inl ⟨by rfl, ?_⟩) ?_ ?_
               rotate_left
               ·intro w'
                go_simp
                with_reducible rfl
               rotate_left
               ·simp only [Act.put, List.setIfInBounds_toArray, List.set_cons_zero, List.set_cons_succ, i64_w, i32_w]
                rfl
               refine pure_ (i := 11) (N := some 115) (v := ?_) (a' := ?_) #[true, true, true, true, true, true, true, true, true, true, true, true, false, false, false, false, false, false, false, false, false, false, false, false, false, false, false, false, false, false, false, false, false, false, false, false, false, false, false, false] rfl rfl (any_of HT_.out (by kernel_rfl)) (fun _ _ _ h => h) (Or.inl ⟨by rfl, ?_⟩) ?_ ?_
               rotate_left
               ·intro w'
                go_simp
                with_reducible rfl
               rotate_left
               ·simp only [Act.put, List.setIfInBounds_toArray, List.set_cons_zero, List.set_cons_succ, i64_w, i32_w]
                rfl
               refine pure_ (i := 12) (N := some 116) (v := ?_) (a' := ?_) #[true, true, true, true, true, true, true, true, true, true, true, true, true, false, false, false, false, false, false, false, false, false, false, false, false, false, false, false, false, false, false, false, false, false, false, false, false, false, false, false] rfl rfl (any_of HT_.out (by kernel_rfl)) (fun _ _ _ h => h) (Or.inl ⟨by rfl, ?_⟩) ?_ ?_
               rotate_left
               ·intro w'
                go_simp
                with_reducible rfl
               rotate_left
               ·simp only [Act.put, List.setIfInBounds_toArray, List.set_cons_zero, List.set_cons_succ, i64_w, i32_w]
                rfl
               refine pure_ (i := 13) (N := some 117) (v := ?_) (a' := ?_) #[true, true, true, true, true, true, true, true, true, true, true, true, true, true, false, false, false, false, false, false, false, false, false, false, false, false, false, false, false, false, false, false, false, false, false, false, false, false, false, false] rfl rfl (any_of HT_.out (by kernel_rfl)) (fun _ _ _ h => h) (Or.inl ⟨by rfl, ?_⟩) ?_ ?_
               rotate_left
               ·intro w'
                go_simp
                with_reducible rfl
               rotate_left
               ·simp only [Act.put, List.setIfInBounds_toArray, List.set_cons_zero, List.set_cons_succ, i64_w, i32_w]
                rfl
               refine pure_ (i := 14) (N := some 118) (v := ?_) (a' := ?_) #[true, true, true, true, true, true, true, true, true, true, true, true, true, true, true, false, false, false, false, false, false, false, false, false, false, false, false, false, false, false, false, false, false, false, false, false, false, false, false, false] rfl rfl (any_of HT_.out (by kernel_rfl)) (fun _ _ _ h => h) (Or.inl ⟨by rfl, ?_⟩) ?_ ?_
               rotate_left
               ·intro w'
                go_simp
                with_reducible rfl
               rotate_left
               ·simp only [Act.put, List.setIfInBounds_toArray, List.set_cons_zero, List.set_cons_succ, i64_w, i32_w]
                rfl
               refine pure_ (i := 15) (N := some 119) (v := ?_) (a' := ?_) #[true, true, true, true, true, true, true, true, true, true, true, true, true, true, true, true, false, false, false, false, false, false, false, false, false, false, false, false, false, false, false, false, false, false, false, false, false, false, false, false] rfl rfl (any_of HT_.out (by kernel_rfl)) (fun _ _ _ h => h) (Or.inl ⟨by rfl, ?_⟩) ?_ ?_
               rotate_left
               ·intro w'
                go_simp
                with_reducible rfl
               rotate_left
               ·simp only [Act.put, List.setIfInBounds_toArray, List.set_cons_zero, List.set_cons_succ, i64_w, i32_w]
                rfl
               refine pure_ (i := 17) (N := some 121) (v := ?_) (a' := ?_) #[true, true, true, true, true, true, true, true, true, true, true, true, true, true, true, true, false, true, false, false, false, false, false, false, false, false, false, false, false, false, false, false, false, false, false, false, false, false, false, false] rfl rfl (any_of HT_.out (by kernel_rfl)) (fun _ _ _ h => h) (Or.inl ⟨by rfl, ?_⟩) ?_ ?_
               rotate_left
               ·intro w'
                go_simp
                with_reducible rfl
               rotate_left
               ·simp only [Act.put, List.setIfInBounds_toArray, List.set_cons_zero, List.set_cons_succ, i64_w, i32_w]
                rfl
               refine pure_ (i := 18) (N := some 122) (v := ?_) (a' := ?_) #[true, true, true, true, true, true, true, true, true, true, true, true, true, true, true, true, false, true, true, false, false, false, false, false, false, false, false, false, false, false, false, false, false, false, false, false, false, false, false, false] rfl rfl (any_of HT_.out (by kernel_rfl)) (fun _ _ _ h => h) (Or.inl ⟨by rfl, ?_⟩) ?_ ?_
               rotate_left
               ·intro w'
                go_simp
                with_reducible rfl
               rotate_left
               ·simp only [Act.put, List.setIfInBounds_toArray, List.set_cons_zero, List.set_cons_succ, i64_w, i32_w]
                rfl
               refine pure_ (i := 19) (N := some 123) (v := ?_) (a' := ?_) #[true, true, true, true, true, true, true, true, true, true, true, true, true, true, true, true, false, true, true, true, false, false, false, false, false, false, false, false, false, false, false, false, false, false, false, false, false, false, false, false] rfl rfl (any_of HT_.out (by kernel_rfl)) (fun _ _ _ h => h) (Or.inl ⟨by rfl, ?_⟩) ?_ ?_
               rotate_left
               ·intro w'
                go_simp
                with_reducible rfl
               rotate_left
               ·simp only [Act.put, List.setIfInBounds_toArray, List.set_cons_zero, List.set_cons_succ, i64_w, i32_w]
                rfl
               refine pure_ (i := 20) (N := some 124) (v := ?_) (a' := ?_) #[true, true, true, true, true, true, true, true, true, true, true, true, true, true, true, true, false, true, true, true, true, false, false, false, false, false, false, false, false, false, false, false, false, false, false, false, false, false, false, false] rfl rfl (any_of HT_.out (by kernel_rfl)) (fun _ _ _ h => h) (Or.inl ⟨by rfl, ?_⟩) ?_ ?_
               rotate_left
               ·intro w'
                go_simp
                with_reducible rfl
               rotate_left
               ·simp only [Act.put, List.setIfInBounds_toArray, List.set_cons_zero, List.set_cons_succ, i64_w, i32_w]
                rfl
               refine take_ (i := 16) (N := some 120) (v := ?_) (a' := ?_) #[true, true, true, true, true, true, true, true, true, true, true, true, true, true, true, true, true, true, true, true, true, false, false, false, false, false, false, false, false, false, false, false, false, false, false, false, false, false, false, false] rfl rfl (take_ofW HT_.out HW_.out (by kernel_rfl)) (fun _ _ _ h => h) (Or.inl ⟨by rfl, ?_⟩) hHeld ?_ ?_
               rotate_left
               ·rintro w' ⟨s0, s1, s2, s3, s4, s5, s6, s7, s8, s9, s10, s11⟩
                go_simp
                with_reducible rfl
               rotate_left
               ·simp only [Act.put, List.setIfInBounds_toArray, List.set_cons_zero, List.set_cons_succ, i64_w, i32_w]
                rfl
               refine take_ (i := 21) (N := some 125) (v := ?_) (a' := ?_) #[true, true, true, true, true, true, true, true, true, true, true, true, true, true, true, true, true, true, true, true, true, true, false, false, false, false, false, false, false, false, false, false, false, false, false, false, false, false, false, false] rfl rfl (take_ofW HT_.out HW_.out (by kernel_rfl)) (fun _ _ _ h => h) (Or.inl ⟨by rfl, ?_⟩) hHeld ?_ ?_
               rotate_left
               ·rintro w' ⟨s0, s1, s2, s3, s4, s5, s6, s7, s8, s9, s10, s11⟩
                go_simp
                with_reducible rfl
               rotate_left
               ·simp only [Act.put, List.setIfInBounds_toArray, List.set_cons_zero, List.set_cons_succ, i64_w, i32_w]
                rfl
               refine pure_ (i := 22) (N := some 126) (v := ?_) (a' := ?_) #[true, true, true, true, true, true, true, true, true, true, true, true, true, true, true, true, true, true, true, true, true, true, true, false, false, false, false, false, false, false, false, false, false, false, false, false, false, false, false, false] rfl rfl (any_of HT_.out (by kernel_rfl)) (fun _ _ _ h => h) (Or.inl ⟨by rfl, ?_⟩) ?_ ?_
               rotate_left
               ·intro w'
                go_simp
                with_reducible rfl
               rotate_left
               ·simp only [Act.put, List.setIfInBounds_toArray, List.set_cons_zero, List.set_cons_succ, i64_w, i32_w]
                rfl
               refine pure_ (i := 23) (N := some 127) (v := ?_) (a' := ?_) #[true, true, true, true, true, true, true, true, true, true, true, true, true, true, true, true, true, true, true, true, true, true, true, true, false, false, false, false, false, false, false, false, false, false, false, false, false, false, false, false] rfl rfl (any_of HT_.out (by kernel_rfl)) (fun _ _ _ h => h) (Or.inl ⟨by rfl, ?_⟩) ?_ ?_
               rotate_left
               ·intro w'
                go_simp
                with_reducible rfl
               rotate_left
               ·simp only [Act.put, List.setIfInBounds_toArray, List.set_cons_zero, List.set_cons_succ, i64_w, i32_w]
                rfl
               refine pure_ (i := 24) (N := some 128) (v := ?_) (a' := ?_) #[true, true, true, true, true, true, true, true, true, true, true, true, true, true, true, true, true, true, true, true, true, true, true, true, true, false, false, false, false, false, false, false, false, false, false, false, false, false, false, false] rfl rfl (any_of HT_.out (by kernel_rfl)) (fun _ _ _ h => h) (Or.inl ⟨by rfl, ?_⟩) ?_ ?_
               rotate_left
               ·intro w'
                go_simp
                with_reducible rfl
               rotate_left
               ·simp only [Act.put, List.setIfInBounds_toArray, List.set_cons_zero, List.set_cons_succ, i64_w, i32_w]
                rfl
               refine pure_ (i := 25) (N := some 129) (v := undef) (a' := ?_) #[true, true, true, true, true, true, true, true, true, true, true, true, true, true, true, true, true, true, true, true, true, true, true, true, true, true, false, false, false, false, false, false, false, false, false, false, false, false, false, false] rfl rfl (any_of HT_.out (by kernel_rfl)) (fun _ _ _ h => h) (Or.inr ⟨by rfl, rfl⟩) ?_ ?_
               rotate_left
               ·simp only [Act.put, List.setIfInBounds_toArray, List.set_cons_zero, List.set_cons_succ, i64_w, i32_w]
                rfl
               refine pure_ (i := 26) (N := some 130) (v := undef) (a' := ?_) #[true, true, true, true, true, true, true, true, true, true, true, true, true, true, true, true, true, true, true, true, true, true, true, true, true, true, true, false, false, false, false, false, false, false, false, false, false, false, false, false] rfl rfl (any_of HT_.out (by kernel_rfl)) (fun _ _ _ h => h) (Or.inr ⟨by rfl, rfl⟩) ?_ ?_
               rotate_left
               ·simp only [Act.put, List.setIfInBounds_toArray, List.set_cons_zero, List.set_cons_succ, i64_w, i32_w]
                rfl
               refine pure_ (i := 27) (N := some 131) (v := undef) (a' := ?_) #[true, true, true, true, true, true, true, true, true, true, true, true, true, true, true, true, true, true, true, true, true, true, true, true, true, true, true, true, false, false, false, false, false, false, false, false, false, false, false, false] rfl rfl (any_of HT_.out (by kernel_rfl)) (fun _ _ _ h => h) (Or.inr ⟨by rfl, rfl⟩) ?_ ?_
               rotate_left
               ·simp only [Act.put, List.setIfInBounds_toArray, List.set_cons_zero, List.set_cons_succ, i64_w, i32_w]
                rfl
               refine pure_ (i := 28) (N := some 132) (v := undef) (a' := ?_) #[true, true, true, true, true, true, true, true, true, true, true, true, true, true, true, true, true, true, true, true, true, true, true, true, true, true, true, true, true, false, false, false, false, false, false, false, false, false, false, false] rfl rfl (any_of HT_.out (by kernel_rfl)) (fun _ _ _ h => h) (Or.inr ⟨by rfl, rfl⟩) ?_ ?_
               rotate_left
               ·simp only [Act.put, List.setIfInBounds_toArray, List.set_cons_zero, List.set_cons_succ, i64_w, i32_w]
                rfl
               refine pure_ (i := 29) (N := some 133) (v := undef) (a' := ?_) #[true, true, true, true, true, true, true, true, true, true, true, true, true, true, true, true, true, true, true, true, true, true, true, true, true, true, true, true, true, true, false, false, false, false, false, false, false, false, false, false] rfl rfl (any_of HT_.out (by kernel_rfl)) (fun _ _ _ h => h) (Or.inr ⟨by rfl, rfl⟩) ?_ ?_
               rotate_left
               ·simp only [Act.put, List.setIfInBounds_toArray, List.set_cons_zero, List.set_cons_succ, i64_w, i32_w]
                rfl
               refine pure_ (i := 30) (N := some 134) (v := undef) (a' := ?_) #[true, true, true, true, true, true, true, true, true, true, true, true, true, true, true, true, true, true, true, true, true, true, true, true, true, true, true, true, true, true, true, false, false, false, false, false, false, false, false, false] rfl rfl (any_of HT_.out (by kernel_rfl)) (fun _ _ _ h => h) (Or.inr ⟨by rfl, rfl⟩) ?_ ?_
               rotate_left
               ·simp only [Act.put, List.setIfInBounds_toArray, List.set_cons_zero, List.set_cons_succ, i64_w, i32_w]
                rfl
               refine pure_ (i := 31) (N := some 135) (v := undef) (a' := ?_) #[true, true, true, true, true, true, true, true, true, true, true, true, true, true, true, true, true, true, true, true, true, true, true, true, true, true, true, true, true, true, true, true, false, false, false, false, false, false, false, false] rfl rfl (any_of HT_.out (by kernel_rfl)) (fun _ _ _ h => h) (Or.inr ⟨by rfl, rfl⟩) ?_ ?_
               rotate_left
               ·simp only [Act.put, List.setIfInBounds_toArray, List.set_cons_zero, List.set_cons_succ, i64_w, i32_w]
                rfl
               refine pure_ (i := 32) (N := some 136) (v := undef) (a' := ?_) #[true, true, true, true, true, true, true, true, true, true, true, true, true, true, true, true, true, true, true, true, true, true, true, true, true, true, true, true, true, true, true, true, true, false, false, false, false, false, false, false] rfl rfl (any_of HT_.out (by kernel_rfl)) (fun _ _ _ h => h) (Or.inr ⟨by rfl, rfl⟩) ?_ ?_
               rotate_left
               ·simp only [Act.put, List.setIfInBounds_toArray, List.set_cons_zero, List.set_cons_succ, i64_w, i32_w]
                rfl
               refine pure_ (i := 33) (N := some 137) (v := undef) (a' := ?_) #[true, true, true, true, true, true, true, true, true, true, true, true, true, true, true, true, true, true, true, true, true, true, true, true, true, true, true, true, true, true, true, true, true, true, false, false, false, false, false, false] rfl rfl (any_of HT_.out (by kernel_rfl)) (fun _ _ _ h => h) (Or.inr ⟨by rfl, rfl⟩) ?_ ?_
               rotate_left
               ·simp only [Act.put, List.setIfInBounds_toArray, List.set_cons_zero, List.set_cons_succ, i64_w, i32_w]
                rfl
               refine pure_ (i := 34) (N := some 138) (v := undef) (a' := ?_) #[true, true, true, true, true, true, true, true, true, true, true, true, true, true, true, true, true, true, true, true, true, true, true, true, true, true, true, true, true, true, true, true, true, true, true, false, false, false, false, false] rfl rfl (any_of HT_.out (by kernel_rfl)) (fun _ _ _ h => h) (Or.inr ⟨by rfl, rfl⟩) ?_ ?_
               rotate_left
               ·simp only [Act.put, List.setIfInBounds_toArray, List.set_cons_zero, List.set_cons_succ, i64_w, i32_w]
                rfl
               refine pure_ (i := 35) (N := some 139) (v := undef) (a' := ?_) #[true, true, true, true, true, true, true, true, true, true, true, true, true, true, true, true, true, true, true, true, true, true, true, true, true, true, true, true, true, true, true, true, true, true, true, true, false, false, false, false] rfl rfl (any_of HT_.out (by kernel_rfl)) (fun _ _ _ h => h) (Or.inr ⟨by rfl, rfl⟩) ?_ ?_
               rotate_left
               ·simp only [Act.put, List.setIfInBounds_toArray, List.set_cons_zero, List.set_cons_succ, i64_w, i32_w]
                rfl
               refine pure_ (i := 36) (N := some 140) (v := undef) (a' := ?_) #[true, true, true, true, true, true, true, true, true, true, true, true, true, true, true, true, true, true, true, true, true, true, true, true, true, true, true, true, true, true, true, true, true, true, true, true, true, false, false, false] rfl rfl (any_of HT_.out (by kernel_rfl)) (fun _ _ _ h => h) (Or.inr ⟨by rfl, rfl⟩) ?_ ?_
               rotate_left
               ·simp only [Act.put, List.setIfInBounds_toArray, List.set_cons_zero, List.set_cons_succ, i64_w, i32_w]
                rfl
               refine pure_ (i := 37) (N := some 141) (v := undef) (a' := ?_) #[true, true, true, true, true, true, true, true, true, true, true, true, true, true, true, true, true, true, true, true, true, true, true, true, true, true, true, true, true, true, true, true, true, true, true, true, true, true, false, false] rfl rfl (any_of HT_.out (by kernel_rfl)) (fun _ _ _ h => h) (Or.inr ⟨by rfl, rfl⟩) ?_ ?_
               rotate_left
               ·simp only [Act.put, List.setIfInBounds_toArray, List.set_cons_zero, List.set_cons_succ, i64_w, i32_w]
                rfl
               refine pure_ (i := 38) (N := some 142) (v := ?_) (a' := ?_) #[true, true, true, true, true, true, true, true, true, true, true, true, true, true, true, true, true, true, true, true, true, true, true, true, true, true, true, true, true, true, true, true, true, true, true, true, true, true, true, false] rfl rfl (any_of HT_.out (by kernel_rfl)) (fun _ _ _ h => h) (Or.inl ⟨by rfl, ?_⟩) ?_ ?_
               rotate_left
               ·intro w'
                go_simp
                with_reducible rfl
               rotate_left
               ·simp only [Act.put, List.setIfInBounds_toArray, List.set_cons_zero, List.set_cons_succ, i64_w, i32_w]
                rfl
               refine pure_ (i := 39) (N := some 14) (v := ?_) (a' := ?_) #[true, true, true, true, true, true, true, true, true, true, true, true, true, true, true, true, true, true, true, true, true, true, true, true, true, true, true, true, true, true, true, true, true, true, true, true, true, true, true, true] rfl rfl (any_of HT_.out (by kernel_rfl)) (fun _ _ _ h => h) (Or.inl ⟨by rfl, ?_⟩) ?_ ?_
               rotate_left
               ·intro w'
                go_simp
                with_reducible rfl
               rotate_left
               ·simp only [Act.put, List.setIfInBounds_toArray, List.set_cons_zero, List.set_cons_succ, i64_w, i32_w]
                rfl
               refine done_ (done_of HT_.out (by kernel_rfl)) ?_
               try go_wp2
               go_meet
               case rel => exact ⟨_, (false), (by first | rfl | (simp; done) | (simp [*]; done)), H', ⟨by have := HJ4.out; have := HJ23.out; first | omega | exact Nat.le_refl _⟩, ⟨by repeat (first | (with_reducible first | exact HB.out | apply below_alloc | apply pw_below_drewN | apply below_drew1) | exact HB.out)⟩⟩
             ·rw [if_neg c55] at H
              have c55b0 : (((rd_T43 l0 t146).f0) == ((rd_T43 l0 t147).f0)) = false := beq_eq_false_iff_ne.mpr c55
              have c55b1 : (((rd_T43 l0 t146).f0) != ((rd_T43 l0 t147).f0)) = true := bne_iff_ne.mpr c55
              have H' := Aside0.mk H
              clear H
              try go_wp2
              have n0_ := Aside0.mk (below_drew1 HB.out)
              clear HB
              have HB := n0_
              clear n0_
              have p156 : 0 ≤ (t146 : Int) := of_decide_eq_true (by first | (with_reducible assumption) | assumption)
              have q156 : t146 < (l0.length : Int) := of_decide_eq_true (by first | (with_reducible assumption) | assumption)
              obtain ⟨ad156, A156_1, c156_1, e156, hx156_0, hx156_1, hx156_2, hl156_1, hi156_1⟩ := at_T43 HR0.out t146 p156 q156
              have hw156_2 := hx156_2
              have hw156_1 := hx156_1
              have hw156_0 := hx156_0
              cases e156
              replace hx156_0 := (HB.out.cell (World.block_lt_of_cell? w _ hx156_0)).trans hx156_0
              replace hx156_1 := (HB.out.cell (World.block_lt_of_cell? w _ hx156_1)).trans hx156_1
              replace hx156_2 := (HB.out.cell (World.block_lt_of_cell? w _ hx156_2)).trans hx156_2
              have HR156_1 := Aside0.mk hi156_1
              have HC156_1 := Aside0.mk hl156_1
              clear hi156_1 hl156_1
              replace p156 := eq_true p156
              replace q156 := eq_true q156
              have p157 : 0 ≤ (t147 : Int) := of_decide_eq_true (by first | (with_reducible assumption) | assumption)
              have q157 : t147 < (l0.length : Int) := of_decide_eq_true (by first | (with_reducible assumption) | assumption)
              obtain ⟨ad157, A157_1, c157_1, e157, hx157_0, hx157_1, hx157_2, hl157_1, hi157_1⟩ := at_T43 HR0.out t147 p157 q157
              have hw157_2 := hx157_2
              have hw157_1 := hx157_1
              have hw157_0 := hx157_0
              obtain rfl : ad156 = ad157 := (by injection e157)
              replace hx157_0 := (HB.out.cell (World.block_lt_of_cell? w _ hx157_0)).trans hx157_0
              replace hx157_1 := (HB.out.cell (World.block_lt_of_cell? w _ hx157_1)).trans hx157_1
              replace hx157_2 := (HB.out.cell (World.block_lt_of_cell? w _ hx157_2)).trans hx157_2
              have HR157_1 := Aside0.mk hi157_1
              have HC157_1 := Aside0.mk hl157_1
              clear hi157_1 hl157_1
              replace p157 := eq_true p157
              replace q157 := eq_true q157
              refine start_ (n := 40) (S := fun w' => w'.cell? (ad156.add ((t146).toNat * 3)) = some (.int .i64 ((rd_T43 l0 t146).f0)) ∧ w'.cell? ⟨(ad156.add ((t146).toNat * 3)).block, (ad156.add ((t146).toNat * 3)).off + 1, none⟩ = some (.slice A156_1 ((rd_T43 l0 t146).f1).length c156_1) ∧ w'.cell? ⟨(ad156.add ((t146).toNat * 3)).block, (ad156.add ((t146).toNat * 3)).off + 2, none⟩ = some (.bool ((rd_T43 l0 t146).f2)) ∧ w'.cell? (ad156.add ((t147).toNat * 3)) = some (.int .i64 ((rd_T43 l0 t147).f0)) ∧ w'.cell? ⟨(ad156.add ((t147).toNat * 3)).block, (ad156.add ((t147).toNat * 3)).off + 1, none⟩ = some (.slice A157_1 ((rd_T43 l0 t147).f1).length c157_1) ∧ w'.cell? ⟨(ad156.add ((t147).toNat * 3)).block, (ad156.add ((t147).toNat * 3)).off + 2, none⟩ = some (.bool ((rd_T43 l0 t147).f2))) (ds := []) #[false, false, false, false, false, false, false, false, false, false, false, false, false, false, false, false, false, false, false, false, false, false, false, false, false, false, false, false, false, false, false, false, false, false, false, false, false, false, false, false] (by kernel_rfl) rfl rfl ⟨((HB.out.cell (World.block_lt_of_cell? w _ hw156_0)).trans hw156_0), ((HB.out.cell (World.block_lt_of_cell? w _ hw156_1)).trans hw156_1), ((HB.out.cell (World.block_lt_of_cell? w _ hw156_2)).trans hw156_2), ((HB.out.cell (World.block_lt_of_cell? w _ hw157_0)).trans hw157_0), ((HB.out.cell (World.block_lt_of_cell? w _ hw157_1)).trans hw157_1), ((HB.out.cell (World.block_lt_of_cell? w _ hw157_2)).trans hw157_2)⟩ (fun hHeld => ?_); refine with_tabW squintlaw04_KindsLaws.tab15 squintlaw04_KindsLaws.bits15 (fun HT_ HW_ => ?_)
              generalize wc.drew = w59 at HB HR156_1 HR157_1 hx156_0 hx156_1 hx156_2 hx157_0 hx157_1 hx157_2 hHeld ⊢
              refine pure_ (i := 0) (N := some 104) (v := ?_) (a' := ?_) #[true, false, false, false, false, false, false, false, false, false, false, false, false, false, false, false, false, false, false, false, false, false, false, false, false, false, false, false, false, false, false, false, false, false, false, false, false, false, false, false] rfl rfl (any_of HT_.out (by kernel_rfl)) (fun _ _ _ h => h) (Or.inl ⟨by rfl, ?_⟩) ?_ ?_
              rotate_left
              ·intro w'
               go_simp
               with_reducible rfl
              rotate_left
              ·simp only [Act.put, List.setIfInBounds_toArray, List.set_cons_zero, List.set_cons_succ, i64_w, i32_w]
               rfl
              refine pure_ (i := 1) (N := some 105) (v := ?_) (a' := ?_) #[true, true, false, false, false, false, false, false, false, false, false, false, false, false, false, false, false, false, false, false, false, false, false, false, false, false, false, false, false, false, false, false, false, false, false, false, false, false, false, false] rfl rfl (any_of HT_.out (by kernel_rfl)) (fun _ _ _ h => h) (Or.inl ⟨by rfl, ?_⟩) ?_ ?_
              rotate_left
              ·intro w'
               go_simp
               with_reducible rfl
              rotate_left
              ·simp only [Act.put, List.setIfInBounds_toArray, List.set_cons_zero, List.set_cons_succ, i64_w, i32_w]
               rfl
              refine pure_ (i := 2) (N := some 106) (v := ?_) (a' := ?_) #[true, true, true, false, false, false, false, false, false, false, false, false, false, false, false, false, false, false, false, false, false, false, false, false, false, false, false, false, false, false, false, false, false, false, false, false, false, false, false, false] rfl rfl (any_of HT_.out (by kernel_rfl)) (fun _ _ _ h => h) (Or.inl ⟨by rfl, ?_⟩) ?_ ?_
              rotate_left
              ·intro w'
               go_simp
               with_reducible rfl
              rotate_left
              ·simp only [Act.put, List.setIfInBounds_toArray, List.set_cons_zero, List.set_cons_succ, i64_w, i32_w]
               rfl
              refine pure_ (i := 3) (N := some 107) (v := ?_) (a' := ?_) #[true, true, true, true, false, false, false, false, false, false, false, false, false, false, false, false, false, false, false, false, false, false, false, false, false, false, false, false, false, false, false, false, false, false, false, false, false, false, false, false] rfl rfl (any_of HT_.out (by kernel_rfl)) (fun _ _ _ h => h) (Or.inl ⟨by rfl, ?_⟩) ?_ ?_
              rotate_left
              ·intro w'
               go_simp
               with_reducible rfl
              rotate_left
              ·simp only [Act.put, List.setIfInBounds_toArray, List.set_cons_zero, List.set_cons_succ, i64_w, i32_w]
               rfl
              refine pure_ (i := 5) (N := some 109) (v := ?_) (a' := ?_) #[true, true, true, true, false, true, false, false, false, false, false, false, false, false, false, false, false, false, false, false, false, false, false, false, false, false, false, false, false, false, false, false, false, false, false, false, false, false, false, false] rfl rfl (any_of HT_.out (by kernel_rfl)) (fun _ _ _ h => h) (Or.inl ⟨by rfl, ?_⟩) ?_ ?_
              rotate_left
              ·intro w'
               go_simp
               with_reducible rfl
              rotate_left
              ·simp only [Act.put, List.setIfInBounds_toArray, List.set_cons_zero, List.set_cons_succ, i64_w, i32_w]
               rfl
              refine pure_ (i := 6) (N := some 110) (v := ?_) (a' := ?_) #[true, true, true, true, false, true, true, false, false, false, false, false, false, false, false, false, false, false, false, false, false, false, false, false, false, false, false, false, false, false, false, false, false, false, false, false, false, false, false, false] rfl rfl (any_of HT_.out (by kernel_rfl)) (fun _ _ _ h => h) (Or.inl ⟨by rfl, ?_⟩) ?_ ?_
              rotate_left
              ·intro w'
               go_simp
               with_reducible rfl
              rotate_left
              ·simp only [Act.put, List.setIfInBounds_toArray, List.set_cons_zero, List.set_cons_succ, i64_w, i32_w]
               rfl
              refine pure_ (i := 7) (N := some 111) (v := ?_) (a' := ?_) #[true, true, true, true, false, true, true, true, false, false, false, false, false, false, false, false, false, false, false, false, false, false, false, false, false, false, false, false, false, false, false, false, false, false, false, false, false, false, false, false] rfl rfl (any_of HT_.out (by kernel_rfl)) (fun _ _ _ h => h) (Or.inl ⟨by rfl, ?_⟩) ?_ ?_
              rotate_left
              ·intro w'
               go_simp
               with_reducible rfl
              rotate_left
              ·simp only [Act.put, List.setIfInBounds_toArray, List.set_cons_zero, List.set_cons_succ, i64_w, i32_w]
               rfl
              refine pure_ (i := 8) (N := some 112) (v := ?_) (a' := ?_) #[true, true, true, true, false, true, true, true, true, false, false, false, false, false, false, false, false, false, false, false, false, false, false, false, false, false, false, false, false, false, false, false, false, false, false, false, false, false, false, false] rfl rfl (any_of HT_.out (by kernel_rfl)) (fun _ _ _ h => h) (Or.inl ⟨by rfl, ?_⟩) ?_ ?_
              rotate_left
              ·intro w'
               go_simp
               with_reducible rfl
              rotate_left
              ·simp only [Act.put, List.setIfInBounds_toArray, List.set_cons_zero, List.set_cons_succ, i64_w, i32_w]
               rfl
              refine take_ (i := 4) (N := some 108) (v := ?_) (a' := ?_) #[true, true, true, true, true, true, true, true, true, false, false, false, false, false, false, false, false, false, false, false, false, false, false, false, false, false, false, false, false, false, false, false, false, false, false, false, false, false, false, false] rfl rfl (take_ofW HT_.out HW_.out (by kernel_rfl)) (fun _ _ _ h => h) (Or.inl ⟨by rfl, ?_⟩) hHeld ?_ ?_
              rotate_left
              ·rintro w' ⟨s0, s1, s2, s3, s4, s5⟩
               go_simp
               with_reducible rfl
              rotate_left
              ·simp only [Act.put, List.setIfInBounds_toArray, List.set_cons_zero, List.set_cons_succ, i64_w, i32_w]
               rfl
              refine take_ (i := 9) (N := some 113) (v := ?_) (a' := ?_) #[true, true, true, true, true, true, true, true, true, true, false, false, false, false, false, false, false, false, false, false, false, false, false, false, false, false, false, false, false, false, false, false, false, false, false, false, false, false, false, false] rfl rfl (take_ofW HT_.out HW_.out (by kernel_rfl)) (fun _ _ _ h => h) (Or.inl ⟨by rfl, ?_⟩) hHeld ?_ ?_
              rotate_left
              ·rintro w' ⟨s0, s1, s2, s3, s4, s5⟩
               go_simp
               with_reducible rfl
              rotate_left
              ·simp only [Act.put, List.setIfInBounds_toArray, List.set_cons_zero, List.set_cons_succ, i64_w, i32_w]
               rfl
              refine pure_ (i := 10) (N := some 114) (v := ?_) (a' := ?_) #[true, true, true, true, true, true, true, true, true, true, true, false, false, false, false, false, false, false, false, false, false, false, false, false, false, false, false, false, false, false, false, false, false, false, false, false, false, false, false, false] rfl rfl (any_of HT_.out (by kernel_rfl)) (fun _ _ _ h => h) (Or.inl ⟨by rfl, ?_⟩) ?_ ?_
              rotate_left
              ·intro w'
               go_simp
               with_reducible rfl
              rotate_left
              ·simp only [Act.put, List.setIfInBounds_toArray, List.set_cons_zero, List.set_cons_succ, i64_w, i32_w]
               rfl
              refine pure_ (i := 11) (N := some 115) (v := ?_) (a' := ?_) #[true, true, true, true, true, true, true, true, true, true, true, true, false, false, false, false, false, false, false, false, false, false, false, false, false, false, false, false, false, false, false, false, false, false, false, false, false, false, false, false] rfl rfl (any_of HT_.out (by kernel_rfl)) (fun _ _ _ h => h) (Or.inl ⟨by rfl, ?_⟩) ?_ ?_
              rotate_left
              ·intro w'
               go_simp
               with_reducible rfl
              rotate_left
              ·simp only [Act.put, List.setIfInBounds_toArray, List.set_cons_zero, List.set_cons_succ, i64_w, i32_w]
               rfl
              refine pure_ (i := 12) (N := some 116) (v := undef) (a' := ?_) #[true, true, true, true, true, true, true, true, true, true, true, true, true, false, false, false, false, false, false, false, false, false, false, false, false, false, false, false, false, false, false, false, false, false, false, false, false, false, false, false] rfl rfl (any_of HT_.out (by kernel_rfl)) (fun _ _ _ h => h) (Or.inr ⟨by rfl, rfl⟩) ?_ ?_
              rotate_left
              ·simp only [Act.put, List.setIfInBounds_toArray, List.set_cons_zero, List.set_cons_succ, i64_w, i32_w]
               rfl
              refine pure_ (i := 13) (N := some 117) (v := undef) (a' := ?_) #[true, true, true, true, true, true, true, true, true, true, true, true, true, true, false, false, false, false, false, false, false, false, false, false, false, false, false, false, false, false, false, false, false, false, false, false, false, false, false, false] rfl rfl (any_of HT_.out (by kernel_rfl)) (fun _ _ _ h => h) (Or.inr ⟨by rfl, rfl⟩) ?_ ?_
              rotate_left
              ·simp only [Act.put, List.setIfInBounds_toArray, List.set_cons_zero, List.set_cons_succ, i64_w, i32_w]
               rfl
              refine pure_ (i := 14) (N := some 118) (v := undef) (a' := ?_) #[true, true, true, true, true, true, true, true, true, true, true, true, true, true, true, false, false, false, false, false, false, false, false, false, false, false, false, false, false, false, false, false, false, false, false, false, false, false, false, false] rfl rfl (any_of HT_.out (by kernel_rfl)) (fun _ _ _ h => h) (Or.inr ⟨by rfl, rfl⟩) ?_ ?_
              rotate_left
              ·simp only [Act.put, List.setIfInBounds_toArray, List.set_cons_zero, List.set_cons_succ, i64_w, i32_w]
               rfl
              refine pure_ (i := 15) (N := some 119) (v := undef) (a' := ?_) #[true, true, true, true, true, true, true, true, true, true, true, true, true, true, true, true, false, false, false, false, false, false, false, false, false, false, false, false, false, false, false, false, false, false, false, false, false, false, false, false] rfl rfl (any_of HT_.out (by kernel_rfl)) (fun _ _ _ h => h) (Or.inr ⟨by rfl, rfl⟩) ?_ ?_
              rotate_left
              ·simp only [Act.put, List.setIfInBounds_toArray, List.set_cons_zero, List.set_cons_succ, i64_w, i32_w]
               rfl
              refine pure_ (i := 16) (N := some 120) (v := undef) (a' := ?_) #[true, true, true, true, true, true, true, true, true, true, true, true, true, true, true, true, true, false, false, false, false, false, false, false, false, false, false, false, false, false, false, false, false, false, false, false, false, false, false, false] rfl rfl (any_of HT_.out (by kernel_rfl)) (fun _ _ _ h => h) (Or.inr ⟨by rfl, rfl⟩) ?_ ?_
              rotate_left
              ·simp only [Act.put, List.setIfInBounds_toArray, List.set_cons_zero, List.set_cons_succ, i64_w, i32_w]
               rfl
              refine pure_ (i := 17) (N := some 121) (v := undef) (a' := ?_) #[true, true, true, true, true, true, true, true, true, true, true, true, true, true, true, true, true, true, false, false, false, false, false, false, false, false, false, false, false, false, false, false, false, false, false, false, false, false, false, false] rfl rfl (any_of HT_.out (by kernel_rfl)) (fun _ _ _ h => h) (Or.inr ⟨by rfl, rfl⟩) ?_ ?_
              rotate_left
              ·simp only [Act.put, List.setIfInBounds_toArray, List.set_cons_zero, List.set_cons_succ, i64_w, i32_w]
               rfl
              refine pure_ (i := 18) (N := some 122) (v := undef) (a' := ?_) #[true, true, true, true, true, true, true, true, true, true, true, true, true, true, true, true, true, true, true, false, false, false, false, false, false, false, false, false, false, false, false, false, false, false, false, false, false, false, false, false] rfl rfl (any_of HT_.out (by kernel_rfl)) (fun _ _ _ h => h) (Or.inr ⟨by rfl, rfl⟩) ?_ ?_
              rotate_left
              ·simp only [Act.put, List.setIfInBounds_toArray, List.set_cons_zero, List.set_cons_succ, i64_w, i32_w]
               rfl
              refine pure_ (i := 19) (N := some 123) (v := undef) (a' := ?_) #[true, true, true, true, true, true, true, true, true, true, true, true, true, true, true, true, true, true, true, true, false, false, false, false, false, false, false, false, false, false, false, false, false, false, false, false, false, false, false, false] rfl rfl (any_of HT_.out (by kernel_rfl)) (fun _ _ _ h => h) (Or.inr ⟨by rfl, rfl⟩) ?_ ?_
              rotate_left
              ·simp only [Act.put, List.setIfInBounds_toArray, List.set_cons_zero, List.set_cons_succ, i64_w, i32_w]
               rfl
              refine pure_ (i := 20) (N := some 124) (v := undef) (a' := ?_) #[true, true, true, true, true, true, true, true, true, true, true, true, true, true, true, true, true, true, true, true, true, false, false, false, false, false, false, false, false, false, false, false, false, false, false, false, false, false, false, false] rfl rfl (any_of HT_.out (by kernel_rfl)) (fun _ _ _ h => h) (Or.inr ⟨by rfl, rfl⟩) ?_ ?_
              rotate_left
              ·simp only [Act.put, List.setIfInBounds_toArray, List.set_cons_zero, List.set_cons_succ, i64_w, i32_w]
               rfl
              refine pure_ (i := 21) (N := some 125) (v := undef) (a' := ?_) #[true, true, true, true, true, true, true, true, true, true, true, true, true, true, true, true, true, true, true, true, true, true, false, false, false, false, false, false, false, false, false, false, false, false, false, false, false, false, false, false] rfl rfl (any_of HT_.out (by kernel_rfl)) (fun _ _ _ h => h) (Or.inr ⟨by rfl, rfl⟩) ?_ ?_
              rotate_left
              ·simp only [Act.put, List.setIfInBounds_toArray, List.set_cons_zero, List.set_cons_succ, i64_w, i32_w]
               rfl
              refine pure_ (i := 22) (N := some 126) (v := undef) (a' := ?_) #[true, true, true, true, true, true, true, true, true, true, true, true, true, true, true, true, true, true, true, true, true, true, true, false, false, false, false, false, false, false, false, false, false, false, false, false, false, false, false, false] rfl rfl (any_of HT_.out (by kernel_rfl)) (fun _ _ _ h => h) (Or.inr ⟨by rfl, rfl⟩) ?_ ?_
              rotate_left
              ·simp only [Act.put, List.setIfInBounds_toArray, List.set_cons_zero, List.set_cons_succ, i64_w, i32_w]
               rfl
              refine pure_ (i := 23) (N := some 127) (v := ?_) (a' := ?_) #[true, true, true, true, true, true, true, true, true, true, true, true, true, true, true, true, true, true, true, true, true, true, true, true, false, false, false, false, false, false, false, false, false, false, false, false, false, false, false, false] rfl rfl (any_of HT_.out (by kernel_rfl)) (fun _ _ _ h => h) (Or.inl ⟨by rfl, ?_⟩) ?_ ?_
              rotate_left
              ·intro w'
               go_simp
               with_reducible rfl
              rotate_left
              ·simp only [Act.put, List.setIfInBounds_toArray, List.set_cons_zero, List.set_cons_succ, i64_w, i32_w]
               rfl
              refine pure_ (i := 24) (N := some 128) (v := ?_) (a' := ?_) #[true, true, true, true, true, true, true, true, true, true, true, true, true, true, true, true, true, true, true, true, true, true, true, true, true, false, false, false, false, false, false, false, false, false, false, false, false, false, false, false] rfl rfl (any_of HT_.out (by kernel_rfl)) (fun _ _ _ h => h) (Or.inl ⟨by rfl, ?_⟩) ?_ ?_
              rotate_left
              ·intro w'
               go_simp
               with_reducible rfl
              rotate_left
              ·simp only [Act.put, List.setIfInBounds_toArray, List.set_cons_zero, List.set_cons_succ, i64_w, i32_w]
               rfl
              refine pure_ (i := 25) (N := some 129) (v := undef) (a' := ?_) #[true, true, true, true, true, true, true, true, true, true, true, true, true, true, true, true, true, true, true, true, true, true, true, true, true, true, false, false, false, false, false, false, false, false, false, false, false, false, false, false] rfl rfl (any_of HT_.out (by kernel_rfl)) (fun _ _ _ h => h) (Or.inr ⟨by rfl, rfl⟩) ?_ ?_
              rotate_left
              ·simp only [Act.put, List.setIfInBounds_toArray, List.set_cons_zero, List.set_cons_succ, i64_w, i32_w]
               rfl
              refine pure_ (i := 26) (N := some 130) (v := undef) (a' := ?_) #[true, true, true, true, true, true, true, true, true, true, true, true, true, true, true, true, true, true, true, true, true, true, true, true, true, true, true, false, false, false, false, false, false, false, false, false, false, false, false, false] rfl rfl (any_of HT_.out (by kernel_rfl)) (fun _ _ _ h => h) (Or.inr ⟨by rfl, rfl⟩) ?_ ?_
              rotate_left
              ·simp only [Act.put, List.setIfInBounds_toArray, List.set_cons_zero, List.set_cons_succ, i64_w, i32_w]
               rfl
              refine pure_ (i := 27) (N := some 131) (v := undef) (a' := ?_) #[true, true, true, true, true, true, true, true, true, true, true, true, true, true, true, true, true, true, true, true, true, true, true, true, true, true, true, true, false, false, false, false, false, false, false, false, false, false, false, false] rfl rfl (any_of HT_.out (by kernel_rfl)) (fun _ _ _ h => h) (Or.inr ⟨by rfl, rfl⟩) ?_ ?_
              rotate_left
              ·simp only [Act.put, List.setIfInBounds_toArray, List.set_cons_zero, List.set_cons_succ, i64_w, i32_w]
               rfl
              refine pure_ (i := 28) (N := some 132) (v := undef) (a' := ?_) #[true, true, true, true, true, true, true, true, true, true, true, true, true, true, true, true, true, true, true, true, true, true, true, true, true, true, true, true, true, false, false, false, false, false, false, false, false, false, false, false] rfl rfl (any_of HT_.out (by kernel_rfl)) (fun _ _ _ h => h) (Or.inr ⟨by rfl, rfl⟩) ?_ ?_
              rotate_left
              ·simp only [Act.put, List.setIfInBounds_toArray, List.set_cons_zero, List.set_cons_succ, i64_w, i32_w]
               rfl
              refine pure_ (i := 29) (N := some 133) (v := undef) (a' := ?_) #[true, true, true, true, true, true, true, true, true, true, true, true, true, true, true, true, true, true, true, true, true, true, true, true, true, true, true, true, true, true, false, false, false, false, false, false, false, false, false, false] rfl rfl (any_of HT_.out (by kernel_rfl)) (fun _ _ _ h => h) (Or.inr ⟨by rfl, rfl⟩) ?_ ?_
              rotate_left
              ·simp only [Act.put, List.setIfInBounds_toArray, List.set_cons_zero, List.set_cons_succ, i64_w, i32_w]
               rfl
              refine pure_ (i := 30) (N := some 134) (v := undef) (a' := ?_) #[true, true, true, true, true, true, true, true, true, true, true, true, true, true, true, true, true, true, true, true, true, true, true, true, true, true, true, true, true, true, true, false, false, false, false, false, false, false, false, false] rfl rfl (any_of HT_.out (by kernel_rfl)) (fun _ _ _ h => h) (Or.inr ⟨by rfl, rfl⟩) ?_ ?_
              rotate_left
              ·simp only [Act.put, List.setIfInBounds_toArray, List.set_cons_zero, List.set_cons_succ, i64_w, i32_w]
               rfl
              refine pure_ (i := 31) (N := some 135) (v := undef) (a' := ?_) #[true, true, true, true, true, true, true, true, true, true, true, true, true, true, true, true, true, true, true, true, true, true, true, true, true, true, true, true, true, true, true, true, false, false, false, false, false, false, false, false] rfl rfl (any_of HT_.out (by kernel_rfl)) (fun _ _ _ h => h) (Or.inr ⟨by rfl, rfl⟩) ?_ ?_
              rotate_left
              ·simp only [Act.put, List.setIfInBounds_toArray, List.set_cons_zero, List.set_cons_succ, i64_w, i32_w]
               rfl
              refine pure_ (i := 32) (N := some 136) (v := undef) (a' := ?_) #[true, true, true, true, true, true, true, true, true, true, true, true, true, true, true, true, true, true, true, true, true, true, true, true, true, true, true, true, true, true, true, true, true, false, false, false, false, false, false, false] rfl rfl (any_of HT_.out (by kernel_rfl)) (fun _ _ _ h => h) (Or.inr ⟨by rfl, rfl⟩) ?_ ?_
              rotate_left
              ·simp only [Act.put, List.setIfInBounds_toArray, List.set_cons_zero, List.set_cons_succ, i64_w, i32_w]
               rfl
              refine pure_ (i := 33) (N := some 137) (v := undef) (a' := ?_) #[true, true, true, true, true, true, true, true, true, true, true, true, true, true, true, true, true, true, true, true, true, true, true, true, true, true, true, true, true, true, true, true, true, true, false, false, false, false, false, false] rfl rfl (any_of HT_.out (by kernel_rfl)) (fun _ _ _ h => h) (Or.inr ⟨by rfl, rfl⟩) ?_ ?_
              rotate_left
              ·simp only [Act.put, List.setIfInBounds_toArray, List.set_cons_zero, List.set_cons_succ, i64_w, i32_w]
               rfl
              refine pure_ (i := 34) (N := some 138) (v := undef) (a' := ?_) #[true, true, true, true, true, true, true, true, true, true, true, true, true, true, true, true, true, true, true, true, true, true, true, true, true, true, true, true, true, true, true, true, true, true, true, false, false, false, false, false] rfl rfl (any_of HT_.out (by kernel_rfl)) (fun _ _ _ h => h) (Or.inr ⟨by rfl, rfl⟩) ?_ ?_
              rotate_left
              ·simp only [Act.put, List.setIfInBounds_toArray, List.set_cons_zero, List.set_cons_succ, i64_w, i32_w]
               rfl
              refine pure_ (i := 35) (N := some 139) (v := undef) (a' := ?_) #[true, true, true, true, true, true, true, true, true, true, true, true, true, true, true, true, true, true, true, true, true, true, true, true, true, true, true, true, true, true, true, true, true, true, true, true, false, false, false, false] rfl rfl (any_of HT_.out (by kernel_rfl)) (fun _ _ _ h => h) (Or.inr ⟨by rfl, rfl⟩) ?_ ?_
              rotate_left
              ·simp only [Act.put, List.setIfInBounds_toArray, List.set_cons_zero, List.set_cons_succ, i64_w, i32_w]
               rfl
              refine pure_ (i := 36) (N := some 140) (v := undef) (a' := ?_) #[true, true, true, true, true, true, true, true, true, true, true, true, true, true, true, true, true, true, true, true, true, true, true, true, true, true, true, true, true, true, true, true, true, true, true, true, true, false, false, false] rfl rfl (any_of HT_.out (by kernel_rfl)) (fun _ _ _ h => h) (Or.inr ⟨by rfl, rfl⟩) ?_ ?_
              rotate_left
              ·simp only [Act.put, List.setIfInBounds_toArray, List.set_cons_zero, List.set_cons_succ, i64_w, i32_w]
               rfl
              refine pure_ (i := 37) (N := some 141) (v := undef) (a' := ?_) #[true, true, true, true, true, true, true, true, true, true, true, true, true, true, true, true, true, true, true, true, true, true, true, true, true, true, true, true, true, true, true, true, true, true, true, true, true, true, false, false] rfl rfl (any_of HT_.out (by kernel_rfl)) (fun _ _ _ h => h) (Or.inr ⟨by rfl, rfl⟩) ?_ ?_
              rotate_left
              ·simp only [Act.put, List.setIfInBounds_toArray, List.set_cons_zero, List.set_cons_succ, i64_w, i32_w]
               rfl
              refine pure_ (i := 38) (N := some 142) (v := ?_) (a' := ?_) #[true, true, true, true, true, true, true, true, true, true, true, true, true, true, true, true, true, true, true, true, true, true, true, true, true, true, true, true, true, true, true, true, true, true, true, true, true, true, true, false] rfl rfl (any_of HT_.out (by kernel_rfl)) (fun _ _ _ h => h) (Or.inl ⟨by rfl, ?_⟩) ?_ ?_
              rotate_left
              ·intro w'
               go_simp
               with_reducible rfl
              rotate_left
              ·simp only [Act.put, List.setIfInBounds_toArray, List.set_cons_zero, List.set_cons_succ, i64_w, i32_w]
               rfl
              refine pure_ (i := 39) (N := some 14) (v := ?_) (a' := ?_) #[true, true, true, true, true, true, true, true, true, true, true, true, true, true, true, true, true, true, true, true, true, true, true, true, true, true, true, true, true, true, true, true, true, true, true, true, true, true, true, true] rfl rfl (any_of HT_.out (by kernel_rfl)) (fun _ _ _ h => h) (Or.inl ⟨by rfl, ?_⟩) ?_ ?_
              rotate_left
              ·intro w'
               go_simp
               with_reducible rfl
              rotate_left
              ·simp only [Act.put, List.setIfInBounds_toArray, List.set_cons_zero, List.set_cons_succ, i64_w, i32_w]
               rfl
              refine done_ (done_of HT_.out (by kernel_rfl)) ?_
              try go_wp2
              go_meet
              case rel => exact ⟨_, (false), (by first | rfl | (simp; done) | (simp [*]; done)), H', ⟨by have := HJ4.out; have := HJ23.out; first | omega | exact Nat.le_refl _⟩, ⟨by repeat (first | (with_reducible first | exact HB.out | apply below_alloc | apply pw_below_drewN | apply below_drew1) | exact HB.out)⟩⟩
            ·rw [if_neg c54] at H
             exact absurd H (by simp)
           ·rw [if_neg c53] at H
            exact absurd H (by simp)
          ·rw [if_neg c52] at H
           exact absurd H (by simp)
         ·rw [if_neg c51] at H
          exact absurd H (by simp)
        case rest => as_aux_lemma =>
         clear HC50
         try clear c1
         try clear p1
         try clear q1
         try clear hx1
         try clear p2
         try clear c5
         try clear c15
         try clear p15
         try clear q15
         try clear hx15
         try clear c51
         try clear c52
         try clear c53
         try clear c54
         try clear c55
         try clear c55b0
         try clear c55b1
         try clear hx156_0
         try clear hx156_1
         try clear hx156_2
         try clear hx157_0
         try clear hx157_1
         try clear hx157_2
         try clear hx158_0
         try clear hx158_1
         try clear hx158_2
         try clear hx159_0
         try clear hx159_1
         try clear hx159_2
         try clear p156
         try clear p157
         try clear p158
         try clear p159
         try clear q156
         try clear q157
         try clear q158
         try clear q159
         obtain ⟨kq, x14_49, rfl, HA, HJ49, HB⟩ := hcut
         cases kq with
         | zero => exact absurd HA.out (by simp [squintlaw04_KindsLaws.j2])
         | succ kj49 =>
          have H := HA.out
          clear HA
          simp only [squintlaw04_KindsLaws.j2] at H
          have HC60 := Aside0.mk H
          clear H
          go_upto_block 0 with (fail)
          go_cut [15] (fun v15 wc => ∃ (kq : Nat) (x15_59 : Bool), v15 = .bool x15_59 ∧ Aside0 (squintlaw04_KindsLaws.j4 kq l0 t146 t147 t148 (l0.length : Int) t151 t152 t153 x15_59 = some r) ∧ Aside0 (kq ≤ kj49) ∧ Aside0 (Below w.heap.size w wc))
          case first => as_aux_lemma =>
           have H := HC60.out
           clear HC60
           have H' := Aside0.mk H
           clear H
           go_wp2
           go_loopg [15, 16] kj49 (fun kq v15 v16 w' => ∃ (x15_4 : Bool) (x16_4 : Int), v15 = .bool x15_4 ∧ v16 = .int .i64 x16_4 ∧ Aside0 (squintlaw04_KindsLaws.l0 kq l0 t146 t147 t148 (l0.length : Int) t151 t152 t153 x14_49 x15_4 x16_4 = some r) ∧ Aside0 (kq ≤ kj49) ∧ Aside0 (Below w.heap.size w w'))
           case atStart => exact ⟨(x14_49), (0), (by first | rfl | (simp; done) | (simp [*]; done)), (by first | rfl | (simp; done) | (simp [*]; done)), H', ⟨Nat.le_refl _⟩, ⟨by repeat (first | (with_reducible first | exact HB.out | apply below_alloc | apply pw_below_drewN | apply below_drew1) | exact HB.out)⟩⟩
           case round => as_aux_lemma =>
            clear H'
            try clear c1
            try clear p1
            try clear q1
            try clear hx1
            try clear p2
            try clear c5
            try clear c15
            try clear p15
            try clear q15
            try clear hx15
            try clear c51
            try clear c52
            try clear c53
            try clear c54
            try clear c55
            try clear c55b0
            try clear c55b1
            try clear hx156_0
            try clear hx156_1
            try clear hx156_2
            try clear hx157_0
            try clear hx157_1
            try clear hx157_2
            try clear hx158_0
            try clear hx158_1
            try clear hx158_2
            try clear hx159_0
            try clear hx159_1
            try clear hx159_2
            try clear p1
            try clear p15
            try clear p156
            try clear p157
            try clear p158
            try clear p159
            try clear p2
            try clear q1
            try clear q15
            try clear q156
            try clear q157
            try clear q158
            try clear q159
            obtain ⟨x15_4, x16_4, rfl, rfl, HA, HK4, HB⟩ := hrel
            cases gk with
            | zero => exact absurd HA.out (by simp [squintlaw04_KindsLaws.l0])
            | succ k4 =>
             have H := HA.out
             clear HA
             simp only [squintlaw04_KindsLaws.l0] at H
             by_cases c61 : x14_49 = true
             ·subst c61
              have H1 : (if 0 ≤ t146 then (if t146 < (l0.length : Int) then (if x16_4 < (((rd_T43 l0 t146).f1).length : Int) then (if x15_4 = true then (if 0 ≤ x16_4 then (if 0 ≤ t147 then (if t147 < (l0.length : Int) then (if x16_4 < (((rd_T43 l0 t147).f1).length : Int) then ((kinds_Same.f k4 l0 (rd ((rd_T43 l0 t146).f1) x16_4) (rd ((rd_T43 l0 t147).f1) x16_4)).bind fun t167 => (squintlaw04_KindsLaws.l0 k4 l0 t146 t147 t148 (l0.length : Int) t151 t152 t153 true t167 (wrap64 (x16_4 + 1)))) else (none)) else (none)) else (none)) else (none)) else (squintlaw04_KindsLaws.l0 k4 l0 t146 t147 t148 (l0.length : Int) t151 t152 t153 true false (wrap64 (x16_4 + 1)))) else (squintlaw04_KindsLaws.j4 k4 l0 t146 t147 t148 (l0.length : Int) t151 t152 t153 x15_4)) else (none)) else (none)) = some r := by rw [if_pos rfl] at H; exact H
              clear H
              have H := H1
              clear H1
              by_cases c62 : 0 ≤ t146
              ·rw [if_pos c62] at H
               have c62b0 : decide (0 ≤ t146) = true := decide_eq_true c62
               clear c62
               (first | rw [c62b0] | (simp only [i64_w, i32_w]; rw [c62b0]) | skip)
               by_cases c63 : t146 < (l0.length : Int)
               ·rw [if_pos c63] at H
                have c63b0 : decide (t146 < (l0.length : Int)) = true := decide_eq_true c63
                clear c63
                by_cases c64 : x16_4 < (((rd_T43 l0 t146).f1).length : Int)
                ·rw [if_pos c64] at H
                 have c64b0 : decide (x16_4 < (((rd_T43 l0 t146).f1).length : Int)) = true := decide_eq_true c64
                 clear c64
                 by_cases c65 : x15_4 = true
                 ·subst c65
                  have H1 : (if 0 ≤ x16_4 then (if 0 ≤ t147 then (if t147 < (l0.length : Int) then (if x16_4 < (((rd_T43 l0 t147).f1).length : Int) then ((kinds_Same.f k4 l0 (rd ((rd_T43 l0 t146).f1) x16_4) (rd ((rd_T43 l0 t147).f1) x16_4)).bind fun t167 => (squintlaw04_KindsLaws.l0 k4 l0 t146 t147 t148 (l0.length : Int) t151 t152 t153 true t167 (wrap64 (x16_4 + 1)))) else (none)) else (none)) else (none)) else (none)) = some r := by rw [if_pos rfl] at H; exact H
                  clear H
                  have H := H1
                  clear H1
                  by_cases c66 : 0 ≤ x16_4
                  ·rw [if_pos c66] at H
                   have c66b0 : decide (0 ≤ x16_4) = true := decide_eq_true c66
                   clear c66
                   by_cases c67 : 0 ≤ t147
                   ·rw [if_pos c67] at H
                    have c67b0 : decide (0 ≤ t147) = true := decide_eq_true c67
                    clear c67
                    by_cases c68 : t147 < (l0.length : Int)
                    ·rw [if_pos c68] at H
                     have c68b0 : decide (t147 < (l0.length : Int)) = true := decide_eq_true c68
                     clear c68
                     by_cases c69 : x16_4 < (((rd_T43 l0 t147).f1).length : Int)
                     ·rw [if_pos c69] at H
                      have c69b0 : decide (x16_4 < (((rd_T43 l0 t147).f1).length : Int)) = true := decide_eq_true c69
                      clear c69
                      replace H := Option.bind_eq_some_iff.mp H
                      obtain ⟨t167, A700, H⟩ := H
                      replace H : (squintlaw04_KindsLaws.l0 k4 l0 t146 t147 t148 (l0.length : Int) t151 t152 t153 true t167 (wrap64 (x16_4 + 1))) = some r := H
                      have A70 := Aside0.mk A700
                      clear A700
                      have H' := Aside0.mk H
                      clear H
                      have p162 : 0 ≤ (t146 : Int) := of_decide_eq_true (by first | (with_reducible assumption) | assumption)
                      have q162 : t146 < (l0.length : Int) := of_decide_eq_true (by first | (with_reducible assumption) | assumption)
                      obtain ⟨ad162, A162_1, c162_1, e162, hx162_0, hx162_1, hx162_2, hl162_1, hi162_1⟩ := at_T43 HR0.out t146 p162 q162
                      cases e162
                      replace hx162_0 := (HB.out.cell (World.block_lt_of_cell? w _ hx162_0)).trans hx162_0
                      replace hx162_1 := (HB.out.cell (World.block_lt_of_cell? w _ hx162_1)).trans hx162_1
                      replace hx162_2 := (HB.out.cell (World.block_lt_of_cell? w _ hx162_2)).trans hx162_2
                      have HR162_1 := Aside0.mk hi162_1
                      have HC162_1 := Aside0.mk hl162_1
                      clear hi162_1 hl162_1
                      replace p162 := eq_true p162
                      replace q162 := eq_true q162
                      try go_wp2
                      have n0_ := Aside0.mk (below_drew1 HB.out)
                      clear HB
                      have HB := n0_
                      clear n0_
                      have p163 : 0 ≤ (t146 : Int) := of_decide_eq_true (by first | (with_reducible assumption) | assumption)
                      have q163 : t146 < (l0.length : Int) := of_decide_eq_true (by first | (with_reducible assumption) | assumption)
                      obtain ⟨ad163, A163_1, c163_1, e163, hx163_0, hx163_1, hx163_2, hl163_1, hi163_1⟩ := at_T43 HR0.out t146 p163 q163
                      have hw163_2 := hx163_2
                      have hw163_1 := hx163_1
                      have hw163_0 := hx163_0
                      obtain rfl : ad162 = ad163 := (by injection e163)
                      replace hx163_0 := (HB.out.cell (World.block_lt_of_cell? w _ hx163_0)).trans hx163_0
                      replace hx163_1 := (HB.out.cell (World.block_lt_of_cell? w _ hx163_1)).trans hx163_1
                      replace hx163_2 := (HB.out.cell (World.block_lt_of_cell? w _ hx163_2)).trans hx163_2
                      have HR163_1 := Aside0.mk hi163_1
                      have HC163_1 := Aside0.mk hl163_1
                      clear hi163_1 hl163_1
                      replace p163 := eq_true p163
                      replace q163 := eq_true q163
                      have p164 : 0 ≤ (x16_4 : Int) := of_decide_eq_true (by first | (with_reducible assumption) | assumption)
                      have q164 : x16_4 < (((rd_T43 l0 t146).f1).length : Int) := of_decide_eq_true (by first | (with_reducible assumption) | assumption)
                      obtain ⟨ad164, e164, hx164_0⟩ := Kd.at_int HR163_1.out x16_4 p164 q164
                      have hw164_0 := hx164_0
                      cases e164
                      replace hx164_0 := (HB.out.cell (World.block_lt_of_cell? w _ hx164_0)).trans hx164_0
                      replace p164 := eq_true p164
                      replace q164 := eq_true q164
                      have p165 : 0 ≤ (t147 : Int) := of_decide_eq_true (by first | (with_reducible assumption) | assumption)
                      have q165 : t147 < (l0.length : Int) := of_decide_eq_true (by first | (with_reducible assumption) | assumption)
                      obtain ⟨ad165, A165_1, c165_1, e165, hx165_0, hx165_1, hx165_2, hl165_1, hi165_1⟩ := at_T43 HR0.out t147 p165 q165
                      have hw165_2 := hx165_2
                      have hw165_1 := hx165_1
                      have hw165_0 := hx165_0
                      obtain rfl : ad162 = ad165 := (by injection e165)
                      replace hx165_0 := (HB.out.cell (World.block_lt_of_cell? w _ hx165_0)).trans hx165_0
                      replace hx165_1 := (HB.out.cell (World.block_lt_of_cell? w _ hx165_1)).trans hx165_1
                      replace hx165_2 := (HB.out.cell (World.block_lt_of_cell? w _ hx165_2)).trans hx165_2
                      have HR165_1 := Aside0.mk hi165_1
                      have HC165_1 := Aside0.mk hl165_1
                      clear hi165_1 hl165_1
                      replace p165 := eq_true p165
                      replace q165 := eq_true q165
                      have p166 : 0 ≤ (x16_4 : Int) := of_decide_eq_true (by first | (with_reducible assumption) | assumption)
                      have q166 : x16_4 < (((rd_T43 l0 t147).f1).length : Int) := of_decide_eq_true (by first | (with_reducible assumption) | assumption)
                      obtain ⟨ad166, e166, hx166_0⟩ := Kd.at_int HR165_1.out x16_4 p166 q166
                      have hw166_0 := hx166_0
                      cases e166
                      replace hx166_0 := (HB.out.cell (World.block_lt_of_cell? w _ hx166_0)).trans hx166_0
                      replace p166 := eq_true p166
                      replace q166 := eq_true q166
                      refine start_ (n := 22) (S := fun w' => w'.cell? (ad162.add ((t146).toNat * 3)) = some (.int .i64 ((rd_T43 l0 t146).f0)) ∧ w'.cell? ⟨(ad162.add ((t146).toNat * 3)).block, (ad162.add ((t146).toNat * 3)).off + 1, none⟩ = some (.slice (some ad164) ((rd_T43 l0 t146).f1).length c163_1) ∧ w'.cell? ⟨(ad162.add ((t146).toNat * 3)).block, (ad162.add ((t146).toNat * 3)).off + 2, none⟩ = some (.bool ((rd_T43 l0 t146).f2)) ∧ w'.cell? (ad164.add (x16_4).toNat) = some (.int .i64 (rd ((rd_T43 l0 t146).f1) x16_4)) ∧ w'.cell? (ad162.add ((t147).toNat * 3)) = some (.int .i64 ((rd_T43 l0 t147).f0)) ∧ w'.cell? ⟨(ad162.add ((t147).toNat * 3)).block, (ad162.add ((t147).toNat * 3)).off + 1, none⟩ = some (.slice (some ad166) ((rd_T43 l0 t147).f1).length c165_1) ∧ w'.cell? ⟨(ad162.add ((t147).toNat * 3)).block, (ad162.add ((t147).toNat * 3)).off + 2, none⟩ = some (.bool ((rd_T43 l0 t147).f2)) ∧ w'.cell? (ad166.add (x16_4).toNat) = some (.int .i64 (rd ((rd_T43 l0 t147).f1) x16_4))) (ds := []) #[false, false, false, false, false, false, false, false, false, false, false, false, false, false, false, false, false, false, false, false, false, false] (by kernel_rfl) rfl rfl ⟨((HB.out.cell (World.block_lt_of_cell? w _ hw163_0)).trans hw163_0), ((HB.out.cell (World.block_lt_of_cell? w _ hw163_1)).trans hw163_1), ((HB.out.cell (World.block_lt_of_cell? w _ hw163_2)).trans hw163_2), ((HB.out.cell (World.block_lt_of_cell? w _ hw164_0)).trans hw164_0), ((HB.out.cell (World.block_lt_of_cell? w _ hw165_0)).trans hw165_0), ((HB.out.cell (World.block_lt_of_cell? w _ hw165_1)).trans hw165_1), ((HB.out.cell (World.block_lt_of_cell? w _ hw165_2)).trans hw165_2), ((HB.out.cell (World.block_lt_of_cell? w _ hw166_0)).trans hw166_0)⟩ (fun hHeld => ?_); refine with_tabW squintlaw04_KindsLaws.tab20 squintlaw04_KindsLaws.bits20 (fun HT_ HW_ => ?_)
                      generalize wr.drew = w71 at HB HR163_1 HR165_1 hx163_0 hx163_1 hx163_2 hx164_0 hx165_0 hx165_1 hx165_2 hx166_0 hHeld ⊢
                      refine pure_ (i := 0) (N := some 157) (v := ?_) (a' := ?_) #[true, false, false, false, false, false, false, false, false, false, false, false, false, false, false, false, false, false, false, false, false, false] rfl rfl (any_of HT_.out (by kernel_rfl)) (fun _ _ _ h => h) (Or.inl ⟨by rfl, ?_⟩) ?_ ?_
                      rotate_left
                      ·intro w'
                       go_simp
                       with_reducible rfl
                      rotate_left
                      ·simp only [Act.put, List.setIfInBounds_toArray, List.set_cons_zero, List.set_cons_succ, i64_w, i32_w]
                       rfl
                      refine pure_ (i := 1) (N := some 158) (v := ?_) (a' := ?_) #[true, true, false, false, false, false, false, false, false, false, false, false, false, false, false, false, false, false, false, false, false, false] rfl rfl (any_of HT_.out (by kernel_rfl)) (fun _ _ _ h => h) (Or.inl ⟨by rfl, ?_⟩) ?_ ?_
                      rotate_left
                      ·intro w'
                       go_simp
                       with_reducible rfl
                      rotate_left
                      ·simp only [Act.put, List.setIfInBounds_toArray, List.set_cons_zero, List.set_cons_succ, i64_w, i32_w]
                       rfl
                      refine pure_ (i := 2) (N := some 159) (v := ?_) (a' := ?_) #[true, true, true, false, false, false, false, false, false, false, false, false, false, false, false, false, false, false, false, false, false, false] rfl rfl (any_of HT_.out (by kernel_rfl)) (fun _ _ _ h => h) (Or.inl ⟨by rfl, ?_⟩) ?_ ?_
                      rotate_left
                      ·intro w'
                       go_simp
                       with_reducible rfl
                      rotate_left
                      ·simp only [Act.put, List.setIfInBounds_toArray, List.set_cons_zero, List.set_cons_succ, i64_w, i32_w]
                       rfl
                      refine pure_ (i := 3) (N := some 160) (v := ?_) (a' := ?_) #[true, true, true, true, false, false, false, false, false, false, false, false, false, false, false, false, false, false, false, false, false, false] rfl rfl (any_of HT_.out (by kernel_rfl)) (fun _ _ _ h => h) (Or.inl ⟨by rfl, ?_⟩) ?_ ?_
                      rotate_left
                      ·intro w'
                       go_simp
                       with_reducible rfl
                      rotate_left
                      ·simp only [Act.put, List.setIfInBounds_toArray, List.set_cons_zero, List.set_cons_succ, i64_w, i32_w]
                       rfl
                      refine pure_ (i := 4) (N := some 161) (v := ?_) (a' := ?_) #[true, true, true, true, true, false, false, false, false, false, false, false, false, false, false, false, false, false, false, false, false, false] rfl rfl (any_of HT_.out (by kernel_rfl)) (fun _ _ _ h => h) (Or.inl ⟨by rfl, ?_⟩) ?_ ?_
                      rotate_left
                      ·intro w'
                       go_simp
                       with_reducible rfl
                      rotate_left
                      ·simp only [Act.put, List.setIfInBounds_toArray, List.set_cons_zero, List.set_cons_succ, i64_w, i32_w]
                       rfl
                      refine pure_ (i := 5) (N := some 162) (v := ?_) (a' := ?_) #[true, true, true, true, true, true, false, false, false, false, false, false, false, false, false, false, false, false, false, false, false, false] rfl rfl (any_of HT_.out (by kernel_rfl)) (fun _ _ _ h => h) (Or.inl ⟨by rfl, ?_⟩) ?_ ?_
                      rotate_left
                      ·intro w'
                       go_simp
                       with_reducible rfl
                      rotate_left
                      ·simp only [Act.put, List.setIfInBounds_toArray, List.set_cons_zero, List.set_cons_succ, i64_w, i32_w]
                       rfl
                      refine pure_ (i := 6) (N := some 163) (v := ?_) (a' := ?_) #[true, true, true, true, true, true, true, false, false, false, false, false, false, false, false, false, false, false, false, false, false, false] rfl rfl (any_of HT_.out (by kernel_rfl)) (fun _ _ _ h => h) (Or.inl ⟨by rfl, ?_⟩) ?_ ?_
                      rotate_left
                      ·intro w'
                       go_simp
                       with_reducible rfl
                      rotate_left
                      ·simp only [Act.put, List.setIfInBounds_toArray, List.set_cons_zero, List.set_cons_succ, i64_w, i32_w]
                       rfl
                      refine pure_ (i := 8) (N := some 165) (v := ?_) (a' := ?_) #[true, true, true, true, true, true, true, false, true, false, false, false, false, false, false, false, false, false, false, false, false, false] rfl rfl (any_of HT_.out (by kernel_rfl)) (fun _ _ _ h => h) (Or.inl ⟨by rfl, ?_⟩) ?_ ?_
                      rotate_left
                      ·intro w'
                       go_simp
                       with_reducible rfl
                      rotate_left
                      ·simp only [Act.put, List.setIfInBounds_toArray, List.set_cons_zero, List.set_cons_succ, i64_w, i32_w]
                       rfl
                      refine pure_ (i := 11) (N := some 168) (v := ?_) (a' := ?_) #[true, true, true, true, true, true, true, false, true, false, false, true, false, false, false, false, false, false, false, false, false, false] rfl rfl (any_of HT_.out (by kernel_rfl)) (fun _ _ _ h => h) (Or.inl ⟨by rfl, ?_⟩) ?_ ?_
                      rotate_left
                      ·intro w'
                       go_simp
                       with_reducible rfl
                      rotate_left
                      ·simp only [Act.put, List.setIfInBounds_toArray, List.set_cons_zero, List.set_cons_succ, i64_w, i32_w]
                       rfl
                      refine pure_ (i := 12) (N := some 169) (v := ?_) (a' := ?_) #[true, true, true, true, true, true, true, false, true, false, false, true, true, false, false, false, false, false, false, false, false, false] rfl rfl (any_of HT_.out (by kernel_rfl)) (fun _ _ _ h => h) (Or.inl ⟨by rfl, ?_⟩) ?_ ?_
                      rotate_left
                      ·intro w'
                       go_simp
                       with_reducible rfl
                      rotate_left
                      ·simp only [Act.put, List.setIfInBounds_toArray, List.set_cons_zero, List.set_cons_succ, i64_w, i32_w]
                       rfl
                      refine pure_ (i := 13) (N := some 170) (v := ?_) (a' := ?_) #[true, true, true, true, true, true, true, false, true, false, false, true, true, true, false, false, false, false, false, false, false, false] rfl rfl (any_of HT_.out (by kernel_rfl)) (fun _ _ _ h => h) (Or.inl ⟨by rfl, ?_⟩) ?_ ?_
                      rotate_left
                      ·intro w'
                       go_simp
                       with_reducible rfl
                      rotate_left
                      ·simp only [Act.put, List.setIfInBounds_toArray, List.set_cons_zero, List.set_cons_succ, i64_w, i32_w]
                       rfl
                      refine pure_ (i := 14) (N := some 171) (v := ?_) (a' := ?_) #[true, true, true, true, true, true, true, false, true, false, false, true, true, true, true, false, false, false, false, false, false, false] rfl rfl (any_of HT_.out (by kernel_rfl)) (fun _ _ _ h => h) (Or.inl ⟨by rfl, ?_⟩) ?_ ?_
                      rotate_left
                      ·intro w'
                       go_simp
                       with_reducible rfl
                      rotate_left
                      ·simp only [Act.put, List.setIfInBounds_toArray, List.set_cons_zero, List.set_cons_succ, i64_w, i32_w]
                       rfl
                      refine pure_ (i := 16) (N := some 173) (v := ?_) (a' := ?_) #[true, true, true, true, true, true, true, false, true, false, false, true, true, true, true, false, true, false, false, false, false, false] rfl rfl (any_of HT_.out (by kernel_rfl)) (fun _ _ _ h => h) (Or.inl ⟨by rfl, ?_⟩) ?_ ?_
                      rotate_left
                      ·intro w'
                       go_simp
                       with_reducible rfl
                      rotate_left
                      ·simp only [Act.put, List.setIfInBounds_toArray, List.set_cons_zero, List.set_cons_succ, i64_w, i32_w]
                       rfl
                      refine take_ (i := 7) (N := some 164) (v := ?_) (a' := ?_) #[true, true, true, true, true, true, true, true, true, false, false, true, true, true, true, false, true, false, false, false, false, false] rfl rfl (take_ofW HT_.out HW_.out (by kernel_rfl)) (fun _ _ _ h => h) (Or.inl ⟨by rfl, ?_⟩) hHeld ?_ ?_
                      rotate_left
                      ·rintro w' ⟨s0, s1, s2, s3, s4, s5, s6, s7⟩
                       go_simp
                       with_reducible rfl
                      rotate_left
                      ·simp only [Act.put, List.setIfInBounds_toArray, List.set_cons_zero, List.set_cons_succ, i64_w, i32_w]
                       rfl
                      refine pure_ (i := 9) (N := some 166) (v := ?_) (a' := ?_) #[true, true, true, true, true, true, true, true, true, true, false, true, true, true, true, false, true, false, false, false, false, false] rfl rfl (any_of HT_.out (by kernel_rfl)) (fun _ _ _ h => h) (Or.inl ⟨by rfl, ?_⟩) ?_ ?_
                      rotate_left
                      ·intro w'
                       go_simp
                       with_reducible rfl
                      rotate_left
                      ·simp only [Act.put, List.setIfInBounds_toArray, List.set_cons_zero, List.set_cons_succ, i64_w, i32_w]
                       rfl
                      refine take_ (i := 10) (N := some 167) (v := ?_) (a' := ?_) #[true, true, true, true, true, true, true, true, true, true, true, true, true, true, true, false, true, false, false, false, false, false] rfl rfl (take_ofW HT_.out HW_.out (by kernel_rfl)) (fun _ _ _ h => h) (Or.inl ⟨by rfl, ?_⟩) hHeld ?_ ?_
                      rotate_left
                      ·rintro w' ⟨s0, s1, s2, s3, s4, s5, s6, s7⟩
                       go_simp
                       with_reducible rfl
                      rotate_left
                      ·simp only [Act.put, List.setIfInBounds_toArray, List.set_cons_zero, List.set_cons_succ, i64_w, i32_w]
                       rfl
                      refine take_ (i := 15) (N := some 172) (v := ?_) (a' := ?_) #[true, true, true, true, true, true, true, true, true, true, true, true, true, true, true, true, true, false, false, false, false, false] rfl rfl (take_ofW HT_.out HW_.out (by kernel_rfl)) (fun _ _ _ h => h) (Or.inl ⟨by rfl, ?_⟩) hHeld ?_ ?_
                      rotate_left
                      ·rintro w' ⟨s0, s1, s2, s3, s4, s5, s6, s7⟩
                       go_simp
                       with_reducible rfl
                      rotate_left
                      ·simp only [Act.put, List.setIfInBounds_toArray, List.set_cons_zero, List.set_cons_succ, i64_w, i32_w]
                       rfl
                      refine pure_ (i := 17) (N := some 174) (v := ?_) (a' := ?_) #[true, true, true, true, true, true, true, true, true, true, true, true, true, true, true, true, true, true, false, false, false, false] rfl rfl (any_of HT_.out (by kernel_rfl)) (fun _ _ _ h => h) (Or.inl ⟨by rfl, ?_⟩) ?_ ?_
                      rotate_left
                      ·intro w'
                       go_simp
                       with_reducible rfl
                      rotate_left
                      ·simp only [Act.put, List.setIfInBounds_toArray, List.set_cons_zero, List.set_cons_succ, i64_w, i32_w]
                       rfl
                      refine take_ (i := 18) (N := some 175) (v := ?_) (a' := ?_) #[true, true, true, true, true, true, true, true, true, true, true, true, true, true, true, true, true, true, true, false, false, false] rfl rfl (take_ofW HT_.out HW_.out (by kernel_rfl)) (fun _ _ _ h => h) (Or.inl ⟨by rfl, ?_⟩) hHeld ?_ ?_
                      rotate_left
                      ·rintro w' ⟨s0, s1, s2, s3, s4, s5, s6, s7⟩
                       go_simp
                       with_reducible rfl
                      rotate_left
                      ·simp only [Act.put, List.setIfInBounds_toArray, List.set_cons_zero, List.set_cons_succ, i64_w, i32_w]
                       rfl
                      refine one_ (i := 19) (N := some 176) #[true, true, true, true, true, true, true, true, true, true, true, true, true, true, true, true, true, true, true, true, false, false] rfl rfl (one_of HT_.out (by kernel_rfl)) (by decide) (fun K hK => ?_)
                      refine goes_ Try.func22 (by kernel_rfl) rfl #[.slice (some ad162) l0.length c0, .int .i64 (rd ((rd_T43 l0 t146).f1) x16_4), .int .i64 (rd ((rd_T43 l0 t147).f1) x16_4)] (by rfl) rfl rfl (by (try simp only [List.map_toArray, List.map_cons, List.map_nil]); first | done | rfl | (simp only [List.length_drop, List.length_take]; rfl)) ?_
                      with_reducible refine (kinds_Same.calls k4 _ _ l0 (rd ((rd_T43 l0 t146).f1) x16_4) (rd ((rd_T43 l0 t147).f1) x16_4) t167 _ ?side1 ?side2 A70.out).mono ?_
                      (case side1 => repeat (first | exact (Kd.C_below HR0.out HB.out) | (with_reducible refine Kd.C_alloc ?_ _) | (with_reducible refine Kd.C_drewN ?_ _) | (with_reducible refine Kd.C_drew ?_)))
                      (case side2 => exact HC0.out)
                      rintro e w72 ⟨rfl, hb⟩
                      refine ⟨_, rfl, ?_⟩
                      have n0_ := Aside0.mk (below_step (by repeat (first | (with_reducible first | exact HB.out | apply below_alloc | apply pw_below_drewN | apply below_drew1) | exact HB.out)) hb)
                      clear HB
                      have HB := n0_
                      clear n0_
                      (try clear hb)
                      (try clear hb2)
                      (try clear hk)
                      (try clear hi)
                      refine hK.out _ _ ⟨((HB.out.cell (World.block_lt_of_cell? w _ hw163_0)).trans hw163_0), ((HB.out.cell (World.block_lt_of_cell? w _ hw163_1)).trans hw163_1), ((HB.out.cell (World.block_lt_of_cell? w _ hw163_2)).trans hw163_2), ((HB.out.cell (World.block_lt_of_cell? w _ hw164_0)).trans hw164_0), ((HB.out.cell (World.block_lt_of_cell? w _ hw165_0)).trans hw165_0), ((HB.out.cell (World.block_lt_of_cell? w _ hw165_1)).trans hw165_1), ((HB.out.cell (World.block_lt_of_cell? w _ hw165_2)).trans hw165_2), ((HB.out.cell (World.block_lt_of_cell? w _ hw166_0)).trans hw166_0)⟩ (fun hHeld => ?_)
                      clear hK K
                      refine norm_ (a' := ?_) ?_ ?_
                      rotate_left
                      ·show Act.put _ (some 176) _ = _
                       simp only [Act.put, List.setIfInBounds_toArray, List.set_cons_zero, List.set_cons_succ, i64_w, i32_w]
                       rfl
                      refine pure_ (i := 20) (N := some 177) (v := ?_) (a' := ?_) #[true, true, true, true, true, true, true, true, true, true, true, true, true, true, true, true, true, true, true, true, true, false] rfl rfl (any_of HT_.out (by kernel_rfl)) (fun _ _ _ h => h) (Or.inl ⟨by rfl, ?_⟩) ?_ ?_
                      rotate_left
                      ·intro w'
                       go_simp
                       with_reducible rfl
                      rotate_left
                      ·simp only [Act.put, List.setIfInBounds_toArray, List.set_cons_zero, List.set_cons_succ, i64_w, i32_w]
                       rfl
                      refine pure_ (i := 21) (N := some 15) (v := ?_) (a' := ?_) #[true, true, true, true, true, true, true, true, true, true, true, true, true, true, true, true, true, true, true, true, true, true] rfl rfl (any_of HT_.out (by kernel_rfl)) (fun _ _ _ h => h) (Or.inl ⟨by rfl, ?_⟩) ?_ ?_
                      rotate_left
                      ·intro w'
                       go_simp
                       with_reducible rfl
                      rotate_left
                      ·simp only [Act.put, List.setIfInBounds_toArray, List.set_cons_zero, List.set_cons_succ, i64_w, i32_w]
                       rfl
                      refine done_ (done_of HT_.out (by kernel_rfl)) ?_
                      try go_wp2
                      go_roundg k4
                      case measure => have := HJ4.out; have := HJ23.out; have := HJ49.out; have := HK4.out; omega
                      case rel => exact ⟨(t167), (wrap64 (x16_4 + 1)), (by first | rfl | (simp; done) | (simp [*]; done)), (by first | rfl | (simp; done) | (simp [*]; done)), H', ⟨by have := HJ4.out; have := HJ23.out; have := HJ49.out; have := HK4.out; omega⟩, ⟨by repeat (first | (with_reducible first | exact HB.out | apply below_alloc | apply pw_below_drewN | apply below_drew1) | exact HB.out)⟩⟩
                     ·rw [if_neg c69] at H
                      exact absurd H (by simp)
                    ·rw [if_neg c68] at H
                     exact absurd H (by simp)
                   ·rw [if_neg c67] at H
                    exact absurd H (by simp)
                  ·rw [if_neg c66] at H
                   exact absurd H (by simp)
                 ·replace c65 := Bool.eq_false_iff.mpr c65
                  subst c65
                  have H1 : (squintlaw04_KindsLaws.l0 k4 l0 t146 t147 t148 (l0.length : Int) t151 t152 t153 true false (wrap64 (x16_4 + 1))) = some r := by rw [if_neg (show ¬ (false = true) by decide)] at H; exact H
                  clear H
                  have H := H1
                  clear H1
                  have H' := Aside0.mk H
                  clear H
                  have p162 : 0 ≤ (t146 : Int) := of_decide_eq_true (by first | (with_reducible assumption) | assumption)
                  have q162 : t146 < (l0.length : Int) := of_decide_eq_true (by first | (with_reducible assumption) | assumption)
                  obtain ⟨ad162, A162_1, c162_1, e162, hx162_0, hx162_1, hx162_2, hl162_1, hi162_1⟩ := at_T43 HR0.out t146 p162 q162
                  cases e162
                  replace hx162_0 := (HB.out.cell (World.block_lt_of_cell? w _ hx162_0)).trans hx162_0
                  replace hx162_1 := (HB.out.cell (World.block_lt_of_cell? w _ hx162_1)).trans hx162_1
                  replace hx162_2 := (HB.out.cell (World.block_lt_of_cell? w _ hx162_2)).trans hx162_2
                  have HR162_1 := Aside0.mk hi162_1
                  have HC162_1 := Aside0.mk hl162_1
                  clear hi162_1 hl162_1
                  replace p162 := eq_true p162
                  replace q162 := eq_true q162
                  try go_wp2
                  have n0_ := Aside0.mk (below_drew1 HB.out)
                  clear HB
                  have HB := n0_
                  clear n0_
                  refine start_ (n := 22) (S := fun w' => True) (ds := []) #[false, false, false, false, false, false, false, false, false, false, false, false, false, false, false, false, false, false, false, false, false, false] (by kernel_rfl) rfl rfl trivial (fun hHeld => ?_); refine with_tabW squintlaw04_KindsLaws.tab20 squintlaw04_KindsLaws.bits20 (fun HT_ HW_ => ?_)
                  generalize wr.drew = w73 at HB hHeld ⊢
                  refine pure_ (i := 0) (N := some 157) (v := ?_) (a' := ?_) #[true, false, false, false, false, false, false, false, false, false, false, false, false, false, false, false, false, false, false, false, false, false] rfl rfl (any_of HT_.out (by kernel_rfl)) (fun _ _ _ h => h) (Or.inl ⟨by rfl, ?_⟩) ?_ ?_
                  rotate_left
                  ·intro w'
                   go_simp
                   with_reducible rfl
                  rotate_left
                  ·simp only [Act.put, List.setIfInBounds_toArray, List.set_cons_zero, List.set_cons_succ, i64_w, i32_w]
                   rfl
                  refine pure_ (i := 1) (N := some 158) (v := ?_) (a' := ?_) #[true, true, false, false, false, false, false, false, false, false, false, false, false, false, false, false, false, false, false, false, false, false] rfl rfl (any_of HT_.out (by kernel_rfl)) (fun _ _ _ h => h) (Or.inl ⟨by rfl, ?_⟩) ?_ ?_
                  rotate_left
                  ·intro w'
                   go_simp
                   with_reducible rfl
                  rotate_left
                  ·simp only [Act.put, List.setIfInBounds_toArray, List.set_cons_zero, List.set_cons_succ, i64_w, i32_w]
                   rfl
                  refine pure_ (i := 2) (N := some 159) (v := undef) (a' := ?_) #[true, true, true, false, false, false, false, false, false, false, false, false, false, false, false, false, false, false, false, false, false, false] rfl rfl (any_of HT_.out (by kernel_rfl)) (fun _ _ _ h => h) (Or.inr ⟨by rfl, rfl⟩) ?_ ?_
                  rotate_left
                  ·simp only [Act.put, List.setIfInBounds_toArray, List.set_cons_zero, List.set_cons_succ, i64_w, i32_w]
                   rfl
                  refine pure_ (i := 3) (N := some 160) (v := undef) (a' := ?_) #[true, true, true, true, false, false, false, false, false, false, false, false, false, false, false, false, false, false, false, false, false, false] rfl rfl (any_of HT_.out (by kernel_rfl)) (fun _ _ _ h => h) (Or.inr ⟨by rfl, rfl⟩) ?_ ?_
                  rotate_left
                  ·simp only [Act.put, List.setIfInBounds_toArray, List.set_cons_zero, List.set_cons_succ, i64_w, i32_w]
                   rfl
                  refine pure_ (i := 4) (N := some 161) (v := undef) (a' := ?_) #[true, true, true, true, true, false, false, false, false, false, false, false, false, false, false, false, false, false, false, false, false, false] rfl rfl (any_of HT_.out (by kernel_rfl)) (fun _ _ _ h => h) (Or.inr ⟨by rfl, rfl⟩) ?_ ?_
                  rotate_left
                  ·simp only [Act.put, List.setIfInBounds_toArray, List.set_cons_zero, List.set_cons_succ, i64_w, i32_w]
                   rfl
                  refine pure_ (i := 5) (N := some 162) (v := undef) (a' := ?_) #[true, true, true, true, true, true, false, false, false, false, false, false, false, false, false, false, false, false, false, false, false, false] rfl rfl (any_of HT_.out (by kernel_rfl)) (fun _ _ _ h => h) (Or.inr ⟨by rfl, rfl⟩) ?_ ?_
                  rotate_left
                  ·simp only [Act.put, List.setIfInBounds_toArray, List.set_cons_zero, List.set_cons_succ, i64_w, i32_w]
                   rfl
                  refine pure_ (i := 6) (N := some 163) (v := undef) (a' := ?_) #[true, true, true, true, true, true, true, false, false, false, false, false, false, false, false, false, false, false, false, false, false, false] rfl rfl (any_of HT_.out (by kernel_rfl)) (fun _ _ _ h => h) (Or.inr ⟨by rfl, rfl⟩) ?_ ?_
                  rotate_left
                  ·simp only [Act.put, List.setIfInBounds_toArray, List.set_cons_zero, List.set_cons_succ, i64_w, i32_w]
                   rfl
                  refine pure_ (i := 7) (N := some 164) (v := undef) (a' := ?_) #[true, true, true, true, true, true, true, true, false, false, false, false, false, false, false, false, false, false, false, false, false, false] rfl rfl (any_of HT_.out (by kernel_rfl)) (fun _ _ _ h => h) (Or.inr ⟨by rfl, rfl⟩) ?_ ?_
                  rotate_left
                  ·simp only [Act.put, List.setIfInBounds_toArray, List.set_cons_zero, List.set_cons_succ, i64_w, i32_w]
                   rfl
                  refine pure_ (i := 8) (N := some 165) (v := undef) (a' := ?_) #[true, true, true, true, true, true, true, true, true, false, false, false, false, false, false, false, false, false, false, false, false, false] rfl rfl (any_of HT_.out (by kernel_rfl)) (fun _ _ _ h => h) (Or.inr ⟨by rfl, rfl⟩) ?_ ?_
                  rotate_left
                  ·simp only [Act.put, List.setIfInBounds_toArray, List.set_cons_zero, List.set_cons_succ, i64_w, i32_w]
                   rfl
                  refine pure_ (i := 9) (N := some 166) (v := undef) (a' := ?_) #[true, true, true, true, true, true, true, true, true, true, false, false, false, false, false, false, false, false, false, false, false, false] rfl rfl (any_of HT_.out (by kernel_rfl)) (fun _ _ _ h => h) (Or.inr ⟨by rfl, rfl⟩) ?_ ?_
                  rotate_left
                  ·simp only [Act.put, List.setIfInBounds_toArray, List.set_cons_zero, List.set_cons_succ, i64_w, i32_w]
                   rfl
                  refine pure_ (i := 10) (N := some 167) (v := undef) (a' := ?_) #[true, true, true, true, true, true, true, true, true, true, true, false, false, false, false, false, false, false, false, false, false, false] rfl rfl (any_of HT_.out (by kernel_rfl)) (fun _ _ _ h => h) (Or.inr ⟨by rfl, rfl⟩) ?_ ?_
                  rotate_left
                  ·simp only [Act.put, List.setIfInBounds_toArray, List.set_cons_zero, List.set_cons_succ, i64_w, i32_w]
                   rfl
                  refine pure_ (i := 11) (N := some 168) (v := undef) (a' := ?_) #[true, true, true, true, true, true, true, true, true, true, true, true, false, false, false, false, false, false, false, false, false, false] rfl rfl (any_of HT_.out (by kernel_rfl)) (fun _ _ _ h => h) (Or.inr ⟨by rfl, rfl⟩) ?_ ?_
                  rotate_left
                  ·simp only [Act.put, List.setIfInBounds_toArray, List.set_cons_zero, List.set_cons_succ, i64_w, i32_w]
                   rfl
                  refine pure_ (i := 12) (N := some 169) (v := undef) (a' := ?_) #[true, true, true, true, true, true, true, true, true, true, true, true, true, false, false, false, false, false, false, false, false, false] rfl rfl (any_of HT_.out (by kernel_rfl)) (fun _ _ _ h => h) (Or.inr ⟨by rfl, rfl⟩) ?_ ?_
                  rotate_left
                  ·simp only [Act.put, List.setIfInBounds_toArray, List.set_cons_zero, List.set_cons_succ, i64_w, i32_w]
                   rfl
                  refine pure_ (i := 13) (N := some 170) (v := undef) (a' := ?_) #[true, true, true, true, true, true, true, true, true, true, true, true, true, true, false, false, false, false, false, false, false, false] rfl rfl (any_of HT_.out (by kernel_rfl)) (fun _ _ _ h => h) (Or.inr ⟨by rfl, rfl⟩) ?_ ?_
                  rotate_left
                  ·simp only [Act.put, List.setIfInBounds_toArray, List.set_cons_zero, List.set_cons_succ, i64_w, i32_w]
                   rfl
                  refine pure_ (i := 14) (N := some 171) (v := undef) (a' := ?_) #[true, true, true, true, true, true, true, true, true, true, true, true, true, true, true, false, false, false, false, false, false, false] rfl rfl (any_of HT_.out (by kernel_rfl)) (fun _ _ _ h => h) (Or.inr ⟨by rfl, rfl⟩) ?_ ?_
                  rotate_left
                  ·simp only [Act.put, List.setIfInBounds_toArray, List.set_cons_zero, List.set_cons_succ, i64_w, i32_w]
                   rfl
                  refine pure_ (i := 15) (N := some 172) (v := undef) (a' := ?_) #[true, true, true, true, true, true, true, true, true, true, true, true, true, true, true, true, false, false, false, false, false, false] rfl rfl (any_of HT_.out (by kernel_rfl)) (fun _ _ _ h => h) (Or.inr ⟨by rfl, rfl⟩) ?_ ?_
                  rotate_left
                  ·simp only [Act.put, List.setIfInBounds_toArray, List.set_cons_zero, List.set_cons_succ, i64_w, i32_w]
                   rfl
                  refine pure_ (i := 16) (N := some 173) (v := undef) (a' := ?_) #[true, true, true, true, true, true, true, true, true, true, true, true, true, true, true, true, true, false, false, false, false, false] rfl rfl (any_of HT_.out (by kernel_rfl)) (fun _ _ _ h => h) (Or.inr ⟨by rfl, rfl⟩) ?_ ?_
                  rotate_left
                  ·simp only [Act.put, List.setIfInBounds_toArray, List.set_cons_zero, List.set_cons_succ, i64_w, i32_w]
                   rfl
                  refine pure_ (i := 17) (N := some 174) (v := undef) (a' := ?_) #[true, true, true, true, true, true, true, true, true, true, true, true, true, true, true, true, true, true, false, false, false, false] rfl rfl (any_of HT_.out (by kernel_rfl)) (fun _ _ _ h => h) (Or.inr ⟨by rfl, rfl⟩) ?_ ?_
                  rotate_left
                  ·simp only [Act.put, List.setIfInBounds_toArray, List.set_cons_zero, List.set_cons_succ, i64_w, i32_w]
                   rfl
                  refine pure_ (i := 18) (N := some 175) (v := undef) (a' := ?_) #[true, true, true, true, true, true, true, true, true, true, true, true, true, true, true, true, true, true, true, false, false, false] rfl rfl (any_of HT_.out (by kernel_rfl)) (fun _ _ _ h => h) (Or.inr ⟨by rfl, rfl⟩) ?_ ?_
                  rotate_left
                  ·simp only [Act.put, List.setIfInBounds_toArray, List.set_cons_zero, List.set_cons_succ, i64_w, i32_w]
                   rfl
                  refine pure_ (i := 19) (N := some 176) (v := undef) (a' := ?_) #[true, true, true, true, true, true, true, true, true, true, true, true, true, true, true, true, true, true, true, true, false, false] rfl rfl (any_of HT_.out (by kernel_rfl)) (fun _ _ _ h => h) (Or.inr ⟨by rfl, rfl⟩) ?_ ?_
                  rotate_left
                  ·simp only [Act.put, List.setIfInBounds_toArray, List.set_cons_zero, List.set_cons_succ, i64_w, i32_w]
                   rfl
                  refine pure_ (i := 20) (N := some 177) (v := ?_) (a' := ?_) #[true, true, true, true, true, true, true, true, true, true, true, true, true, true, true, true, true, true, true, true, true, false] rfl rfl (any_of HT_.out (by kernel_rfl)) (fun _ _ _ h => h) (Or.inl ⟨by rfl, ?_⟩) ?_ ?_
                  rotate_left
                  ·intro w'
                   go_simp
                   with_reducible rfl
                  rotate_left
                  ·simp only [Act.put, List.setIfInBounds_toArray, List.set_cons_zero, List.set_cons_succ, i64_w, i32_w]
                   rfl
                  refine pure_ (i := 21) (N := some 15) (v := ?_) (a' := ?_) #[true, true, true, true, true, true, true, true, true, true, true, true, true, true, true, true, true, true, true, true, true, true] rfl rfl (any_of HT_.out (by kernel_rfl)) (fun _ _ _ h => h) (Or.inl ⟨by rfl, ?_⟩) ?_ ?_
                  rotate_left
                  ·intro w'
                   go_simp
                   with_reducible rfl
                  rotate_left
                  ·simp only [Act.put, List.setIfInBounds_toArray, List.set_cons_zero, List.set_cons_succ, i64_w, i32_w]
                   rfl
                  refine done_ (done_of HT_.out (by kernel_rfl)) ?_
                  try go_wp2
                  go_roundg k4
                  case measure => have := HJ4.out; have := HJ23.out; have := HJ49.out; have := HK4.out; omega
                  case rel => exact ⟨(false), (wrap64 (x16_4 + 1)), (by first | rfl | (simp; done) | (simp [*]; done)), (by first | rfl | (simp; done) | (simp [*]; done)), H', ⟨by have := HJ4.out; have := HJ23.out; have := HJ49.out; have := HK4.out; omega⟩, ⟨by repeat (first | (with_reducible first | exact HB.out | apply below_alloc | apply pw_below_drewN | apply below_drew1) | exact HB.out)⟩⟩
                ·rw [if_neg c64] at H
                 have c64b0 : decide (x16_4 < (((rd_T43 l0 t146).f1).length : Int)) = false := decide_eq_false c64
                 clear c64
                 have H' := Aside0.mk H
                 clear H
                 have p162 : 0 ≤ (t146 : Int) := of_decide_eq_true (by first | (with_reducible assumption) | assumption)
                 have q162 : t146 < (l0.length : Int) := of_decide_eq_true (by first | (with_reducible assumption) | assumption)
                 obtain ⟨ad162, A162_1, c162_1, e162, hx162_0, hx162_1, hx162_2, hl162_1, hi162_1⟩ := at_T43 HR0.out t146 p162 q162
                 cases e162
                 replace hx162_0 := (HB.out.cell (World.block_lt_of_cell? w _ hx162_0)).trans hx162_0
                 replace hx162_1 := (HB.out.cell (World.block_lt_of_cell? w _ hx162_1)).trans hx162_1
                 replace hx162_2 := (HB.out.cell (World.block_lt_of_cell? w _ hx162_2)).trans hx162_2
                 have HR162_1 := Aside0.mk hi162_1
                 have HC162_1 := Aside0.mk hl162_1
                 clear hi162_1 hl162_1
                 replace p162 := eq_true p162
                 replace q162 := eq_true q162
                 go_wp2
                 go_meet
                 case rel => exact ⟨_, (x15_4), (by first | rfl | (simp; done) | (simp [*]; done)), H', ⟨by have := HJ4.out; have := HJ23.out; have := HJ49.out; have := HK4.out; first | omega | exact Nat.le_refl _⟩, ⟨by repeat (first | (with_reducible first | exact HB.out | apply below_alloc | apply pw_below_drewN | apply below_drew1) | exact HB.out)⟩⟩
               ·rw [if_neg c63] at H
                exact absurd H (by simp)
              ·rw [if_neg c62] at H
               exact absurd H (by simp)
             ·replace c61 := Bool.eq_false_iff.mpr c61
              subst c61
              have H1 : (squintlaw04_KindsLaws.j4 k4 l0 t146 t147 t148 (l0.length : Int) t151 t152 t153 x15_4) = some r := by rw [if_neg (show ¬ (false = true) by decide)] at H; exact H
              clear H
              have H := H1
              clear H1
              have H' := Aside0.mk H
              clear H
              go_wp2
              go_meet
              case rel => exact ⟨_, (x15_4), (by first | rfl | (simp; done) | (simp [*]; done)), H', ⟨by have := HJ4.out; have := HJ23.out; have := HJ49.out; have := HK4.out; first | omega | exact Nat.le_refl _⟩, ⟨by repeat (first | (with_reducible first | exact HB.out | apply below_alloc | apply pw_below_drewN | apply below_drew1) | exact HB.out)⟩⟩
          case rest => as_aux_lemma =>
           clear HC60
           try clear c1
           try clear p1
           try clear q1
           try clear hx1
           try clear c2
           try clear p2
           try clear c5
           try clear c6
           try clear p6
           try clear c15
           try clear p15
           try clear q15
           try clear hx15
           try clear c16
           try clear p16
           try clear q16
           try clear hx16
           try clear c22
           try clear c51
           try clear c52
           try clear c53
           try clear c54
           try clear c55
           try clear c55b0
           try clear c55b1
           try clear c61
           try clear c62
           try clear c62b0
           try clear c63
           try clear c63b0
           try clear c64
           try clear c64b0
           try clear p64
           try clear c65
           try clear c66
           try clear c66b0
           try clear c67
           try clear c67b0
           try clear c68
           try clear c68b0
           try clear c69
           try clear c69b0
           try clear hx156_0
           try clear hx156_1
           try clear hx156_2
           try clear hx157_0
           try clear hx157_1
           try clear hx157_2
           try clear hx158_0
           try clear hx158_1
           try clear hx158_2
           try clear hx159_0
           try clear hx159_1
           try clear hx159_2
           try clear hx162_0
           try clear hx162_1
           try clear hx162_2
           try clear hx163_0
           try clear hx163_1
           try clear hx163_2
           try clear hx164_0
           try clear hx165_0
           try clear hx165_1
           try clear hx165_2
           try clear hx166_0
           try clear p1
           try clear p15
           try clear p156
           try clear p157
           try clear p158
           try clear p159
           try clear p162
           try clear p163
           try clear p164
           try clear p165
           try clear p166
           try clear p2
           try clear q1
           try clear q15
           try clear q156
           try clear q157
           try clear q158
           try clear q159
           try clear q162
           try clear q163
           try clear q164
           try clear q165
           try clear q166
           obtain ⟨kq, x15_59, rfl, HA, HJ59, HB⟩ := hcut
           cases kq with
           | zero => exact absurd HA.out (by simp [squintlaw04_KindsLaws.j4])
           | succ kj59 =>
            have H := HA.out
            clear HA
            simp only [squintlaw04_KindsLaws.j4] at H
            by_cases c74 : (t151 != x15_59) = true
            ·rw [if_pos c74] at H
             have c74b0 : (t151 != x15_59) = true := c74
             (try (have c74b1 : decide (t151 = x15_59) = false := by simpa using c74))
             (try (have c74b2 : (t151 == x15_59) = false := by simpa using c74))
             (try (have c74b3 : ¬ (t151 = x15_59) := by simpa using c74))
             clear c74
             obtain rfl := Option.some.inj H
             go_wp2
             go_ret
             exact ⟨by first | rfl | (simp [errW_none, errW_some] <;> rfl) | (simp [*, errW_none, errW_some] <;> rfl), by repeat (first | (with_reducible first | exact HB.out | apply below_alloc | apply pw_below_drewN | apply below_drew1) | exact HB.out)⟩
            ·rw [if_neg c74] at H
             have c74b0 : (t151 != x15_59) = false := by simpa using c74
             (try (have c74b1 : decide (t151 = x15_59) = true := by simpa using c74))
             (try (have c74b2 : (t151 == x15_59) = true := by simpa using c74))
             clear c74
             by_cases c75 : t151 = true
             ·subst c75
              have H1 : ((squintlaw04_ownRows.f kj59 l0).bind fun t168 => (squintlaw04_KindsLaws.l1 kj59 t146 t147 t148 (l0.length : Int) t152 t153 t168 0)) = some r := by rw [if_pos rfl] at H; exact H
              clear H
              have H := H1
              clear H1
              replace H := Option.bind_eq_some_iff.mp H
              obtain ⟨t168, A760, H⟩ := H
              replace H : (squintlaw04_KindsLaws.l1 kj59 t146 t147 t148 (l0.length : Int) t152 t153 t168 0) = some r := H
              have A76 := Aside0.mk A760
              clear A760
              have H' := Aside0.mk H
              clear H
              go_wp2_with (first | ((with_reducible refine gate_callee (f := 18) rfl ?_); refine goesL_ (some 184) rfl rfl Try.func18 (by kernel_rfl) rfl #[.slice A0 l0.length c0] rfl (by (try simp only [List.map_toArray, List.map_cons, List.map_nil]); first | done | rfl | (simp only [List.length_drop, List.length_take]; rfl)) ?_; (with_reducible refine (squintlaw04_ownRows.calls kj59 _ _ l0 t168 _ ?side1 ?side2 A76.out).mono ?_); (case side1 => repeat (first | exact (Kd.C_below HR0.out HB.out) | (with_reducible refine Kd.C_alloc ?_ _) | (with_reducible refine Kd.C_drewN ?_ _) | (with_reducible refine Kd.C_drew ?_))); (case side2 => exact HC0.out); rintro e w77 ⟨v169, rfl, ho0, hb⟩; refine ⟨_, rfl, ?_⟩; have n0_ := Aside0.mk (Kd.S_lower ho0 (below_size (by repeat (first | (with_reducible first | exact HB.out | apply below_alloc | apply pw_below_drewN | apply below_drew1) | exact HB.out)))); have n1_ := Aside0.mk (below_step (by repeat (first | (with_reducible first | exact HB.out | apply below_alloc | apply pw_below_drewN | apply below_drew1) | exact HB.out)) hb); clear HB; have HO170 := n0_; have HB := n1_; clear n0_ n1_; (try clear hb); (try clear hb2); (try clear hk); (try clear hi); (try clear ho0)))
              go_loopg [18] kj59 (fun kq v18 w' => ∃ (x17_5 : List (S43)) (x18_5 : Int), v18 = .int .i64 x18_5 ∧ Aside0 (squintlaw04_KindsLaws.l1 kq t146 t147 t148 (l0.length : Int) t152 t153 x17_5 x18_5 = some r) ∧ Aside0 (kq ≤ kj59) ∧ Aside0 (Kd.S k43 43 w' w.heap.size (fun _ => True) v169 x17_5) ∧ Aside0 (Below w.heap.size w w'))
              case atStart => exact ⟨(t168), (0), (by first | rfl | (simp; done) | (simp [*]; done)), H', ⟨Nat.le_refl _⟩, ⟨by (with_reducible repeat (first | apply Kd.S_alloc | apply Kd.S_drewN | apply Kd.S_drew)); exact HO170.out⟩, ⟨by repeat (first | (with_reducible first | exact HB.out | apply below_alloc | apply pw_below_drewN | apply below_drew1) | exact HB.out)⟩⟩
              case round => as_aux_lemma =>
               clear H'
               try clear c1
               try clear p1
               try clear q1
               try clear hx1
               try clear c2
               try clear p2
               try clear c5
               try clear c6
               try clear p6
               try clear c7
               try clear c15
               try clear p15
               try clear q15
               try clear hx15
               try clear c16
               try clear p16
               try clear q16
               try clear hx16
               try clear c18
               try clear c22
               try clear c51
               try clear c52
               try clear c53
               try clear c54
               try clear c55
               try clear c55b0
               try clear c55b1
               try clear c61
               try clear c62
               try clear c62b0
               try clear c63
               try clear c63b0
               try clear c64
               try clear c64b0
               try clear p64
               try clear c65
               try clear c66
               try clear c66b0
               try clear c67
               try clear c67b0
               try clear c68
               try clear c68b0
               try clear c69
               try clear c69b0
               try clear c74
               try clear c74b0
               try clear c74b1
               try clear c74b2
               try clear c75
               try clear hx156_0
               try clear hx156_1
               try clear hx156_2
               try clear hx157_0
               try clear hx157_1
               try clear hx157_2
               try clear hx158_0
               try clear hx158_1
               try clear hx158_2
               try clear hx159_0
               try clear hx159_1
               try clear hx159_2
               try clear hx162_0
               try clear hx162_1
               try clear hx162_2
               try clear hx163_0
               try clear hx163_1
               try clear hx163_2
               try clear hx164_0
               try clear hx165_0
               try clear hx165_1
               try clear hx165_2
               try clear hx166_0
               try clear p1
               try clear p15
               try clear p156
               try clear p157
               try clear p158
               try clear p159
               try clear p16
               try clear p162
               try clear p163
               try clear p164
               try clear p165
               try clear p166
               try clear p2
               try clear p6
               try clear p64
               try clear q1
               try clear q15
               try clear q156
               try clear q157
               try clear q158
               try clear q159
               try clear q16
               try clear q162
               try clear q163
               try clear q164
               try clear q165
               try clear q166
               obtain ⟨x17_5, x18_5, rfl, HA, HK5, HO_17, HB⟩ := hrel
               cases gk with
               | zero => exact absurd HA.out (by simp [squintlaw04_KindsLaws.l1])
               | succ k5 =>
                have H := HA.out
                clear HA
                simp only [squintlaw04_KindsLaws.l1] at H
                by_cases c78 : x18_5 < (l0.length : Int)
                ·rw [if_pos c78] at H
                 have c78b0 : decide (x18_5 < (l0.length : Int)) = true := decide_eq_true c78
                 clear c78
                 have H' := Aside0.mk H
                 clear H
                 go_wp2
                 go_loopg [19] k5 (fun kq v19 w' => ∃ (x17_6 : List (S43)) (x19_6 : Int), v19 = .int .i64 x19_6 ∧ Aside0 (squintlaw04_KindsLaws.l2 kq t146 t147 t148 (l0.length : Int) t152 t153 x17_6 x18_5 x19_6 = some r) ∧ Aside0 (kq ≤ k5) ∧ Aside0 (Kd.S k43 43 w' w.heap.size (fun _ => True) v169 x17_6) ∧ Aside0 (Below w.heap.size w w'))
                 case atStart => exact ⟨(x17_5), (0), (by first | rfl | (simp; done) | (simp [*]; done)), H', ⟨Nat.le_refl _⟩, ⟨by (with_reducible repeat (first | apply Kd.S_alloc | apply Kd.S_drewN | apply Kd.S_drew)); exact HO_17.out⟩, ⟨by repeat (first | (with_reducible first | exact HB.out | apply below_alloc | apply pw_below_drewN | apply below_drew1) | exact HB.out)⟩⟩
                 case round => as_aux_lemma =>
                  clear H'
                  try clear c1
                  try clear p1
                  try clear q1
                  try clear hx1
                  try clear c2
                  try clear p2
                  try clear c5
                  try clear c6
                  try clear p6
                  try clear c7
                  try clear c15
                  try clear p15
                  try clear q15
                  try clear hx15
                  try clear c16
                  try clear p16
                  try clear q16
                  try clear hx16
                  try clear c18
                  try clear c22
                  try clear c51
                  try clear c52
                  try clear c53
                  try clear c54
                  try clear c55
                  try clear c55b0
                  try clear c55b1
                  try clear c61
                  try clear c62
                  try clear c62b0
                  try clear c63
                  try clear c63b0
                  try clear c64
                  try clear c64b0
                  try clear p64
                  try clear c65
                  try clear c66
                  try clear c66b0
                  try clear c67
                  try clear c67b0
                  try clear c68
                  try clear c68b0
                  try clear c69
                  try clear c69b0
                  try clear c74
                  try clear c74b0
                  try clear c74b1
                  try clear c74b2
                  try clear c75
                  try clear c78
                  try clear c78b0
                  try clear hx156_0
                  try clear hx156_1
                  try clear hx156_2
                  try clear hx157_0
                  try clear hx157_1
                  try clear hx157_2
                  try clear hx158_0
                  try clear hx158_1
                  try clear hx158_2
                  try clear hx159_0
                  try clear hx159_1
                  try clear hx159_2
                  try clear hx162_0
                  try clear hx162_1
                  try clear hx162_2
                  try clear hx163_0
                  try clear hx163_1
                  try clear hx163_2
                  try clear hx164_0
                  try clear hx165_0
                  try clear hx165_1
                  try clear hx165_2
                  try clear hx166_0
                  try clear p1
                  try clear p15
                  try clear p156
                  try clear p157
                  try clear p158
                  try clear p159
                  try clear p16
                  try clear p162
                  try clear p163
                  try clear p164
                  try clear p165
                  try clear p166
                  try clear p2
                  try clear p6
                  try clear p64
                  try clear q1
                  try clear q15
                  try clear q156
                  try clear q157
                  try clear q158
                  try clear q159
                  try clear q16
                  try clear q162
                  try clear q163
                  try clear q164
                  try clear q165
                  try clear q166
                  obtain ⟨x17_6, x19_6, rfl, HA, HK6, HO_17, HB⟩ := hrel
                  cases gk with
                  | zero => exact absurd HA.out (by simp [squintlaw04_KindsLaws.l2])
                  | succ k6 =>
                   have H := HA.out
                   clear HA
                   simp only [squintlaw04_KindsLaws.l2] at H
                   by_cases c79 : 0 ≤ x18_5
                   ·rw [if_pos c79] at H
                    have c79b0 : decide (0 ≤ x18_5) = true := decide_eq_true c79
                    clear c79
                    by_cases c80 : x18_5 < (x17_6.length : Int)
                    ·rw [if_pos c80] at H
                     have c80b0 : decide (x18_5 < (x17_6.length : Int)) = true := decide_eq_true c80
                     clear c80
                     by_cases c81 : x19_6 < (((rd_T43 x17_6 x18_5).f1).length : Int)
                     ·rw [if_pos c81] at H
                      have c81b0 : decide (x19_6 < (((rd_T43 x17_6 x18_5).f1).length : Int)) = true := decide_eq_true c81
                      clear c81
                      by_cases c82 : 0 ≤ x19_6
                      ·rw [if_pos c82] at H
                       have c82b0 : decide (0 ≤ x19_6) = true := decide_eq_true c82
                       clear c82
                       by_cases c83 : (rd ((rd_T43 x17_6 x18_5).f1) x19_6) = t146
                       ·rw [if_pos c83] at H
                        have c83b0 : ((rd ((rd_T43 x17_6 x18_5).f1) x19_6) == t146) = true := beq_iff_eq.mpr c83
                        have c83b1 : ((rd ((rd_T43 x17_6 x18_5).f1) x19_6) != t146) = false := bne_eq_false_iff_eq.mpr c83
                        clear c83
                        by_cases c84 : (Int.tmod (wrap64 (x18_5 + x19_6)) 2) = 0
                        ·rw [if_pos c84] at H
                         have c84b0 : ((Int.tmod (wrap64 (x18_5 + x19_6)) 2) == 0) = true := beq_iff_eq.mpr c84
                         have c84b1 : ((Int.tmod (wrap64 (x18_5 + x19_6)) 2) != 0) = false := bne_eq_false_iff_eq.mpr c84
                         clear c84
                         obtain ⟨y178, hy178⟩ : ∃ y_ : List Int, y_ = (((rd_T43 x17_6 x18_5).f1).set (x19_6 : Int).toNat t147) := ⟨_, rfl⟩
                         replace H : (squintlaw04_KindsLaws.l2 k6 t146 t147 t148 (l0.length : Int) t152 t153 (x17_6.set (x18_5 : Int).toNat (⟨(rd_T43 x17_6 x18_5).f0, y178, (rd_T43 x17_6 x18_5).f2⟩ : S43)) x18_5 (wrap64 (x19_6 + 1))) = some r := by first | (rw [hy178]; with_reducible exact H) | (have H2_ := (Option.bind_some _ _).symm.trans H; rw [hy178]; with_reducible exact H2_) | (have H2_ := (Option.bind_some _ _).symm.trans H; with_reducible exact H2_) | with_reducible exact H | (rw [hy178]; exact H) | exact H
                         have Ny178 := Aside0.mk hy178
                         clear hy178
                         obtain ⟨y180, hy180⟩ : ∃ y_ : List (S43), y_ = (x17_6.set (x18_5 : Int).toNat (⟨(rd_T43 x17_6 x18_5).f0, y178, (rd_T43 x17_6 x18_5).f2⟩ : S43)) := ⟨_, rfl⟩
                         replace H : (squintlaw04_KindsLaws.l2 k6 t146 t147 t148 (l0.length : Int) t152 t153 y180 x18_5 (wrap64 (x19_6 + 1))) = some r := by first | (rw [hy180]; with_reducible exact H) | (have H2_ := (Option.bind_some _ _).symm.trans H; rw [hy180]; with_reducible exact H2_) | (have H2_ := (Option.bind_some _ _).symm.trans H; with_reducible exact H2_) | with_reducible exact H | (rw [hy180]; exact H) | exact H
                         have Ny180 := Aside0.mk hy180
                         clear hy180
                         have H' := Aside0.mk H
                         clear H
                         obtain ⟨Ao86, co86, eo86⟩ := Kd.S_slice HO_17.out
                         subst eo86
                         have p174 : 0 ≤ (x18_5 : Int) := of_decide_eq_true (by first | (with_reducible assumption) | assumption)
                         have q174 : x18_5 < (x17_6.length : Int) := of_decide_eq_true (by first | (with_reducible assumption) | assumption)
                         obtain ⟨ad174, A174_1, c174_1, e174, hx174_0, hx174_1, hx174_2, hl174_1, hi174_1⟩ := at_T43 (Kd.S_reads' HO_17.out).2.2 x18_5 p174 q174
                         cases e174
                         obtain ⟨ce174, hce174, hMe174, hcc174⟩ := Kd.S_get HO_17.out z43 x18_5 p174 (by first | exact q174 | exact of_decide_eq_true (by first | (with_reducible assumption) | assumption) | (have e_ := (Kd.S_reads' HO_17.out).1; omega))
                         obtain ⟨ve174_1, rfl, ge174_1⟩ := k43_openM hMe174
                         have hv174_1 := hcc174 1 _ rfl
                         rw [add_field _ _ 1 (by omega)] at hv174_1
                         replace hv174_1 := Option.some.inj (hv174_1.symm.trans hx174_1)
                         rw [hv174_1] at ge174_1
                         have HL174_1 := Aside0.mk (show Kd.R (Kd.int .i64) 3 _ _ _ _ ((rd_T43 x17_6 x18_5).f1) from ge174_1)
                         clear hv174_1 ge174_1
                         have HX174_1 := Aside0.mk hx174_1
                         clear hcc174 hce174
                         have HR174_1 := Aside0.mk hi174_1
                         have HC174_1 := Aside0.mk hl174_1
                         clear hi174_1 hl174_1
                         replace p174 := eq_true p174
                         replace q174 := eq_true q174
                         have p175 : 0 ≤ (x18_5 : Int) := of_decide_eq_true (by first | (with_reducible assumption) | assumption)
                         have q175 : x18_5 < (x17_6.length : Int) := of_decide_eq_true (by first | (with_reducible assumption) | assumption)
                         obtain ⟨ad175, A175_1, c175_1, e175, hx175_0, hx175_1, hx175_2, hl175_1, hi175_1⟩ := at_T43 (Kd.S_reads' HO_17.out).2.2 x18_5 p175 q175
                         obtain rfl : ad174 = ad175 := (by injection e175)
                         obtain ⟨ce175, hce175, hMe175, hcc175⟩ := Kd.S_get HO_17.out z43 x18_5 p175 (by first | exact q175 | exact of_decide_eq_true (by first | (with_reducible assumption) | assumption) | (have e_ := (Kd.S_reads' HO_17.out).1; omega))
                         obtain ⟨ve175_1, rfl, ge175_1⟩ := k43_openM hMe175
                         have hv175_1 := hcc175 1 _ rfl
                         rw [add_field _ _ 1 (by omega)] at hv175_1
                         replace hv175_1 := Option.some.inj (hv175_1.symm.trans hx175_1)
                         rw [hv175_1] at ge175_1
                         have HL175_1 := Aside0.mk (show Kd.R (Kd.int .i64) 3 _ _ _ _ ((rd_T43 x17_6 x18_5).f1) from ge175_1)
                         clear hv175_1 ge175_1
                         have HX175_1 := Aside0.mk hx175_1
                         clear hcc175 hce175
                         have HR175_1 := Aside0.mk hi175_1
                         have HC175_1 := Aside0.mk hl175_1
                         clear hi175_1 hl175_1
                         replace p175 := eq_true p175
                         replace q175 := eq_true q175
                         have ea_ := Option.some.inj (hx174_1.symm.trans hx175_1)
                         injection ea_ with ea_ en_ ec_
                         subst ea_
                         subst ec_
                         clear en_
                         have p176 : 0 ≤ (x19_6 : Int) := of_decide_eq_true (by first | (with_reducible assumption) | assumption)
                         have q176 : x19_6 < (((rd_T43 x17_6 x18_5).f1).length : Int) := of_decide_eq_true (by first | (with_reducible assumption) | assumption)
                         obtain ⟨ad176, e176, hx176_0⟩ := Kd.at_int (by repeat (first | (with_reducible exact HR175_1.out) | (with_reducible refine Kd.C_alloc ?_ _) | (with_reducible refine Kd.C_drewN ?_ _) | (with_reducible refine Kd.C_drew ?_) | exact HR175_1.out)) x19_6 p176 q176
                         cases e176
                         replace p176 := eq_true p176
                         replace q176 := eq_true q176
                         have p177 : 0 ≤ (x18_5 : Int) := of_decide_eq_true (by first | (with_reducible assumption) | assumption)
                         have q177 : x18_5 < (x17_6.length : Int) := of_decide_eq_true (by first | (with_reducible assumption) | assumption)
                         obtain ⟨ad177, A177_1, c177_1, e177, hx177_0, hx177_1, hx177_2, hl177_1, hi177_1⟩ := at_T43 (Kd.S_reads' HO_17.out).2.2 x18_5 p177 q177
                         obtain rfl : ad174 = ad177 := (by injection e177)
                         obtain ⟨ce177, hce177, hMe177, hcc177⟩ := Kd.S_get HO_17.out z43 x18_5 p177 (by first | exact q177 | exact of_decide_eq_true (by first | (with_reducible assumption) | assumption) | (have e_ := (Kd.S_reads' HO_17.out).1; omega))
                         obtain ⟨ve177_1, rfl, ge177_1⟩ := k43_openM hMe177
                         have hv177_1 := hcc177 1 _ rfl
                         rw [add_field _ _ 1 (by omega)] at hv177_1
                         replace hv177_1 := Option.some.inj (hv177_1.symm.trans hx177_1)
                         rw [hv177_1] at ge177_1
                         have HL177_1 := Aside0.mk (show Kd.R (Kd.int .i64) 3 _ _ _ _ ((rd_T43 x17_6 x18_5).f1) from ge177_1)
                         clear hv177_1 ge177_1
                         have HX177_1 := Aside0.mk hx177_1
                         clear hcc177 hce177
                         have HR177_1 := Aside0.mk hi177_1
                         have HC177_1 := Aside0.mk hl177_1
                         clear hi177_1 hl177_1
                         replace p177 := eq_true p177
                         replace q177 := eq_true q177
                         have ea_ := Option.some.inj (hx174_1.symm.trans hx177_1)
                         injection ea_ with ea_ en_ ec_
                         subst ea_
                         subst ec_
                         clear en_
                         have p85 : 0 ≤ (x19_6 : Int) := of_decide_eq_true (by first | (with_reducible assumption) | assumption)
                         have q85 : (x19_6 : Int) < ((((rd_T43 x17_6 x18_5).f1).length : Int) : Int) := of_decide_eq_true (by first | (with_reducible assumption) | assumption)
                         obtain ⟨go85, co85, eo85, gb85, gl85, cl85, HG85⟩ := Kd.R_form HL177_1.out (by omega)
                         (first | cases eo85 | (injection eo85 with ea_ en_ ec_; (first | subst ea_ | (injection ea_ with ea_; subst ea_)); subst ec_; clear en_))
                         have GB85 := Aside0.mk gb85
                         have GG85 := Aside0.mk HG85
                         clear gb85 gl85 HG85
                         (first | simp only [add_plain] at hx176_0 | skip)
                         obtain ⟨hx85_0, hf85_0⟩ := Kd.R_celln 0 HL177_1.out (x19_6 : Int) p85 q85
                         replace p85 := eq_true p85
                         replace q85 := eq_true q85
                         have hq87 : (x18_5 : Int) < (x17_6.length : Int) := (by have h_ : (x18_5 : Int) < ((x17_6.length : Int) : Int) := of_decide_eq_true (by first | (with_reducible assumption) | assumption); first | exact h_ | (have e_ := (Kd.S_reads' HO_17.out).1; omega) | simpa only [List.length_set, List.length_set] using h_)
                         obtain ⟨oki87, ce87, hcl87, hM87, hcc87, hok87, hbk87⟩ := Kd.S_borrow HO_17.out z43 (x18_5 : Int) (of_decide_eq_true (by first | (with_reducible assumption) | assumption)) hq87
                         obtain ⟨ve87_1, rfl, ge87_1⟩ := k43_openM hM87
                         have hv87 := hcc87 1 _ rfl
                         rw [add_field _ _ 1 (by omega)] at hv87
                         replace hv87 := Option.some.inj (hv87.symm.trans HX177_1.out)
                         subst hv87
                         clear hcc87 hcl87
                         replace ge87_1 := (show Kd.R (Kd.int .i64) 3 _ _ _ _ ((rd_T43 x17_6 x18_5).f1) from ge87_1)
                         have HP87 := Kd.R_putg ge87_1 (x19_6 : Int) t147
                         go_wp2_with (first | ((with_reducible refine gate_store (t := 3) (p := 224) rfl ?_); refine store_event (t := 3) (p := 224) (v := ?vo_w88) (w1 := (wr.setCell ⟨go85, (x19_6 : Int).toNat, none⟩ (.int .i64 t147))) ?hg ?ho ?hn ?hr ?_; (case ho => rfl); (case hg => rfl); (case hn => rfl); (case hr => first | (go_simp; done) | (go_simp; rfl)); intro w88 hw; have hg : wr.grownBy w88 (some go85) := (by rw [hw]; exact HP87.2); have hz_ : Kd.R (Kd.int .i64) 3 w88 w.heap.size oki87 (.slice (some ⟨go85, 0, none⟩) ((rd_T43 x17_6 x18_5).f1).length c174_1) y178 := (by rw [hw, Ny178.out]; exact HP87.1); have hp_ : Kd.S k43 43 w88 w.heap.size (fun _ => True) (.slice (some ad174) x17_6.length co86) y180 := (by rw [Ny180.out]; exact hbk87 hg (fun k_ e_ => by injection e_ with e_; subst e_; exact ge87_1.1 _ rfl) (k43_mkM _ _ _ (⟨(rd_T43 x17_6 x18_5).f0, y178, (rd_T43 x17_6 x18_5).f2⟩ : S43) hz_)); have hm_ := Kd.R_mono hz_ hok87; clear HP87 hbk87; have n0_ := Aside0.mk (hp_); have n1_ := Aside0.mk ((by rw [hw]; exact below_set (HB.out) GB85.out : Below w.heap.size w w88)); have n2_ := Aside0.mk (hm_); have n3_ := Aside0.mk ((Kd.R_reads' hm_).2.1); clear HO_17; clear HB; clear HL174_1; clear HL175_1; clear HL177_1; have HO_17 := n0_; have HB := n1_; have HL181 := n2_; have HC179 := n3_; clear n0_ n1_ n2_ n3_; clear hg hw hp_ hz_ hm_ hok87))
                         go_roundg k6
                         case measure => have := HJ4.out; have := HJ23.out; have := HJ49.out; have := HJ59.out; have := HK5.out; have := HK6.out; omega
                         case rel => exact ⟨(y180), (wrap64 (x19_6 + 1)), (by first | rfl | (simp; done) | (simp [*]; done)), H', ⟨by have := HJ4.out; have := HJ23.out; have := HJ49.out; have := HJ59.out; have := HK5.out; have := HK6.out; omega⟩, ⟨by (with_reducible repeat (first | apply Kd.S_alloc | apply Kd.S_drewN | apply Kd.S_drew)); exact HO_17.out⟩, ⟨by repeat (first | (with_reducible first | exact HB.out | apply below_alloc | apply pw_below_drewN | apply below_drew1) | exact HB.out)⟩⟩
                        ·rw [if_neg c84] at H
                         have c84b0 : ((Int.tmod (wrap64 (x18_5 + x19_6)) 2) == 0) = false := beq_eq_false_iff_ne.mpr c84
                         have c84b1 : ((Int.tmod (wrap64 (x18_5 + x19_6)) 2) != 0) = true := bne_iff_ne.mpr c84
                         have H' := Aside0.mk H
                         clear H
                         obtain ⟨Ao89, co89, eo89⟩ := Kd.S_slice HO_17.out
                         subst eo89
                         have p174 : 0 ≤ (x18_5 : Int) := of_decide_eq_true (by first | (with_reducible assumption) | assumption)
                         have q174 : x18_5 < (x17_6.length : Int) := of_decide_eq_true (by first | (with_reducible assumption) | assumption)
                         obtain ⟨ad174, A174_1, c174_1, e174, hx174_0, hx174_1, hx174_2, hl174_1, hi174_1⟩ := at_T43 (Kd.S_reads' HO_17.out).2.2 x18_5 p174 q174
                         cases e174
                         obtain ⟨ce174, hce174, hMe174, hcc174⟩ := Kd.S_get HO_17.out z43 x18_5 p174 (by first | exact q174 | exact of_decide_eq_true (by first | (with_reducible assumption) | assumption) | (have e_ := (Kd.S_reads' HO_17.out).1; omega))
                         obtain ⟨ve174_1, rfl, ge174_1⟩ := k43_openM hMe174
                         have hv174_1 := hcc174 1 _ rfl
                         rw [add_field _ _ 1 (by omega)] at hv174_1
                         replace hv174_1 := Option.some.inj (hv174_1.symm.trans hx174_1)
                         rw [hv174_1] at ge174_1
                         have HL174_1 := Aside0.mk (show Kd.R (Kd.int .i64) 3 _ _ _ _ ((rd_T43 x17_6 x18_5).f1) from ge174_1)
                         clear hv174_1 ge174_1
                         have HX174_1 := Aside0.mk hx174_1
                         clear hcc174 hce174
                         have HR174_1 := Aside0.mk hi174_1
                         have HC174_1 := Aside0.mk hl174_1
                         clear hi174_1 hl174_1
                         replace p174 := eq_true p174
                         replace q174 := eq_true q174
                         have p175 : 0 ≤ (x18_5 : Int) := of_decide_eq_true (by first | (with_reducible assumption) | assumption)
                         have q175 : x18_5 < (x17_6.length : Int) := of_decide_eq_true (by first | (with_reducible assumption) | assumption)
                         obtain ⟨ad175, A175_1, c175_1, e175, hx175_0, hx175_1, hx175_2, hl175_1, hi175_1⟩ := at_T43 (Kd.S_reads' HO_17.out).2.2 x18_5 p175 q175
                         obtain rfl : ad174 = ad175 := (by injection e175)
                         obtain ⟨ce175, hce175, hMe175, hcc175⟩ := Kd.S_get HO_17.out z43 x18_5 p175 (by first | exact q175 | exact of_decide_eq_true (by first | (with_reducible assumption) | assumption) | (have e_ := (Kd.S_reads' HO_17.out).1; omega))
                         obtain ⟨ve175_1, rfl, ge175_1⟩ := k43_openM hMe175
                         have hv175_1 := hcc175 1 _ rfl
                         rw [add_field _ _ 1 (by omega)] at hv175_1
                         replace hv175_1 := Option.some.inj (hv175_1.symm.trans hx175_1)
                         rw [hv175_1] at ge175_1
                         have HL175_1 := Aside0.mk (show Kd.R (Kd.int .i64) 3 _ _ _ _ ((rd_T43 x17_6 x18_5).f1) from ge175_1)
                         clear hv175_1 ge175_1
                         have HX175_1 := Aside0.mk hx175_1
                         clear hcc175 hce175
                         have HR175_1 := Aside0.mk hi175_1
                         have HC175_1 := Aside0.mk hl175_1
                         clear hi175_1 hl175_1
                         replace p175 := eq_true p175
                         replace q175 := eq_true q175
                         have ea_ := Option.some.inj (hx174_1.symm.trans hx175_1)
                         injection ea_ with ea_ en_ ec_
                         subst ea_
                         subst ec_
                         clear en_
                         have p176 : 0 ≤ (x19_6 : Int) := of_decide_eq_true (by first | (with_reducible assumption) | assumption)
                         have q176 : x19_6 < (((rd_T43 x17_6 x18_5).f1).length : Int) := of_decide_eq_true (by first | (with_reducible assumption) | assumption)
                         obtain ⟨ad176, e176, hx176_0⟩ := Kd.at_int (by repeat (first | (with_reducible exact HR175_1.out) | (with_reducible refine Kd.C_alloc ?_ _) | (with_reducible refine Kd.C_drewN ?_ _) | (with_reducible refine Kd.C_drew ?_) | exact HR175_1.out)) x19_6 p176 q176
                         cases e176
                         replace p176 := eq_true p176
                         replace q176 := eq_true q176
                         go_wp2
                         go_roundg k6
                         case measure => have := HJ4.out; have := HJ23.out; have := HJ49.out; have := HJ59.out; have := HK5.out; have := HK6.out; omega
                         case rel => exact ⟨(x17_6), (wrap64 (x19_6 + 1)), (by first | rfl | (simp; done) | (simp [*]; done)), H', ⟨by have := HJ4.out; have := HJ23.out; have := HJ49.out; have := HJ59.out; have := HK5.out; have := HK6.out; omega⟩, ⟨by (with_reducible repeat (first | apply Kd.S_alloc | apply Kd.S_drewN | apply Kd.S_drew)); exact HO_17.out⟩, ⟨by repeat (first | (with_reducible first | exact HB.out | apply below_alloc | apply pw_below_drewN | apply below_drew1) | exact HB.out)⟩⟩
                       ·rw [if_neg c83] at H
                        have c83b0 : ((rd ((rd_T43 x17_6 x18_5).f1) x19_6) == t146) = false := beq_eq_false_iff_ne.mpr c83
                        have c83b1 : ((rd ((rd_T43 x17_6 x18_5).f1) x19_6) != t146) = true := bne_iff_ne.mpr c83
                        have H' := Aside0.mk H
                        clear H
                        obtain ⟨Ao90, co90, eo90⟩ := Kd.S_slice HO_17.out
                        subst eo90
                        have p174 : 0 ≤ (x18_5 : Int) := of_decide_eq_true (by first | (with_reducible assumption) | assumption)
                        have q174 : x18_5 < (x17_6.length : Int) := of_decide_eq_true (by first | (with_reducible assumption) | assumption)
                        obtain ⟨ad174, A174_1, c174_1, e174, hx174_0, hx174_1, hx174_2, hl174_1, hi174_1⟩ := at_T43 (Kd.S_reads' HO_17.out).2.2 x18_5 p174 q174
                        cases e174
                        obtain ⟨ce174, hce174, hMe174, hcc174⟩ := Kd.S_get HO_17.out z43 x18_5 p174 (by first | exact q174 | exact of_decide_eq_true (by first | (with_reducible assumption) | assumption) | (have e_ := (Kd.S_reads' HO_17.out).1; omega))
                        obtain ⟨ve174_1, rfl, ge174_1⟩ := k43_openM hMe174
                        have hv174_1 := hcc174 1 _ rfl
                        rw [add_field _ _ 1 (by omega)] at hv174_1
                        replace hv174_1 := Option.some.inj (hv174_1.symm.trans hx174_1)
                        rw [hv174_1] at ge174_1
                        have HL174_1 := Aside0.mk (show Kd.R (Kd.int .i64) 3 _ _ _ _ ((rd_T43 x17_6 x18_5).f1) from ge174_1)
                        clear hv174_1 ge174_1
                        have HX174_1 := Aside0.mk hx174_1
                        clear hcc174 hce174
                        have HR174_1 := Aside0.mk hi174_1
                        have HC174_1 := Aside0.mk hl174_1
                        clear hi174_1 hl174_1
                        replace p174 := eq_true p174
                        replace q174 := eq_true q174
                        have p175 : 0 ≤ (x18_5 : Int) := of_decide_eq_true (by first | (with_reducible assumption) | assumption)
                        have q175 : x18_5 < (x17_6.length : Int) := of_decide_eq_true (by first | (with_reducible assumption) | assumption)
                        obtain ⟨ad175, A175_1, c175_1, e175, hx175_0, hx175_1, hx175_2, hl175_1, hi175_1⟩ := at_T43 (Kd.S_reads' HO_17.out).2.2 x18_5 p175 q175
                        obtain rfl : ad174 = ad175 := (by injection e175)
                        obtain ⟨ce175, hce175, hMe175, hcc175⟩ := Kd.S_get HO_17.out z43 x18_5 p175 (by first | exact q175 | exact of_decide_eq_true (by first | (with_reducible assumption) | assumption) | (have e_ := (Kd.S_reads' HO_17.out).1; omega))
                        obtain ⟨ve175_1, rfl, ge175_1⟩ := k43_openM hMe175
                        have hv175_1 := hcc175 1 _ rfl
                        rw [add_field _ _ 1 (by omega)] at hv175_1
                        replace hv175_1 := Option.some.inj (hv175_1.symm.trans hx175_1)
                        rw [hv175_1] at ge175_1
                        have HL175_1 := Aside0.mk (show Kd.R (Kd.int .i64) 3 _ _ _ _ ((rd_T43 x17_6 x18_5).f1) from ge175_1)
                        clear hv175_1 ge175_1
                        have HX175_1 := Aside0.mk hx175_1
                        clear hcc175 hce175
                        have HR175_1 := Aside0.mk hi175_1
                        have HC175_1 := Aside0.mk hl175_1
                        clear hi175_1 hl175_1
                        replace p175 := eq_true p175
                        replace q175 := eq_true q175
                        have ea_ := Option.some.inj (hx174_1.symm.trans hx175_1)
                        injection ea_ with ea_ en_ ec_
                        subst ea_
                        subst ec_
                        clear en_
                        have p176 : 0 ≤ (x19_6 : Int) := of_decide_eq_true (by first | (with_reducible assumption) | assumption)
                        have q176 : x19_6 < (((rd_T43 x17_6 x18_5).f1).length : Int) := of_decide_eq_true (by first | (with_reducible assumption) | assumption)
                        obtain ⟨ad176, e176, hx176_0⟩ := Kd.at_int (by repeat (first | (with_reducible exact HR175_1.out) | (with_reducible refine Kd.C_alloc ?_ _) | (with_reducible refine Kd.C_drewN ?_ _) | (with_reducible refine Kd.C_drew ?_) | exact HR175_1.out)) x19_6 p176 q176
                        cases e176
                        replace p176 := eq_true p176
                        replace q176 := eq_true q176
                        go_wp2
                        go_roundg k6
                        case measure => have := HJ4.out; have := HJ23.out; have := HJ49.out; have := HJ59.out; have := HK5.out; have := HK6.out; omega
                        case rel => exact ⟨(x17_6), (wrap64 (x19_6 + 1)), (by first | rfl | (simp; done) | (simp [*]; done)), H', ⟨by have := HJ4.out; have := HJ23.out; have := HJ49.out; have := HJ59.out; have := HK5.out; have := HK6.out; omega⟩, ⟨by (with_reducible repeat (first | apply Kd.S_alloc | apply Kd.S_drewN | apply Kd.S_drew)); exact HO_17.out⟩, ⟨by repeat (first | (with_reducible first | exact HB.out | apply below_alloc | apply pw_below_drewN | apply below_drew1) | exact HB.out)⟩⟩
                      ·rw [if_neg c82] at H
                       exact absurd H (by simp)
                     ·rw [if_neg c81] at H
                      have c81b0 : decide (x19_6 < (((rd_T43 x17_6 x18_5).f1).length : Int)) = false := decide_eq_false c81
                      clear c81
                      have H' := Aside0.mk H
                      clear H
                      obtain ⟨Ao91, co91, eo91⟩ := Kd.S_slice HO_17.out
                      subst eo91
                      have p174 : 0 ≤ (x18_5 : Int) := of_decide_eq_true (by first | (with_reducible assumption) | assumption)
                      have q174 : x18_5 < (x17_6.length : Int) := of_decide_eq_true (by first | (with_reducible assumption) | assumption)
                      obtain ⟨ad174, A174_1, c174_1, e174, hx174_0, hx174_1, hx174_2, hl174_1, hi174_1⟩ := at_T43 (Kd.S_reads' HO_17.out).2.2 x18_5 p174 q174
                      cases e174
                      obtain ⟨ce174, hce174, hMe174, hcc174⟩ := Kd.S_get HO_17.out z43 x18_5 p174 (by first | exact q174 | exact of_decide_eq_true (by first | (with_reducible assumption) | assumption) | (have e_ := (Kd.S_reads' HO_17.out).1; omega))
                      obtain ⟨ve174_1, rfl, ge174_1⟩ := k43_openM hMe174
                      have hv174_1 := hcc174 1 _ rfl
                      rw [add_field _ _ 1 (by omega)] at hv174_1
                      replace hv174_1 := Option.some.inj (hv174_1.symm.trans hx174_1)
                      rw [hv174_1] at ge174_1
                      have HL174_1 := Aside0.mk (show Kd.R (Kd.int .i64) 3 _ _ _ _ ((rd_T43 x17_6 x18_5).f1) from ge174_1)
                      clear hv174_1 ge174_1
                      have HX174_1 := Aside0.mk hx174_1
                      clear hcc174 hce174
                      have HR174_1 := Aside0.mk hi174_1
                      have HC174_1 := Aside0.mk hl174_1
                      clear hi174_1 hl174_1
                      replace p174 := eq_true p174
                      replace q174 := eq_true q174
                      go_wp2
                      go_roundg k6
                      case measure => have := HJ4.out; have := HJ23.out; have := HJ49.out; have := HJ59.out; have := HK5.out; have := HK6.out; omega
                      case rel => exact ⟨(x17_6), (wrap64 (x18_5 + 1)), (by first | rfl | (simp; done) | (simp [*]; done)), H', ⟨by have := HJ4.out; have := HJ23.out; have := HJ49.out; have := HJ59.out; have := HK5.out; have := HK6.out; omega⟩, ⟨by (with_reducible repeat (first | apply Kd.S_alloc | apply Kd.S_drewN | apply Kd.S_drew)); exact HO_17.out⟩, ⟨by repeat (first | (with_reducible first | exact HB.out | apply below_alloc | apply pw_below_drewN | apply below_drew1) | exact HB.out)⟩⟩
                    ·rw [if_neg c80] at H
                     exact absurd H (by simp)
                   ·rw [if_neg c79] at H
                    exact absurd H (by simp)
                ·rw [if_neg c78] at H
                 have c78b0 : decide (x18_5 < (l0.length : Int)) = false := decide_eq_false c78
                 clear c78
                 replace H := Option.bind_eq_some_iff.mp H
                 obtain ⟨t171, A920, H⟩ := H
                 replace H : (if (t171 == t153) = true then ((kinds_Same.f k5 x17_5 t147 t148).bind fun t172 => (if (t172 == t152) = true then ((kinds_Same.f k5 x17_5 t146 t147).bind fun t173 => (some t173)) else (some false))) else (some false)) = some r := H
                 have A92 := Aside0.mk A920
                 clear A920
                 by_cases c93 : (t171 == t153) = true
                 ·rw [if_pos c93] at H
                  have c93b0 : (t171 == t153) = true := c93
                  (try (have c93b1 : decide (t171 = t153) = true := by simpa using c93))
                  (try (have c93b2 : (t171 == t153) = true := by simpa using c93))
                  clear c93
                  replace H := Option.bind_eq_some_iff.mp H
                  obtain ⟨t172, A940, H⟩ := H
                  replace H : (if (t172 == t152) = true then ((kinds_Same.f k5 x17_5 t146 t147).bind fun t173 => (some t173)) else (some false)) = some r := H
                  have A94 := Aside0.mk A940
                  clear A940
                  by_cases c95 : (t172 == t152) = true
                  ·rw [if_pos c95] at H
                   have c95b0 : (t172 == t152) = true := c95
                   (try (have c95b1 : decide (t172 = t152) = true := by simpa using c95))
                   (try (have c95b2 : (t172 == t152) = true := by simpa using c95))
                   clear c95
                   replace H := Option.bind_eq_some_iff.mp H
                   obtain ⟨t173, A960, H⟩ := H
                   replace H : (some t173) = some r := H
                   have A96 := Aside0.mk A960
                   clear A960
                   obtain rfl := Option.some.inj H
                   obtain ⟨Ao97, co97, eo97⟩ := Kd.S_slice HO_17.out
                   subst eo97
                   go_wp2_with (first | ((with_reducible refine gate_callee (f := 22) rfl ?_); refine goesL_ (some 228) rfl rfl Try.func22 (by kernel_rfl) rfl #[.slice Ao97 x17_5.length co97, .int .i64 t148, .int .i64 t146] rfl (by (try simp only [List.map_toArray, List.map_cons, List.map_nil]); first | done | rfl | (simp only [List.length_drop, List.length_take]; rfl)) ?_; (with_reducible refine (kinds_Same.calls k5 _ _ x17_5 t148 t146 t171 _ ?side1 ?side2 A92.out).mono ?_); (case side1 => repeat (first | exact (Kd.S_reads' HO_17.out).2.2 | (with_reducible refine Kd.C_alloc ?_ _) | (with_reducible refine Kd.C_drewN ?_ _) | (with_reducible refine Kd.C_drew ?_))); (case side2 => exact (Kd.S_reads' HO_17.out).2.1); rintro e w98 ⟨rfl, hb⟩; refine ⟨_, rfl, ?_⟩; have n0_ := Aside0.mk (Kd.S_below (by (with_reducible repeat (first | apply Kd.S_alloc | apply Kd.S_drewN | apply Kd.S_drew)); exact HO_17.out) hb); have n1_ := Aside0.mk (below_step (by repeat (first | (with_reducible first | exact HB.out | apply below_alloc | apply pw_below_drewN | apply below_drew1) | exact HB.out)) hb); clear HO_17; clear HB; have HO_17 := n0_; have HB := n1_; clear n0_ n1_; (try clear hb); (try clear hb2); (try clear hk); (try clear hi)) | (go_at_call 22; (with_reducible refine (kinds_Same.calls k5 _ _ x17_5 t147 t148 t172 _ ?side1 ?side2 A94.out).mono ?_); (case side1 => repeat (first | exact (Kd.S_reads' HO_17.out).2.2 | (with_reducible refine Kd.C_alloc ?_ _) | (with_reducible refine Kd.C_drewN ?_ _) | (with_reducible refine Kd.C_drew ?_))); (case side2 => exact (Kd.S_reads' HO_17.out).2.1); rintro e w99 ⟨rfl, hb⟩; have n0_ := Aside0.mk (Kd.S_below (by (with_reducible repeat (first | apply Kd.S_alloc | apply Kd.S_drewN | apply Kd.S_drew)); exact HO_17.out) hb); have n1_ := Aside0.mk (below_step (by repeat (first | (with_reducible first | exact HB.out | apply below_alloc | apply pw_below_drewN | apply below_drew1) | exact HB.out)) hb); clear HO_17; clear HB; have HO_17 := n0_; have HB := n1_; clear n0_ n1_; (try clear hb); (try clear hb2); (try clear hk); (try clear hi)) | (go_at_call 22; (with_reducible refine (kinds_Same.calls k5 _ _ x17_5 t146 t147 t173 _ ?side1 ?side2 A96.out).mono ?_); (case side1 => repeat (first | exact (Kd.S_reads' HO_17.out).2.2 | (with_reducible refine Kd.C_alloc ?_ _) | (with_reducible refine Kd.C_drewN ?_ _) | (with_reducible refine Kd.C_drew ?_))); (case side2 => exact (Kd.S_reads' HO_17.out).2.1); rintro e w100 ⟨rfl, hb⟩; have n0_ := Aside0.mk (Kd.S_below (by (with_reducible repeat (first | apply Kd.S_alloc | apply Kd.S_drewN | apply Kd.S_drew)); exact HO_17.out) hb); have n1_ := Aside0.mk (below_step (by repeat (first | (with_reducible first | exact HB.out | apply below_alloc | apply pw_below_drewN | apply below_drew1) | exact HB.out)) hb); clear HO_17; clear HB; have HO_17 := n0_; have HB := n1_; clear n0_ n1_; (try clear hb); (try clear hb2); (try clear hk); (try clear hi)))
                   go_ret
                   exact ⟨by first | rfl | (simp [errW_none, errW_some] <;> rfl) | (simp [*, errW_none, errW_some] <;> rfl), by repeat (first | (with_reducible first | exact HB.out | apply below_alloc | apply pw_below_drewN | apply below_drew1) | exact HB.out)⟩
                  ·rw [if_neg c95] at H
                   have c95b0 : (t172 == t152) = false := by simpa using c95
                   (try (have c95b1 : decide (t172 = t152) = false := by simpa using c95))
                   (try (have c95b2 : (t172 == t152) = false := by simpa using c95))
                   (try (have c95b3 : ¬ (t172 = t152) := by simpa using c95))
                   clear c95
                   obtain rfl := Option.some.inj H
                   obtain ⟨Ao101, co101, eo101⟩ := Kd.S_slice HO_17.out
                   subst eo101
                   go_wp2_with (first | ((with_reducible refine gate_callee (f := 22) rfl ?_); refine goesL_ (some 228) rfl rfl Try.func22 (by kernel_rfl) rfl #[.slice Ao101 x17_5.length co101, .int .i64 t148, .int .i64 t146] rfl (by (try simp only [List.map_toArray, List.map_cons, List.map_nil]); first | done | rfl | (simp only [List.length_drop, List.length_take]; rfl)) ?_; (with_reducible refine (kinds_Same.calls k5 _ _ x17_5 t148 t146 t171 _ ?side1 ?side2 A92.out).mono ?_); (case side1 => repeat (first | exact (Kd.S_reads' HO_17.out).2.2 | (with_reducible refine Kd.C_alloc ?_ _) | (with_reducible refine Kd.C_drewN ?_ _) | (with_reducible refine Kd.C_drew ?_))); (case side2 => exact (Kd.S_reads' HO_17.out).2.1); rintro e w102 ⟨rfl, hb⟩; refine ⟨_, rfl, ?_⟩; have n0_ := Aside0.mk (Kd.S_below (by (with_reducible repeat (first | apply Kd.S_alloc | apply Kd.S_drewN | apply Kd.S_drew)); exact HO_17.out) hb); have n1_ := Aside0.mk (below_step (by repeat (first | (with_reducible first | exact HB.out | apply below_alloc | apply pw_below_drewN | apply below_drew1) | exact HB.out)) hb); clear HO_17; clear HB; have HO_17 := n0_; have HB := n1_; clear n0_ n1_; (try clear hb); (try clear hb2); (try clear hk); (try clear hi)) | (go_at_call 22; (with_reducible refine (kinds_Same.calls k5 _ _ x17_5 t147 t148 t172 _ ?side1 ?side2 A94.out).mono ?_); (case side1 => repeat (first | exact (Kd.S_reads' HO_17.out).2.2 | (with_reducible refine Kd.C_alloc ?_ _) | (with_reducible refine Kd.C_drewN ?_ _) | (with_reducible refine Kd.C_drew ?_))); (case side2 => exact (Kd.S_reads' HO_17.out).2.1); rintro e w103 ⟨rfl, hb⟩; have n0_ := Aside0.mk (Kd.S_below (by (with_reducible repeat (first | apply Kd.S_alloc | apply Kd.S_drewN | apply Kd.S_drew)); exact HO_17.out) hb); have n1_ := Aside0.mk (below_step (by repeat (first | (with_reducible first | exact HB.out | apply below_alloc | apply pw_below_drewN | apply below_drew1) | exact HB.out)) hb); clear HO_17; clear HB; have HO_17 := n0_; have HB := n1_; clear n0_ n1_; (try clear hb); (try clear hb2); (try clear hk); (try clear hi)))
                   go_ret
                   exact ⟨by first | rfl | (simp [errW_none, errW_some] <;> rfl) | (simp [*, errW_none, errW_some] <;> rfl), by repeat (first | (with_reducible first | exact HB.out | apply below_alloc | apply pw_below_drewN | apply below_drew1) | exact HB.out)⟩
                 ·rw [if_neg c93] at H
                  have c93b0 : (t171 == t153) = false := by simpa using c93
                  (try (have c93b1 : decide (t171 = t153) = false := by simpa using c93))
                  (try (have c93b2 : (t171 == t153) = false := by simpa using c93))
                  (try (have c93b3 : ¬ (t171 = t153) := by simpa using c93))
                  clear c93
                  obtain rfl := Option.some.inj H
                  obtain ⟨Ao104, co104, eo104⟩ := Kd.S_slice HO_17.out
                  subst eo104
                  go_wp2_with (first | ((with_reducible refine gate_callee (f := 22) rfl ?_); refine goesL_ (some 228) rfl rfl Try.func22 (by kernel_rfl) rfl #[.slice Ao104 x17_5.length co104, .int .i64 t148, .int .i64 t146] rfl (by (try simp only [List.map_toArray, List.map_cons, List.map_nil]); first | done | rfl | (simp only [List.length_drop, List.length_take]; rfl)) ?_; (with_reducible refine (kinds_Same.calls k5 _ _ x17_5 t148 t146 t171 _ ?side1 ?side2 A92.out).mono ?_); (case side1 => repeat (first | exact (Kd.S_reads' HO_17.out).2.2 | (with_reducible refine Kd.C_alloc ?_ _) | (with_reducible refine Kd.C_drewN ?_ _) | (with_reducible refine Kd.C_drew ?_))); (case side2 => exact (Kd.S_reads' HO_17.out).2.1); rintro e w105 ⟨rfl, hb⟩; refine ⟨_, rfl, ?_⟩; have n0_ := Aside0.mk (Kd.S_below (by (with_reducible repeat (first | apply Kd.S_alloc | apply Kd.S_drewN | apply Kd.S_drew)); exact HO_17.out) hb); have n1_ := Aside0.mk (below_step (by repeat (first | (with_reducible first | exact HB.out | apply below_alloc | apply pw_below_drewN | apply below_drew1) | exact HB.out)) hb); clear HO_17; clear HB; have HO_17 := n0_; have HB := n1_; clear n0_ n1_; (try clear hb); (try clear hb2); (try clear hk); (try clear hi)))
                  go_ret
                  exact ⟨by first | rfl | (simp [errW_none, errW_some] <;> rfl) | (simp [*, errW_none, errW_some] <;> rfl), by repeat (first | (with_reducible first | exact HB.out | apply below_alloc | apply pw_below_drewN | apply below_drew1) | exact HB.out)⟩
             ·replace c75 := Bool.eq_false_iff.mpr c75
              subst c75
              have H1 : (some true) = some r := by rw [if_neg (show ¬ (false = true) by decide)] at H; exact H
              clear H
              have H := H1
              clear H1
              obtain rfl := Option.some.inj H
              go_wp2
              go_ret
              exact ⟨by first | rfl | (simp [errW_none, errW_some] <;> rfl) | (simp [*, errW_none, errW_some] <;> rfl), by repeat (first | (with_reducible first | exact HB.out | apply below_alloc | apply pw_below_drewN | apply below_drew1) | exact HB.out)⟩
    ·replace c20 := Bool.eq_false_iff.mpr c20
     subst c20
     have H1 : (if t145 = true then ((kinds_Same.f kj4 l0 t146 t146).bind fun t150 => (some (!t150))) else (some false)) = some r := by rw [if_neg (show ¬ (false = true) by decide)] at H; exact H
     clear H
     have H := H1
     clear H1
     by_cases c106 : t145 = true
     ·subst c106
      have H1 : ((kinds_Same.f kj4 l0 t146 t146).bind fun t150 => (some (!t150))) = some r := by rw [if_pos rfl] at H; exact H
      clear H
      have H := H1
      clear H1
      replace H := Option.bind_eq_some_iff.mp H
      obtain ⟨t150, A1070, H⟩ := H
      replace H : (some (!t150)) = some r := H
      have A107 := Aside0.mk A1070
      clear A1070
      obtain rfl := Option.some.inj H
      go_wp2_with (first | ((with_reducible refine gate_callee (f := 11) rfl ?_); refine goesL_ (some 34) rfl rfl Try.func11 (by kernel_rfl) rfl #[] rfl (by (try simp only [List.map_toArray, List.map_cons, List.map_nil]); first | done | rfl | (simp only [List.length_drop, List.length_take]; rfl)) ?_; (with_reducible refine (squintlaw04_shown.calls  true _ A15.out).mono ?_); rintro e w108 ⟨rfl, hb⟩; refine ⟨_, rfl, ?_⟩; have n0_ := Aside0.mk (below_step (by repeat (first | (with_reducible first | exact HB.out | apply below_alloc | apply pw_below_drewN | apply below_drew1) | exact HB.out)) hb); clear HB; have HB := n0_; clear n0_; (try clear hb); (try clear hb2); (try clear hk); (try clear hi)) | ((with_reducible refine gate_callee (f := 24) rfl ?_); refine goesL_ (some 37) rfl rfl Try.func24 (by kernel_rfl) rfl #[.int .i64 a1, .int .i64 (l0.length : Int)] rfl (by (try simp only [List.map_toArray, List.map_cons, List.map_nil]); first | done | rfl | (simp only [List.length_drop, List.length_take]; rfl)) ?_; (with_reducible refine (squintlaw04_among.calls a1 (l0.length : Int) t146 _ A16.out).mono ?_); rintro e w' ⟨rfl, ⟨nd, rfl⟩⟩; refine ⟨_, rfl, ?_⟩) | ((with_reducible refine gate_callee (f := 24) rfl ?_); refine goesL_ (some 40) rfl rfl Try.func24 (by kernel_rfl) rfl #[.int .i64 a2, .int .i64 (l0.length : Int)] rfl (by (try simp only [List.map_toArray, List.map_cons, List.map_nil]); first | done | rfl | (simp only [List.length_drop, List.length_take]; rfl)) ?_; (with_reducible refine (squintlaw04_among.calls a2 (l0.length : Int) t147 _ A17.out).mono ?_); rintro e w' ⟨rfl, ⟨nd, rfl⟩⟩; refine ⟨_, rfl, ?_⟩) | ((with_reducible refine gate_callee (f := 24) rfl ?_); refine goesL_ (some 43) rfl rfl Try.func24 (by kernel_rfl) rfl #[.int .i64 a3, .int .i64 (l0.length : Int)] rfl (by (try simp only [List.map_toArray, List.map_cons, List.map_nil]); first | done | rfl | (simp only [List.length_drop, List.length_take]; rfl)) ?_; (with_reducible refine (squintlaw04_among.calls a3 (l0.length : Int) t148 _ A18.out).mono ?_); rintro e w' ⟨rfl, ⟨nd, rfl⟩⟩; refine ⟨_, rfl, ?_⟩) | ((with_reducible refine gate_callee (f := 19) rfl ?_); refine goesL_ (some 45) rfl rfl Try.func19 (by kernel_rfl) rfl #[.slice A0 l0.length c0] rfl (by (try simp only [List.map_toArray, List.map_cons, List.map_nil]); first | done | rfl | (simp only [List.length_drop, List.length_take]; rfl)) ?_; (with_reducible refine (kinds_Valid.calls kj4 _ _ l0 false _ ?side1 ?side2 A19.out).mono ?_); (case side1 => repeat (first | exact (Kd.C_below HR0.out (by repeat (first | (with_reducible first | exact HB.out | apply below_alloc | apply pw_below_drewN | apply below_drew1) | exact HB.out))) | (with_reducible refine Kd.C_alloc ?_ _) | (with_reducible refine Kd.C_drewN ?_ _) | (with_reducible refine Kd.C_drew ?_))); (case side2 => exact HC0.out); rintro e w109 ⟨rfl, hb⟩; refine ⟨_, rfl, ?_⟩; have n0_ := Aside0.mk (below_step (by repeat (first | (with_reducible first | exact HB.out | apply below_alloc | apply pw_below_drewN | apply below_drew1) | exact HB.out)) hb); clear HB; have HB := n0_; clear n0_; (try clear hb); (try clear hb2); (try clear hk); (try clear hi)) | (go_at_call 22; (with_reducible refine (kinds_Same.calls kj4 _ _ l0 t146 t146 t150 _ ?side1 ?side2 A107.out).mono ?_); (case side1 => repeat (first | exact (Kd.C_below HR0.out HB.out) | (with_reducible refine Kd.C_alloc ?_ _) | (with_reducible refine Kd.C_drewN ?_ _) | (with_reducible refine Kd.C_drew ?_))); (case side2 => exact HC0.out); rintro e w110 ⟨rfl, hb⟩; have n0_ := Aside0.mk (below_step (by repeat (first | (with_reducible first | exact HB.out | apply below_alloc | apply pw_below_drewN | apply below_drew1) | exact HB.out)) hb); clear HB; have HB := n0_; clear n0_; (try clear hb); (try clear hb2); (try clear hk); (try clear hi)))
      go_ret
      exact ⟨by first | rfl | (simp [errW_none, errW_some] <;> rfl) | (simp [*, errW_none, errW_some] <;> rfl), by repeat (first | (with_reducible first | exact HB.out | apply below_alloc | apply pw_below_drewN | apply below_drew1) | exact HB.out)⟩
     ·replace c106 := Bool.eq_false_iff.mpr c106
      subst c106
      have H1 : (some false) = some r := by rw [if_neg (show ¬ (false = true) by decide)] at H; exact H
      clear H
      have H := H1
      clear H1
      obtain rfl := Option.some.inj H
      go_wp2_with (first | ((with_reducible refine gate_callee (f := 11) rfl ?_); refine goesL_ (some 34) rfl rfl Try.func11 (by kernel_rfl) rfl #[] rfl (by (try simp only [List.map_toArray, List.map_cons, List.map_nil]); first | done | rfl | (simp only [List.length_drop, List.length_take]; rfl)) ?_; (with_reducible refine (squintlaw04_shown.calls  false _ A15.out).mono ?_); rintro e w111 ⟨rfl, hb⟩; refine ⟨_, rfl, ?_⟩; have n0_ := Aside0.mk (below_step (by repeat (first | (with_reducible first | exact HB.out | apply below_alloc | apply pw_below_drewN | apply below_drew1) | exact HB.out)) hb); clear HB; have HB := n0_; clear n0_; (try clear hb); (try clear hb2); (try clear hk); (try clear hi)) | ((with_reducible refine gate_callee (f := 24) rfl ?_); refine goesL_ (some 37) rfl rfl Try.func24 (by kernel_rfl) rfl #[.int .i64 a1, .int .i64 (l0.length : Int)] rfl (by (try simp only [List.map_toArray, List.map_cons, List.map_nil]); first | done | rfl | (simp only [List.length_drop, List.length_take]; rfl)) ?_; (with_reducible refine (squintlaw04_among.calls a1 (l0.length : Int) t146 _ A16.out).mono ?_); rintro e w' ⟨rfl, ⟨nd, rfl⟩⟩; refine ⟨_, rfl, ?_⟩) | ((with_reducible refine gate_callee (f := 24) rfl ?_); refine goesL_ (some 40) rfl rfl Try.func24 (by kernel_rfl) rfl #[.int .i64 a2, .int .i64 (l0.length : Int)] rfl (by (try simp only [List.map_toArray, List.map_cons, List.map_nil]); first | done | rfl | (simp only [List.length_drop, List.length_take]; rfl)) ?_; (with_reducible refine (squintlaw04_among.calls a2 (l0.length : Int) t147 _ A17.out).mono ?_); rintro e w' ⟨rfl, ⟨nd, rfl⟩⟩; refine ⟨_, rfl, ?_⟩) | ((with_reducible refine gate_callee (f := 24) rfl ?_); refine goesL_ (some 43) rfl rfl Try.func24 (by kernel_rfl) rfl #[.int .i64 a3, .int .i64 (l0.length : Int)] rfl (by (try simp only [List.map_toArray, List.map_cons, List.map_nil]); first | done | rfl | (simp only [List.length_drop, List.length_take]; rfl)) ?_; (with_reducible refine (squintlaw04_among.calls a3 (l0.length : Int) t148 _ A18.out).mono ?_); rintro e w' ⟨rfl, ⟨nd, rfl⟩⟩; refine ⟨_, rfl, ?_⟩) | ((with_reducible refine gate_callee (f := 19) rfl ?_); refine goesL_ (some 45) rfl rfl Try.func19 (by kernel_rfl) rfl #[.slice A0 l0.length c0] rfl (by (try simp only [List.map_toArray, List.map_cons, List.map_nil]); first | done | rfl | (simp only [List.length_drop, List.length_take]; rfl)) ?_; (with_reducible refine (kinds_Valid.calls kj4 _ _ l0 false _ ?side1 ?side2 A19.out).mono ?_); (case side1 => repeat (first | exact (Kd.C_below HR0.out (by repeat (first | (with_reducible first | exact HB.out | apply below_alloc | apply pw_below_drewN | apply below_drew1) | exact HB.out))) | (with_reducible refine Kd.C_alloc ?_ _) | (with_reducible refine Kd.C_drewN ?_ _) | (with_reducible refine Kd.C_drew ?_))); (case side2 => exact HC0.out); rintro e w112 ⟨rfl, hb⟩; refine ⟨_, rfl, ?_⟩; have n0_ := Aside0.mk (below_step (by repeat (first | (with_reducible first | exact HB.out | apply below_alloc | apply pw_below_drewN | apply below_drew1) | exact HB.out)) hb); clear HB; have HB := n0_; clear n0_; (try clear hb); (try clear hb2); (try clear hk); (try clear hi)))
      go_ret
      exact ⟨by first | rfl | (simp [errW_none, errW_some] <;> rfl) | (simp [*, errW_none, errW_some] <;> rfl), by repeat (first | (with_reducible first | exact HB.out | apply below_alloc | apply pw_below_drewN | apply below_drew1) | exact HB.out)⟩

end Go.Proofs.Ytapagakfckjhdaa.PKindsLaws
