-- written for this claim over a table of functions with stand-ins
import Derived.Test.YtapagakfckjhdaaPKindsSamex0
import Derived.Test.YtapagakfckjhdaaPKindsSamex4
namespace Go.Proofs.Ytapagakfckjhdaa.PKindsSame
open Go.RowKit Go.Proofs.YtapagakfckjhdaaW.PrintWords Go.Proofs.YtapagakfckjhdaaW.PrintLast Go.Proofs.YtapagakfckjhdaaW.PrintMore
attribute [local go_sem] max2_int min2_int max_two min_two max_three min_three max_four min_four   -- for this text's walks alone
set_option linter.unusedVariables false
set_option linter.unusedSimpArgs false

theorem S_lit1 {P : Program} {ops : Array Oper} {rest : List Oper} {o : Oper} {a : Act} {Q : Exit → Act → World → Prop} {α : Type} (d : Kd α) {w0 W : World} (base e : Nat) (hgd : o.guard = none) {N : Tmp} (hd : o.dst = some N) {x : α} {v : Value} (hsz : d.sz = 1)
    (hrun : (execOp a.eval o).run P W = .ok (.value (.slice (some ⟨W.heap.size, 0, none⟩) 1 1)) (W.alloc (.cells #[v] e)))
    (hM : d.M W base (fun k => some k = v.ownBlock) x [v]) (HB : Below base w0 W) (hbase : base ≤ W.heap.size)
    (h : ∀ v1 w1, Kd.S d e w1 base (fun _ => True) v1 [x] → Below base w0 w1 → W.grownBy w1 none → (∃ b, v1.ownBlock = some b ∧ W.heap.size ≤ b) → wpList P ops Q rest (a.put o.dst v1) w1) : wpList P ops Q (o :: rest) a W := by
  refine Kd.S_lits d base e hgd hd (xs := [x]) (inner := [v]) (ok := fun _ => True) (fun j k => j = 0 ∧ some k = v.ownBlock) hrun (by rw [hsz]; rfl) ?_ (fun i j k h1 h2 => h1.1.trans h2.1.symm) (fun _ _ _ => trivial) trivial HB hbase (by simp) h
  intro j y hy
  cases j with
  | zero =>
    obtain rfl : x = y := by simpa using hy
    rw [hsz]
    exact d.M_mono (fun k hk => ⟨rfl, hk⟩) hM
  | succ j => simp at hy
/-! ### squintref04_Same: function 23 -/
mutual
def squintref04_Same.j0 : Nat → List (S43) → Int → Int → Int → Bool → Option (Bool)
 | 0, _, _, _, _, _ => none
 | k + 1, x0, x1, x2, x7, x35 => if x35 = true then (some false) else (if 0 ≤ x7 then (if (x7 : Int).toNat ≤ 11728124029610 then (if ([] : List (List Int)).length < 5864062014805 then (squintref04_Same.l0 k x0 x7 (List.replicate (x7 : Int).toNat []) (([] : List (List Int)) ++ [(([x1, x2] : List Int))])) else (none)) else (none)) else (none))
def squintref04_Same.l0 : Nat → List (S43) → Int → List (List Bool) → List (List Int) → Option (Bool)
 | 0, _, _, _, _ => none
 | k + 1, x0, x7, x8, x9 => if (x9.length : Int) > 0 then (if 0 ≤ (wrap64 ((x9.length : Int) - 1)) then (if (wrap64 ((x9.length : Int) - 1)) < (x9.length : Int) then (if 0 < ((rd_L1 x9 (wrap64 ((x9.length : Int) - 1))).length : Int) then (if 1 < ((rd_L1 x9 (wrap64 ((x9.length : Int) - 1))).length : Int) then (if (wrap64 ((x9.length : Int) - 1)) ≤ (x9.length : Int) then ((some (x9.take ((wrap64 ((x9.length : Int) - 1)) : Int).toNat : List (List Int))).bind fun y172 => (if 0 ≤ (rd (rd_L1 x9 (wrap64 ((x9.length : Int) - 1))) 0) then (if (rd (rd_L1 x9 (wrap64 ((x9.length : Int) - 1))) 0) < (x8.length : Int) then (if ((rd_L4 x8 (rd (rd_L1 x9 (wrap64 ((x9.length : Int) - 1))) 0)).length : Int) = 0 then (if 0 ≤ x7 then (if (x7 : Int).toNat ≤ 281474976710656 then (squintref04_Same.j2 k x0 x7 (x8.set ((rd (rd_L1 x9 (wrap64 ((x9.length : Int) - 1))) 0) : Int).toNat (List.replicate (x7 : Int).toNat false)) y172 (rd (rd_L1 x9 (wrap64 ((x9.length : Int) - 1))) 0) (rd (rd_L1 x9 (wrap64 ((x9.length : Int) - 1))) 1)) else (none)) else (none)) else (squintref04_Same.j2 k x0 x7 x8 y172 (rd (rd_L1 x9 (wrap64 ((x9.length : Int) - 1))) 0) (rd (rd_L1 x9 (wrap64 ((x9.length : Int) - 1))) 1))) else (none)) else (none))) else (none)) else (none)) else (none)) else (none)) else (none)) else (some true)
def squintref04_Same.j2 : Nat → List (S43) → Int → List (List Bool) → List (List Int) → Int → Int → Option (Bool)
 | 0, _, _, _, _, _, _ => none
 | k + 1, x0, x7, x8, x9, x10, x11 => if 0 ≤ x10 then (if x10 < (x8.length : Int) then (if 0 ≤ x11 then (if x11 < ((rd_L4 x8 x10).length : Int) then (if rdOf false (rd_L4 x8 x10) x11 = true then (squintref04_Same.l0 k x0 x7 x8 x9) else ((some (x8.set (x10 : Int).toNat ((rd_L4 x8 x10).set (x11 : Int).toNat true) : List (List Bool))).bind fun y185 => (if x10 < (x0.length : Int) then (if x11 < (x0.length : Int) then (if ((rd_T43 x0 x10).f0) = ((rd_T43 x0 x11).f0) then (if (((rd_T43 x0 x10).f2) != ((rd_T43 x0 x11).f2)) = true then (squintref04_Same.j3 k x0 x7 y185 x9 x10 x11 true) else (squintref04_Same.j3 k x0 x7 y185 x9 x10 x11 ((((rd_T43 x0 x10).f1).length : Int) != (((rd_T43 x0 x11).f1).length : Int)))) else (squintref04_Same.j3 k x0 x7 y185 x9 x10 x11 true)) else (none)) else (none)))) else (none)) else (none)) else (none)) else (none)
def squintref04_Same.j3 : Nat → List (S43) → Int → List (List Bool) → List (List Int) → Int → Int → Bool → Option (Bool)
 | 0, _, _, _, _, _, _, _ => none
 | k + 1, x0, x7, x8, x9, x10, x11, x128 => if x128 = true then (some false) else (squintref04_Same.l1 k x0 x7 x8 x9 x10 x11 0)
def squintref04_Same.l1 : Nat → List (S43) → Int → List (List Bool) → List (List Int) → Int → Int → Int → Option (Bool)
 | 0, _, _, _, _, _, _, _ => none
 | k + 1, x0, x7, x8, x9, x10, x11, x12 => if 0 ≤ x10 then (if x10 < (x0.length : Int) then (if x12 < (((rd_T43 x0 x10).f1).length : Int) then (if 0 ≤ x12 then (if 0 ≤ x11 then (if x11 < (x0.length : Int) then (if x12 < (((rd_T43 x0 x11).f1).length : Int) then (if x9.length < 5864062014805 then (squintref04_Same.l1 k x0 x7 x8 (x9 ++ [(([rd ((rd_T43 x0 x10).f1) x12, rd ((rd_T43 x0 x11).f1) x12] : List Int))]) x10 x11 (wrap64 (x12 + 1))) else (none)) else (none)) else (none)) else (none)) else (none)) else (squintref04_Same.l0 k x0 x7 x8 x9)) else (none)) else (none)
end
def squintref04_Same.f (k : Nat) (l0 : List (S43)) (a1 : Int) (a2 : Int) : Option (Bool) := (squintref04_Valid.f k l0).bind fun t158 => (if t158 = true then (if a1 < 0 then (squintref04_Same.j0 k l0 a1 a2 (l0.length : Int) true) else (if a1 ≥ (l0.length : Int) then (squintref04_Same.j0 k l0 a1 a2 (l0.length : Int) true) else (if a2 < 0 then (squintref04_Same.j0 k l0 a1 a2 (l0.length : Int) true) else (squintref04_Same.j0 k l0 a1 a2 (l0.length : Int) (decide (a2 ≥ (l0.length : Int))))))) else (squintref04_Same.j0 k l0 a1 a2 (l0.length : Int) true))
theorem squintref04_Same.mono_l : ∀ k, (∀ y0 y1 y2 y3 y4, LeO (squintref04_Same.j0 k y0 y1 y2 y3 y4) (squintref04_Same.j0 (k + 1) y0 y1 y2 y3 y4)) ∧ (∀ y0 y1 y2 y3, LeO (squintref04_Same.l0 k y0 y1 y2 y3) (squintref04_Same.l0 (k + 1) y0 y1 y2 y3)) ∧ (∀ y0 y1 y2 y3 y4 y5, LeO (squintref04_Same.j2 k y0 y1 y2 y3 y4 y5) (squintref04_Same.j2 (k + 1) y0 y1 y2 y3 y4 y5)) ∧ (∀ y0 y1 y2 y3 y4 y5 y6, LeO (squintref04_Same.j3 k y0 y1 y2 y3 y4 y5 y6) (squintref04_Same.j3 (k + 1) y0 y1 y2 y3 y4 y5 y6)) ∧ (∀ y0 y1 y2 y3 y4 y5 y6, LeO (squintref04_Same.l1 k y0 y1 y2 y3 y4 y5 y6) (squintref04_Same.l1 (k + 1) y0 y1 y2 y3 y4 y5 y6))
 | 0 => ⟨fun _ _ _ _ _ r h => by simp [squintref04_Same.j0] at h, fun _ _ _ _ r h => by simp [squintref04_Same.l0] at h, fun _ _ _ _ _ _ r h => by simp [squintref04_Same.j2] at h, fun _ _ _ _ _ _ _ r h => by simp [squintref04_Same.j3] at h, fun _ _ _ _ _ _ _ r h => by simp [squintref04_Same.l1] at h⟩
 | k + 1 => by
  obtain ⟨ih0, ih1, ih2, ih3, ih4⟩ := squintref04_Same.mono_l k
  refine ⟨?_, ?_, ?_, ?_, ?_⟩
  ·intro y0 y1 y2 y3 y4
   unfold squintref04_Same.j0
   repeat' first
   | (with_reducible exact ih0 _ _ _ _ _)
   | (with_reducible exact ih1 _ _ _ _)
   | (with_reducible exact ih2 _ _ _ _ _ _)
   | (with_reducible exact ih3 _ _ _ _ _ _ _)
   | (with_reducible exact ih4 _ _ _ _ _ _ _)
   | (with_reducible exact squintref04_Valid.mono _ _)
   | (with_reducible exact LeO.refl _)
   | (with_reducible exact LeO.none _)
   | (with_reducible refine LeO.ite ?_ ?_)
   | (with_reducible refine LeO.bind ?_ (fun _ => ?_))
   | exact ih0 _ _ _ _ _
   | exact ih1 _ _ _ _
   | exact ih2 _ _ _ _ _ _
   | exact ih3 _ _ _ _ _ _ _
   | exact ih4 _ _ _ _ _ _ _
   | exact squintref04_Valid.mono _ _
   | exact LeO.none _
   | refine LeO.ite ?_ ?_
   | refine LeO.bind ?_ (fun _ => ?_)
  ·intro y0 y1 y2 y3
   unfold squintref04_Same.l0
   repeat' first
   | (with_reducible exact ih0 _ _ _ _ _)
   | (with_reducible exact ih1 _ _ _ _)
   | (with_reducible exact ih2 _ _ _ _ _ _)
   | (with_reducible exact ih3 _ _ _ _ _ _ _)
   | (with_reducible exact ih4 _ _ _ _ _ _ _)
   | (with_reducible exact squintref04_Valid.mono _ _)
   | (with_reducible exact LeO.refl _)
   | (with_reducible exact LeO.none _)
   | (with_reducible refine LeO.ite ?_ ?_)
   | (with_reducible refine LeO.bind ?_ (fun _ => ?_))
   | exact ih0 _ _ _ _ _
   | exact ih1 _ _ _ _
   | exact ih2 _ _ _ _ _ _
   | exact ih3 _ _ _ _ _ _ _
   | exact ih4 _ _ _ _ _ _ _
   | exact squintref04_Valid.mono _ _
   | exact LeO.none _
   | refine LeO.ite ?_ ?_
   | refine LeO.bind ?_ (fun _ => ?_)
  ·intro y0 y1 y2 y3 y4 y5
   unfold squintref04_Same.j2
   repeat' first
   | (with_reducible exact ih0 _ _ _ _ _)
   | (with_reducible exact ih1 _ _ _ _)
   | (with_reducible exact ih2 _ _ _ _ _ _)
   | (with_reducible exact ih3 _ _ _ _ _ _ _)
   | (with_reducible exact ih4 _ _ _ _ _ _ _)
   | (with_reducible exact squintref04_Valid.mono _ _)
   | (with_reducible exact LeO.refl _)
   | (with_reducible exact LeO.none _)
   | (with_reducible refine LeO.ite ?_ ?_)
   | (with_reducible refine LeO.bind ?_ (fun _ => ?_))
   | exact ih0 _ _ _ _ _
   | exact ih1 _ _ _ _
   | exact ih2 _ _ _ _ _ _
   | exact ih3 _ _ _ _ _ _ _
   | exact ih4 _ _ _ _ _ _ _
   | exact squintref04_Valid.mono _ _
   | exact LeO.none _
   | refine LeO.ite ?_ ?_
   | refine LeO.bind ?_ (fun _ => ?_)
  ·intro y0 y1 y2 y3 y4 y5 y6
   unfold squintref04_Same.j3
   repeat' first
   | (with_reducible exact ih0 _ _ _ _ _)
   | (with_reducible exact ih1 _ _ _ _)
   | (with_reducible exact ih2 _ _ _ _ _ _)
   | (with_reducible exact ih3 _ _ _ _ _ _ _)
   | (with_reducible exact ih4 _ _ _ _ _ _ _)
   | (with_reducible exact squintref04_Valid.mono _ _)
   | (with_reducible exact LeO.refl _)
   | (with_reducible exact LeO.none _)
   | (with_reducible refine LeO.ite ?_ ?_)
   | (with_reducible refine LeO.bind ?_ (fun _ => ?_))
   | exact ih0 _ _ _ _ _
   | exact ih1 _ _ _ _
   | exact ih2 _ _ _ _ _ _
   | exact ih3 _ _ _ _ _ _ _
   | exact ih4 _ _ _ _ _ _ _
   | exact squintref04_Valid.mono _ _
   | exact LeO.none _
   | refine LeO.ite ?_ ?_
   | refine LeO.bind ?_ (fun _ => ?_)
  ·intro y0 y1 y2 y3 y4 y5 y6
   unfold squintref04_Same.l1
   repeat' first
   | (with_reducible exact ih0 _ _ _ _ _)
   | (with_reducible exact ih1 _ _ _ _)
   | (with_reducible exact ih2 _ _ _ _ _ _)
   | (with_reducible exact ih3 _ _ _ _ _ _ _)
   | (with_reducible exact ih4 _ _ _ _ _ _ _)
   | (with_reducible exact squintref04_Valid.mono _ _)
   | (with_reducible exact LeO.refl _)
   | (with_reducible exact LeO.none _)
   | (with_reducible refine LeO.ite ?_ ?_)
   | (with_reducible refine LeO.bind ?_ (fun _ => ?_))
   | exact ih0 _ _ _ _ _
   | exact ih1 _ _ _ _
   | exact ih2 _ _ _ _ _ _
   | exact ih3 _ _ _ _ _ _ _
   | exact ih4 _ _ _ _ _ _ _
   | exact squintref04_Valid.mono _ _
   | exact LeO.none _
   | refine LeO.ite ?_ ?_
   | refine LeO.bind ?_ (fun _ => ?_)
theorem squintref04_Same.mono : ∀ a0 a1 a2 k, LeO (squintref04_Same.f k a0 a1 a2) (squintref04_Same.f (k + 1) a0 a1 a2) := by
 intro a0 a1 a2 k
 obtain ⟨ih0, ih1, ih2, ih3, ih4⟩ := squintref04_Same.mono_l k
 unfold squintref04_Same.f
 repeat' first
   | (with_reducible exact ih0 _ _ _ _ _)
   | (with_reducible exact ih1 _ _ _ _)
   | (with_reducible exact ih2 _ _ _ _ _ _)
   | (with_reducible exact ih3 _ _ _ _ _ _ _)
   | (with_reducible exact ih4 _ _ _ _ _ _ _)
   | (with_reducible exact squintref04_Valid.mono _ _)
   | (with_reducible exact LeO.refl _)
   | (with_reducible exact LeO.none _)
   | (with_reducible refine LeO.ite ?_ ?_)
   | (with_reducible refine LeO.bind ?_ (fun _ => ?_))
   | exact ih0 _ _ _ _ _
   | exact ih1 _ _ _ _
   | exact ih2 _ _ _ _ _ _
   | exact ih3 _ _ _ _ _ _ _
   | exact ih4 _ _ _ _ _ _ _
   | exact squintref04_Valid.mono _ _
   | exact LeO.none _
   | refine LeO.ite ?_ ?_
   | refine LeO.bind ?_ (fun _ => ?_)
def squintref04_Same.T14 : Bool × List (List Nat × List Nat) := (true, [([], []), ([], []), ([0, 1], [0, 1]), ([2], [2]), ([3], [3]), ([], []), ([], []), ([5, 6], [5, 6]), ([7], [7]), ([8], [8]), ([4, 9], [4, 9]), ([10], [10]), ([11], [11]), ([11], [11]), ([12, 13, 11], [11, 12, 13]), ([14, 11], [11, 14]), ([15, 11], [11, 15]), ([11], [11]), ([11], [11]), ([17, 18, 11], [11, 17, 18]), ([19, 11], [11, 19]), ([20, 11], [11, 20]), ([16, 21, 11], [11, 16, 21]), ([11, 22], [11, 22]), ([23, 11], [23]), ([24], [24]), ([24], [24]), ([25, 26, 24], [24, 25, 26]), ([27, 24], [24, 27]), ([28, 24], [24, 28]), ([29, 24], [24, 29]), ([24], [24]), ([24], [24]), ([31, 32, 24], [24, 31, 32]), ([33, 24], [24, 33]), ([34, 24], [24, 34]), ([35, 24], [24, 35]), ([30, 36, 24], [24, 30, 36]), ([24, 37], [24, 37])])
def squintref04_Same.B14 : List Nat := [0, 0, 3, 7, 15, 0, 0, 96, 224, 480, 1023, 2047, 4095, 4095, 16383, 32767, 65535, 4095, 4095, 397311, 921599, 1970175, 4194303, 8388607, 16777215, 33554431, 33554431, 134217727, 268435455, 536870911, 1073741823, 33554431, 33554431, 6476005375, 15065939967, 32245809151, 66605547519, 137438953471, 274877906943]
theorem squintref04_Same.tab14 : rtab .any (opsOf Try.f23 14) = squintref04_Same.T14 := by kernel_rfl
theorem squintref04_Same.bits14 : waitsOk squintref04_Same.T14.2 squintref04_Same.B14 = true := by kernel_rfl
def squintref04_Same.T19 : Bool × List (List Nat × List Nat) := (true, [([], []), ([], []), ([], []), ([1, 2], [1, 2]), ([3], [3]), ([4], [4]), ([], []), ([5, 6], [5, 6]), ([7], [7]), ([], []), ([], []), ([9, 10], [9, 10]), ([11], [11]), ([12], [12]), ([], []), ([13, 14], [13, 14]), ([15], [15]), ([8, 16], [8, 16]), ([17], [17]), ([0, 18], [0, 18]), ([19, 19, 0, 1, 2, 3, 4, 5, 6, 7, 8, 9, 10, 11, 12, 13, 14, 15, 16, 17, 18, 19], [0, 19])])
def squintref04_Same.B19 : List Nat := [0, 0, 0, 6, 14, 30, 0, 126, 254, 0, 0, 1536, 3584, 7680, 0, 32256, 65024, 131070, 262142, 524287, 1048575]
theorem squintref04_Same.tab19 : rtab .any (opsOf Try.f23 19) = squintref04_Same.T19 := by kernel_rfl
theorem squintref04_Same.bits19 : waitsOk squintref04_Same.T19.2 squintref04_Same.B19 = true := by kernel_rfl
set_option maxHeartbeats 8000000 in
set_option maxRecDepth 100000 in
theorem squintref04_Same.calls (k : Nat) (A0 : Option Addr) (c0 : Nat) (l0 : List (S43)) (a1 : Int) (a2 : Int) (r : Bool) (w : World) (hr0 : Kd.C k43 w A0 l0.length l0) (hc0 : l0.length ≤ c0) (h : squintref04_Same.f k l0 a1 a2 = some r) :
  Calls Try.prog 23 #[.slice A0 l0.length c0, .int .i64 a1, .int .i64 a2] w fun e w' => e = .returned (.bool r) ∧ Below w.heap.size w w' := by
 have HR0 := Aside0.mk hr0
 have HC0 := Aside0.mk hc0
 clear hr0 hc0
 have HB := Aside0.mk (Below.refl w.heap.size w)
 have H : ((squintref04_Valid.f k l0).bind fun t158 => (if t158 = true then (if a1 < 0 then (squintref04_Same.j0 k l0 a1 a2 (l0.length : Int) true) else (if a1 ≥ (l0.length : Int) then (squintref04_Same.j0 k l0 a1 a2 (l0.length : Int) true) else (if a2 < 0 then (squintref04_Same.j0 k l0 a1 a2 (l0.length : Int) true) else (squintref04_Same.j0 k l0 a1 a2 (l0.length : Int) (decide (a2 ≥ (l0.length : Int))))))) else (squintref04_Same.j0 k l0 a1 a2 (l0.length : Int) true))) = some r := h
 clear h
 have HC4 := Aside0.mk H
 clear H
 go_enter Try.func23, Try.ntmps23
 go_upto_region 2 with (fail)
 go_cut [35] (fun v35 wc => ∃ (kq : Nat) (x35_3 : Bool), v35 = .bool x35_3 ∧ Aside0 (squintref04_Same.j0 kq l0 a1 a2 (l0.length : Int) x35_3 = some r) ∧ Aside0 (kq ≤ k) ∧ Aside0 (Below w.heap.size w wc))
 case first => as_aux_lemma =>
  have H := HC4.out
  clear HC4
  replace H := Option.bind_eq_some_iff.mp H
  obtain ⟨t158, A50, H⟩ := H
  replace H : (if t158 = true then (if a1 < 0 then (squintref04_Same.j0 k l0 a1 a2 (l0.length : Int) true) else (if a1 ≥ (l0.length : Int) then (squintref04_Same.j0 k l0 a1 a2 (l0.length : Int) true) else (if a2 < 0 then (squintref04_Same.j0 k l0 a1 a2 (l0.length : Int) true) else (squintref04_Same.j0 k l0 a1 a2 (l0.length : Int) (decide (a2 ≥ (l0.length : Int))))))) else (squintref04_Same.j0 k l0 a1 a2 (l0.length : Int) true)) = some r := H
  have A5 := Aside0.mk A50
  clear A50
  by_cases c6 : t158 = true
  ·subst c6
   have H1 : (if a1 < 0 then (squintref04_Same.j0 k l0 a1 a2 (l0.length : Int) true) else (if a1 ≥ (l0.length : Int) then (squintref04_Same.j0 k l0 a1 a2 (l0.length : Int) true) else (if a2 < 0 then (squintref04_Same.j0 k l0 a1 a2 (l0.length : Int) true) else (squintref04_Same.j0 k l0 a1 a2 (l0.length : Int) (decide (a2 ≥ (l0.length : Int))))))) = some r := by rw [if_pos rfl] at H; exact H
   clear H
   have H := H1
   clear H1
   by_cases c7 : a1 < 0
   ·rw [if_pos c7] at H
    have c7b0 : decide (a1 < 0) = true := decide_eq_true c7
    clear c7
    (first | rw [c7b0] | (simp only [i64_w, i32_w]; rw [c7b0]) | skip)
    have H' := Aside0.mk H
    clear H
    go_wp2_with (first | ((with_reducible refine gate_callee (f := 21) rfl ?_); refine goesL_ (some 16) rfl rfl Try.func21 (by kernel_rfl) rfl #[.slice A0 l0.length c0] rfl (by (try simp only [List.map_toArray, List.map_cons, List.map_nil]); first | done | rfl | (simp only [List.length_drop, List.length_take]; rfl)) ?_; (with_reducible refine (squintref04_Valid.calls k _ _ l0 true _ ?side1 ?side2 A5.out).mono ?_); (case side1 => repeat (first | exact (Kd.C_below HR0.out HB.out) | (with_reducible refine Kd.C_alloc ?_ _) | (with_reducible refine Kd.C_drewN ?_ _) | (with_reducible refine Kd.C_drew ?_))); (case side2 => exact HC0.out); rintro e w' ⟨rfl, ⟨nd, rfl⟩⟩; refine ⟨_, rfl, ?_⟩))
    go_meet
    case rel => exact ⟨_, (true), (by first | rfl | (simp; done) | (simp [*]; done)), H', ⟨by first | omega | exact Nat.le_refl _⟩, ⟨by repeat (first | (with_reducible first | exact HB.out | apply below_alloc | apply pw_below_drewN | apply below_drew1) | exact HB.out)⟩⟩
   ·rw [if_neg c7] at H
    have c7b0 : decide (a1 < 0) = false := decide_eq_false c7
    clear c7
    (first | rw [c7b0] | (simp only [i64_w, i32_w]; rw [c7b0]) | skip)
    by_cases c8 : a1 ≥ (l0.length : Int)
    ·rw [if_pos c8] at H
     have c8b0 : decide ((l0.length : Int) ≤ a1) = true := decide_eq_true c8
     clear c8
     have H' := Aside0.mk H
     clear H
     go_wp2_with (first | ((with_reducible refine gate_callee (f := 21) rfl ?_); refine goesL_ (some 16) rfl rfl Try.func21 (by kernel_rfl) rfl #[.slice A0 l0.length c0] rfl (by (try simp only [List.map_toArray, List.map_cons, List.map_nil]); first | done | rfl | (simp only [List.length_drop, List.length_take]; rfl)) ?_; (with_reducible refine (squintref04_Valid.calls k _ _ l0 true _ ?side1 ?side2 A5.out).mono ?_); (case side1 => repeat (first | exact (Kd.C_below HR0.out HB.out) | (with_reducible refine Kd.C_alloc ?_ _) | (with_reducible refine Kd.C_drewN ?_ _) | (with_reducible refine Kd.C_drew ?_))); (case side2 => exact HC0.out); rintro e w' ⟨rfl, ⟨nd, rfl⟩⟩; refine ⟨_, rfl, ?_⟩))
     go_meet
     case rel => exact ⟨_, (true), (by first | rfl | (simp; done) | (simp [*]; done)), H', ⟨by first | omega | exact Nat.le_refl _⟩, ⟨by repeat (first | (with_reducible first | exact HB.out | apply below_alloc | apply pw_below_drewN | apply below_drew1) | exact HB.out)⟩⟩
    ·rw [if_neg c8] at H
     have c8b0 : decide ((l0.length : Int) ≤ a1) = false := decide_eq_false c8
     clear c8
     by_cases c9 : a2 < 0
     ·rw [if_pos c9] at H
      have c9b0 : decide (a2 < 0) = true := decide_eq_true c9
      clear c9
      have H' := Aside0.mk H
      clear H
      go_wp2_with (first | ((with_reducible refine gate_callee (f := 21) rfl ?_); refine goesL_ (some 16) rfl rfl Try.func21 (by kernel_rfl) rfl #[.slice A0 l0.length c0] rfl (by (try simp only [List.map_toArray, List.map_cons, List.map_nil]); first | done | rfl | (simp only [List.length_drop, List.length_take]; rfl)) ?_; (with_reducible refine (squintref04_Valid.calls k _ _ l0 true _ ?side1 ?side2 A5.out).mono ?_); (case side1 => repeat (first | exact (Kd.C_below HR0.out HB.out) | (with_reducible refine Kd.C_alloc ?_ _) | (with_reducible refine Kd.C_drewN ?_ _) | (with_reducible refine Kd.C_drew ?_))); (case side2 => exact HC0.out); rintro e w' ⟨rfl, ⟨nd, rfl⟩⟩; refine ⟨_, rfl, ?_⟩))
      go_meet
      case rel => exact ⟨_, (true), (by first | rfl | (simp; done) | (simp [*]; done)), H', ⟨by first | omega | exact Nat.le_refl _⟩, ⟨by repeat (first | (with_reducible first | exact HB.out | apply below_alloc | apply pw_below_drewN | apply below_drew1) | exact HB.out)⟩⟩
     ·rw [if_neg c9] at H
      have c9b0 : decide (a2 < 0) = false := decide_eq_false c9
      clear c9
      have H' := Aside0.mk H
      clear H
      go_wp2_with (first | ((with_reducible refine gate_callee (f := 21) rfl ?_); refine goesL_ (some 16) rfl rfl Try.func21 (by kernel_rfl) rfl #[.slice A0 l0.length c0] rfl (by (try simp only [List.map_toArray, List.map_cons, List.map_nil]); first | done | rfl | (simp only [List.length_drop, List.length_take]; rfl)) ?_; (with_reducible refine (squintref04_Valid.calls k _ _ l0 true _ ?side1 ?side2 A5.out).mono ?_); (case side1 => repeat (first | exact (Kd.C_below HR0.out HB.out) | (with_reducible refine Kd.C_alloc ?_ _) | (with_reducible refine Kd.C_drewN ?_ _) | (with_reducible refine Kd.C_drew ?_))); (case side2 => exact HC0.out); rintro e w' ⟨rfl, ⟨nd, rfl⟩⟩; refine ⟨_, rfl, ?_⟩))
      go_meet
      case rel => exact ⟨_, (decide (a2 ≥ (l0.length : Int))), (by first | rfl | (simp; done) | (simp [*]; done)), H', ⟨by first | omega | exact Nat.le_refl _⟩, ⟨by repeat (first | (with_reducible first | exact HB.out | apply below_alloc | apply pw_below_drewN | apply below_drew1) | exact HB.out)⟩⟩
  ·replace c6 := Bool.eq_false_iff.mpr c6
   subst c6
   have H1 : (squintref04_Same.j0 k l0 a1 a2 (l0.length : Int) true) = some r := by rw [if_neg (show ¬ (false = true) by decide)] at H; exact H
   clear H
   have H := H1
   clear H1
   have H' := Aside0.mk H
   clear H
   go_wp2_with (first | ((with_reducible refine gate_callee (f := 21) rfl ?_); refine goesL_ (some 16) rfl rfl Try.func21 (by kernel_rfl) rfl #[.slice A0 l0.length c0] rfl (by (try simp only [List.map_toArray, List.map_cons, List.map_nil]); first | done | rfl | (simp only [List.length_drop, List.length_take]; rfl)) ?_; (with_reducible refine (squintref04_Valid.calls k _ _ l0 false _ ?side1 ?side2 A5.out).mono ?_); (case side1 => repeat (first | exact (Kd.C_below HR0.out HB.out) | (with_reducible refine Kd.C_alloc ?_ _) | (with_reducible refine Kd.C_drewN ?_ _) | (with_reducible refine Kd.C_drew ?_))); (case side2 => exact HC0.out); rintro e w' ⟨rfl, ⟨nd, rfl⟩⟩; refine ⟨_, rfl, ?_⟩))
   go_meet
   case rel => exact ⟨_, (true), (by first | rfl | (simp; done) | (simp [*]; done)), H', ⟨by first | omega | exact Nat.le_refl _⟩, ⟨by repeat (first | (with_reducible first | exact HB.out | apply below_alloc | apply pw_below_drewN | apply below_drew1) | exact HB.out)⟩⟩
 case rest => as_aux_lemma =>
  clear HC4
  try clear c2
  try clear p2
  try clear c6
  try clear c7
  try clear c7b0
  try clear c8
  try clear c8b0
  try clear c9
  try clear c9b0
  obtain ⟨kq, x35_3, rfl, HA, HJ3, HB⟩ := hcut
  cases kq with
  | zero => exact absurd HA.out (by simp [squintref04_Same.j0])
  | succ kj3 =>
   have H := HA.out
   clear HA
   simp only [squintref04_Same.j0] at H
   by_cases c10 : x35_3 = true
   ·subst c10
    have H1 : (some false) = some r := by rw [if_pos rfl] at H; exact H
    clear H
    have H := H1
    clear H1
    obtain rfl := Option.some.inj H
    go_wp2
    go_ret
    exact ⟨by first | rfl | (simp [errW_none, errW_some] <;> rfl) | (simp [*, errW_none, errW_some] <;> rfl), by repeat (first | (with_reducible first | exact HB.out | apply below_alloc | apply pw_below_drewN | apply below_drew1) | exact HB.out)⟩
   ·replace c10 := Bool.eq_false_iff.mpr c10
    subst c10
    have H1 : (if 0 ≤ (l0.length : Int) then (if ((l0.length : Int) : Int).toNat ≤ 11728124029610 then (if ([] : List (List Int)).length < 5864062014805 then (squintref04_Same.l0 kj3 l0 (l0.length : Int) (List.replicate ((l0.length : Int) : Int).toNat []) (([] : List (List Int)) ++ [(([a1, a2] : List Int))])) else (none)) else (none)) else (none)) = some r := by rw [if_neg (show ¬ (false = true) by decide)] at H; exact H
    clear H
    have H := H1
    clear H1
    by_cases c11 : 0 ≤ (l0.length : Int)
    ·rw [if_pos c11] at H
     have c11b0 := eq_true c11
     have c11b1 : decide (0 ≤ (l0.length : Int)) = true := decide_eq_true c11
     clear c11
     by_cases c12 : ((l0.length : Int) : Int).toNat ≤ 11728124029610
     ·rw [if_pos c12] at H
      have c12b0 := eq_true c12
      have c12b1 : decide (((l0.length : Int) : Int).toNat ≤ 11728124029610) = true := decide_eq_true c12
      clear c12
      obtain ⟨y159, hy159⟩ : ∃ y_ : List (List Bool), y_ = (List.replicate ((l0.length : Int) : Int).toNat []) := ⟨_, rfl⟩
      replace H : (if ([] : List (List Int)).length < 5864062014805 then (squintref04_Same.l0 kj3 l0 (l0.length : Int) y159 (([] : List (List Int)) ++ [(([a1, a2] : List Int))])) else (none)) = some r := by first | (rw [hy159]; with_reducible exact H) | (have H2_ := (Option.bind_some _ _).symm.trans H; rw [hy159]; with_reducible exact H2_) | (have H2_ := (Option.bind_some _ _).symm.trans H; with_reducible exact H2_) | with_reducible exact H | (rw [hy159]; exact H) | exact H
      have Ny159 := Aside0.mk hy159
      clear hy159
      obtain ⟨y162, hy162⟩ : ∃ y_ : List Int, y_ = (([a1, a2] : List Int)) := ⟨_, rfl⟩
      replace H : (if ([] : List (List Int)).length < 5864062014805 then (squintref04_Same.l0 kj3 l0 (l0.length : Int) y159 (([] : List (List Int)) ++ [y162])) else (none)) = some r := by first | (rw [hy162]; with_reducible exact H) | (have H2_ := (Option.bind_some _ _).symm.trans H; rw [hy162]; with_reducible exact H2_) | (have H2_ := (Option.bind_some _ _).symm.trans H; with_reducible exact H2_) | with_reducible exact H | (rw [hy162]; exact H) | exact H
      have Ny162 := Aside0.mk hy162
      clear hy162
      by_cases c13 : ([] : List (List Int)).length < 5864062014805
      ·rw [if_pos c13] at H
       have LMc13 := Aside0.mk c13
       clear c13
       obtain ⟨y165, hy165⟩ : ∃ y_ : List (List Int), y_ = (([] : List (List Int)) ++ [y162]) := ⟨_, rfl⟩
       replace H : (squintref04_Same.l0 kj3 l0 (l0.length : Int) y159 y165) = some r := by first | (rw [hy165]; with_reducible exact H) | (have H2_ := (Option.bind_some _ _).symm.trans H; rw [hy165]; with_reducible exact H2_) | (have H2_ := (Option.bind_some _ _).symm.trans H; with_reducible exact H2_) | with_reducible exact H | (rw [hy165]; exact H) | exact H
       have Ny165 := Aside0.mk hy165
       clear hy165
       have H' := Aside0.mk H
       clear H
       go_wp2_with (first | ((with_reducible refine gate_dst (N := 37) rfl ?_); (try (refine gate_guard (by rfl) ?_; dsimp only)); refine Kd.S_make (Kd.slice 4 Kd.bool) _ 66 rfl (N := 37) rfl 65 _ _ rfl (l0.length : Int) rfl rfl Try.underlying65 (.slice none 0 0) 24 info66 rfl (by decide) (by omega) [] (ok := fun _ => True) (okp := fun _ => True) ⟨_, rfl, Kd.R_nil _ _ _ _ _⟩ (fun _ hk => hk) trivial (of_decide_eq_true (by first | (with_reducible assumption) | assumption)) (Nat.le_trans (Nat.mul_le_mul_right _ (of_decide_eq_true (by first | (with_reducible assumption) | assumption) : (l0.length : Int).toNat ≤ 11728124029610)) (by omega)) (Below.refl _ _) (Nat.le_refl _) ?_; intro v160 w14 ho15 hb hg_ hnew_; clear hg_ hnew_; (first | rw [← Ny159.out] at ho15 | (simp only [Int.reduceToNat] at ho15; rw [← Ny159.out] at ho15)); have n0_ := Aside0.mk (Kd.S_lower ho15 (below_size (by repeat (first | (with_reducible first | exact HB.out | apply below_alloc | apply pw_below_drewN | apply below_drew1) | exact HB.out)))); have n1_ := Aside0.mk (below_step (by repeat (first | (with_reducible first | exact HB.out | apply below_alloc | apply pw_below_drewN | apply below_drew1) | exact HB.out)) hb); clear HB; have HO161 := n0_; have HB := n1_; clear n0_ n1_; clear hb ho15) | ((with_reducible refine gate_dst (N := 40) rfl ?_); (try (refine gate_guard (by rfl) ?_; dsimp only)); refine Kd.R_lit (Kd.int .i64) _ 3 ?hg (N := 40) ?hd (xs := ([a1, a2] : List Int)) (inner := [.int .i64 a1, .int .i64 a2]) (ok := fun _ => True) (okp := fun _ => True) ?hr ?hp (fun _ hk => hk) trivial (Below.refl _ _) (Nat.le_refl _) (by simp) ?_; (case hd => rfl); (case hg => rfl); (case hr => first | (go_simp; done) | (go_simp; rfl)); (case hp => exact (Reps.one (show Kd.M (Kd.int .i64) _ _ _ a1 [.int .i64 a1] from rfl) (Reps.one (show Kd.M (Kd.int .i64) _ _ _ a2 [.int .i64 a2] from rfl) (Reps.none _ _)))); intro v163 w16 ho17 hb hg_ hnew_; clear hg_ hnew_; (first | rw [← Ny162.out] at ho17 | (simp only [Int.reduceToNat] at ho17; rw [← Ny162.out] at ho17)); have n0_ := Aside0.mk (Kd.S_below (by (with_reducible repeat (first | apply Kd.S_alloc | apply Kd.S_drewN | apply Kd.S_drew)); exact HO161.out) hb); have n1_ := Aside0.mk (Kd.R_lower ho17 (below_size (by repeat (first | (with_reducible first | exact HB.out | apply below_alloc | apply pw_below_drewN | apply below_drew1) | exact HB.out)))); have n2_ := Aside0.mk (below_step (by repeat (first | (with_reducible first | exact HB.out | apply below_alloc | apply pw_below_drewN | apply below_drew1) | exact HB.out)) hb); clear HO161; clear HB; have HO161 := n0_; have HO164 := n1_; have HB := n2_; clear n0_ n1_ n2_; clear hb ho17; obtain ⟨Ao19, co19, eo19⟩ := Kd.R_slice HO164.out; subst eo19) | ((with_reducible refine gate_dst (N := 41) rfl ?_); (try (refine gate_guard (by rfl) ?_; dsimp only)); refine S_lit1 (Kd.slice 3 (Kd.int .i64)) (w0 := w) w.heap.size 24 ?hg (N := 41) ?hd (x := y162) (v := .slice Ao19 y162.length co19) rfl ?hr ?hp ?aB ?aS ?_; (case hd => rfl); (case hg => rfl); (case hr => first | (go_simp; done) | (go_simp; rfl)); (case hp => exact Kd.M_row (Kd.R_tight rfl HO164.out)); (case aB => exact (by repeat (first | (with_reducible first | exact HB.out | apply below_alloc | apply pw_below_drewN | apply below_drew1) | exact HB.out))); (case aS => exact (below_size (by repeat (first | (with_reducible first | exact HB.out | apply below_alloc | apply pw_below_drewN | apply below_drew1) | exact HB.out)))); intro v166 w18 ho hb hg hat; rw [show ([y162] : List (List Int)) = y165 from Ny165.out.symm] at ho; have n0_ := Aside0.mk (Kd.S_grown (by (with_reducible repeat (first | apply Kd.S_alloc | apply Kd.S_drewN | apply Kd.S_drew)); exact HO161.out) hg (fun _ _ => by simp [Value.ownBlock])); have n1_ := Aside0.mk (hb); have n2_ := Aside0.mk (ho); clear HO161; clear HB; clear HO164; have HO161 := n0_; have HB := n1_; have HO167 := n2_; clear n0_ n1_ n2_; clear ho hb hg hat))
       go_loopg [9] kj3 (fun kq v9 w' => ∃ (x8_2 : List (List Bool)) (x9_2 : List (List Int)), Aside0 (squintref04_Same.l0 kq l0 (l0.length : Int) x8_2 x9_2 = some r) ∧ Aside0 (kq ≤ kj3) ∧ Aside0 (Kd.S (Kd.slice 4 Kd.bool) 66 w' w.heap.size (fun _ => True) v160 x8_2) ∧ Aside0 (Kd.S (Kd.slice 3 (Kd.int .i64)) 24 w' w.heap.size (fun _ => True) v9 x9_2) ∧ Aside0 (Below w.heap.size w w'))
       case atStart => exact ⟨(y159), (y165), H', ⟨Nat.le_refl _⟩, ⟨by (with_reducible repeat (first | apply Kd.S_alloc | apply Kd.S_drewN | apply Kd.S_drew)); exact HO161.out⟩, ⟨by (with_reducible repeat (first | apply Kd.S_alloc | apply Kd.S_drewN | apply Kd.S_drew)); exact HO167.out⟩, ⟨by repeat (first | (with_reducible first | exact HB.out | apply below_alloc | apply pw_below_drewN | apply below_drew1) | exact HB.out)⟩⟩
       case round => as_aux_lemma =>
        clear H'
        try clear c1
        try clear c2
        try clear p2
        try clear c6
        try clear c7
        try clear c7b0
        try clear c8
        try clear c8b0
        try clear c9
        try clear c9b0
        try clear c10
        try clear c11
        try clear c11b0
        try clear c11b1
        try clear c12
        try clear c12b0
        try clear c12b1
        try clear c13
        try clear p2
        obtain ⟨x8_2, x9_2, HA, HK2, HO_8, HO_9, HB⟩ := hrel
        cases gk with
        | zero => exact absurd HA.out (by simp [squintref04_Same.l0])
        | succ k2 =>
         have H := HA.out
         clear HA
         simp only [squintref04_Same.l0] at H
         by_cases c20 : (x9_2.length : Int) > 0
         ·rw [if_pos c20] at H
          have c20b0 : decide (0 < (x9_2.length : Int)) = true := decide_eq_true c20
          have c20b1 : decide (0 < x9_2.length) = true := decide_eq_true (by omega)
          clear c20
          obtain ⟨ji21, hji21⟩ : ∃ j_ : Int, (wrap64 ((x9_2.length : Int) - 1)) = j_ := ⟨_, rfl⟩
          replace H : (if 0 ≤ (ji21) then (if (ji21) < (x9_2.length : Int) then (if 0 < ((rd_L1 x9_2 (ji21)).length : Int) then (if 1 < ((rd_L1 x9_2 (ji21)).length : Int) then (if (ji21) ≤ (x9_2.length : Int) then ((some (x9_2.take ((ji21) : Int).toNat : List (List Int))).bind fun y172 => (if 0 ≤ (rd (rd_L1 x9_2 (ji21)) 0) then (if (rd (rd_L1 x9_2 (ji21)) 0) < (x8_2.length : Int) then (if ((rd_L4 x8_2 (rd (rd_L1 x9_2 (ji21)) 0)).length : Int) = 0 then (if 0 ≤ (l0.length : Int) then (if ((l0.length : Int) : Int).toNat ≤ 281474976710656 then (squintref04_Same.j2 k2 l0 (l0.length : Int) (x8_2.set ((rd (rd_L1 x9_2 (ji21)) 0) : Int).toNat (List.replicate ((l0.length : Int) : Int).toNat false)) y172 (rd (rd_L1 x9_2 (ji21)) 0) (rd (rd_L1 x9_2 (ji21)) 1)) else (none)) else (none)) else (squintref04_Same.j2 k2 l0 (l0.length : Int) x8_2 y172 (rd (rd_L1 x9_2 (ji21)) 0) (rd (rd_L1 x9_2 (ji21)) 1))) else (none)) else (none))) else (none)) else (none)) else (none)) else (none)) else (none)) = some r := by first | (rw [hji21] at H; exact H) | (simp only [hji21] at H ⊢; exact H)
          have hji21w : (IntKind.i64.wrap ((x9_2.length : Int) - 1)) = ji21 := (i64_w _).trans hji21
          by_cases c22 : 0 ≤ (ji21)
          ·rw [if_pos c22] at H
           have c22b0 : decide (0 ≤ (ji21)) = true := decide_eq_true c22
           clear c22
           by_cases c23 : (ji21) < (x9_2.length : Int)
           ·rw [if_pos c23] at H
            have c23b0 : decide ((ji21) < (x9_2.length : Int)) = true := decide_eq_true c23
            clear c23
            by_cases c24 : 0 < ((rd_L1 x9_2 (ji21)).length : Int)
            ·rw [if_pos c24] at H
             have c24b0 : decide (0 < ((rd_L1 x9_2 (ji21)).length : Int)) = true := decide_eq_true c24
             have c24b1 : decide (0 < (rd_L1 x9_2 (ji21)).length) = true := decide_eq_true (by omega)
             clear c24
             by_cases c25 : 1 < ((rd_L1 x9_2 (ji21)).length : Int)
             ·rw [if_pos c25] at H
              have c25b0 : decide (1 < ((rd_L1 x9_2 (ji21)).length : Int)) = true := decide_eq_true c25
              have c25b1 : decide (1 < (rd_L1 x9_2 (ji21)).length) = true := decide_eq_true (by omega)
              clear c25
              by_cases c26 : (ji21) ≤ (x9_2.length : Int)
              ·rw [if_pos c26] at H
               have c26b0 := eq_true c26
               have c26b1 : decide ((ji21) ≤ (x9_2.length : Int)) = true := decide_eq_true c26
               clear c26
               obtain ⟨y172, hy172⟩ : ∃ y_ : List (List Int), y_ = (x9_2.take ((ji21) : Int).toNat) := ⟨_, rfl⟩
               replace H : (if 0 ≤ (rd (rd_L1 x9_2 (ji21)) 0) then (if (rd (rd_L1 x9_2 (ji21)) 0) < (x8_2.length : Int) then (if ((rd_L4 x8_2 (rd (rd_L1 x9_2 (ji21)) 0)).length : Int) = 0 then (if 0 ≤ (l0.length : Int) then (if ((l0.length : Int) : Int).toNat ≤ 281474976710656 then (squintref04_Same.j2 k2 l0 (l0.length : Int) (x8_2.set ((rd (rd_L1 x9_2 (ji21)) 0) : Int).toNat (List.replicate ((l0.length : Int) : Int).toNat false)) y172 (rd (rd_L1 x9_2 (ji21)) 0) (rd (rd_L1 x9_2 (ji21)) 1)) else (none)) else (none)) else (squintref04_Same.j2 k2 l0 (l0.length : Int) x8_2 y172 (rd (rd_L1 x9_2 (ji21)) 0) (rd (rd_L1 x9_2 (ji21)) 1))) else (none)) else (none)) = some r := by first | (rw [hy172]; with_reducible exact H) | (have H2_ := (Option.bind_some _ _).symm.trans H; rw [hy172]; with_reducible exact H2_) | (have H2_ := (Option.bind_some _ _).symm.trans H; with_reducible exact H2_) | with_reducible exact H | (rw [hy172]; exact H) | exact H
               have Ny172 := Aside0.mk hy172
               clear hy172
               by_cases c27 : 0 ≤ (rd (rd_L1 x9_2 (ji21)) 0)
               ·rw [if_pos c27] at H
                have c27b0 : decide (0 ≤ (rd (rd_L1 x9_2 (ji21)) 0)) = true := decide_eq_true c27
                clear c27
                by_cases c28 : (rd (rd_L1 x9_2 (ji21)) 0) < (x8_2.length : Int)
                ·rw [if_pos c28] at H
                 have c28b0 : decide ((rd (rd_L1 x9_2 (ji21)) 0) < (x8_2.length : Int)) = true := decide_eq_true c28
                 clear c28
                 have HC29 := Aside0.mk H
                 clear H
                 obtain ⟨Ao30, co30, eo30⟩ := Kd.S_slice HO_9.out
                 subst eo30
                 have p168 : 0 ≤ ((ji21) : Int) := of_decide_eq_true (by first | (with_reducible assumption) | assumption)
                 have q168 : (ji21) < (x9_2.length : Int) := of_decide_eq_true (by first | (with_reducible assumption) | assumption)
                 obtain ⟨ad168, A168_0, c168_0, e168, hx168_0, hl168_0, hi168_0⟩ := at_L1 (Kd.S_reads' HO_9.out).2.2 (ji21) p168 q168
                 cases e168
                 obtain ⟨ce168, hce168, hMe168, hcc168⟩ := Kd.S_get HO_9.out [] (ji21) p168 (by first | exact q168 | exact of_decide_eq_true (by first | (with_reducible assumption) | assumption) | (have e_ := (Kd.S_reads' HO_9.out).1; omega))
                 obtain ⟨ve168_0, rfl, ge168_0⟩ := hMe168
                 have hv168_0 := hcc168 0 _ rfl
                 rw [Nat.add_zero, show ((Kd.slice 3 (Kd.int .i64))).sz = 1 from rfl, Nat.mul_one] at hv168_0
                 replace hv168_0 := Option.some.inj (hv168_0.symm.trans hx168_0)
                 rw [hv168_0] at ge168_0
                 have HL168_0 := Aside0.mk (show Kd.R (Kd.int .i64) 3 _ _ _ _ (rd_L1 x9_2 (ji21)) from ge168_0)
                 clear hv168_0 ge168_0
                 have HX168_0 := Aside0.mk hx168_0
                 clear hcc168 hce168
                 have HR168_0 := Aside0.mk hi168_0
                 have HC168_0 := Aside0.mk hl168_0
                 clear hi168_0 hl168_0
                 replace p168 := eq_true p168
                 replace q168 := eq_true q168
                 have p169 : 0 ≤ (0 : Int) := (by omega)
                 have q169 : 0 < ((rd_L1 x9_2 (ji21)).length : Int) := of_decide_eq_true (by first | (with_reducible assumption) | assumption)
                 obtain ⟨ad169, e169, hx169_0⟩ := Kd.at_int (by repeat (first | (with_reducible exact HR168_0.out) | (with_reducible refine Kd.C_alloc ?_ _) | (with_reducible refine Kd.C_drewN ?_ _) | (with_reducible refine Kd.C_drew ?_) | exact HR168_0.out)) 0 p169 q169
                 cases e169
                 have qi169 : (0 < (rd_L1 x9_2 (ji21)).length) = True := eq_true (by omega)
                 (try rw [show ((0 : Int)).toNat = 0 from rfl] at hx169_0)
                 (try rw [Addr.add_zero'] at hx169_0)
                 replace p169 := eq_true p169
                 replace q169 := eq_true q169
                 have p170 : 0 ≤ ((ji21) : Int) := of_decide_eq_true (by first | (with_reducible assumption) | assumption)
                 have q170 : (ji21) < (x9_2.length : Int) := of_decide_eq_true (by first | (with_reducible assumption) | assumption)
                 obtain ⟨ad170, A170_0, c170_0, e170, hx170_0, hl170_0, hi170_0⟩ := at_L1 (Kd.S_reads' HO_9.out).2.2 (ji21) p170 q170
                 obtain rfl : ad168 = ad170 := (by injection e170)
                 obtain ⟨ce170, hce170, hMe170, hcc170⟩ := Kd.S_get HO_9.out [] (ji21) p170 (by first | exact q170 | exact of_decide_eq_true (by first | (with_reducible assumption) | assumption) | (have e_ := (Kd.S_reads' HO_9.out).1; omega))
                 obtain ⟨ve170_0, rfl, ge170_0⟩ := hMe170
                 have hv170_0 := hcc170 0 _ rfl
                 rw [Nat.add_zero, show ((Kd.slice 3 (Kd.int .i64))).sz = 1 from rfl, Nat.mul_one] at hv170_0
                 replace hv170_0 := Option.some.inj (hv170_0.symm.trans hx170_0)
                 rw [hv170_0] at ge170_0
                 have HL170_0 := Aside0.mk (show Kd.R (Kd.int .i64) 3 _ _ _ _ (rd_L1 x9_2 (ji21)) from ge170_0)
                 clear hv170_0 ge170_0
                 have HX170_0 := Aside0.mk hx170_0
                 clear hcc170 hce170
                 have HR170_0 := Aside0.mk hi170_0
                 have HC170_0 := Aside0.mk hl170_0
                 clear hi170_0 hl170_0
                 replace p170 := eq_true p170
                 replace q170 := eq_true q170
                 have ea_ := Option.some.inj (hx168_0.symm.trans hx170_0)
                 injection ea_ with ea_ en_ ec_
                 subst ea_
                 subst ec_
                 clear en_
                 have p171 : 0 ≤ (1 : Int) := (by omega)
                 have q171 : 1 < ((rd_L1 x9_2 (ji21)).length : Int) := of_decide_eq_true (by first | (with_reducible assumption) | assumption)
                 obtain ⟨ad171, e171, hx171_0⟩ := Kd.at_int (by repeat (first | (with_reducible exact HR170_0.out) | (with_reducible refine Kd.C_alloc ?_ _) | (with_reducible refine Kd.C_drewN ?_ _) | (with_reducible refine Kd.C_drew ?_) | exact HR170_0.out)) 1 p171 q171
                 cases e171
                 (try simp only [show (1 : Int).toNat = 1 from rfl, Nat.reduceMul, Nat.reduceEqDiff, Go.Addr.add, ↓reduceIte] at hx171_0)
                 have qi171 : (1 < (rd_L1 x9_2 (ji21)).length) = True := eq_true (by omega)
                 (try rw [show ((1 : Int)).toNat = 1 from rfl] at hx171_0)
                 replace p171 := eq_true p171
                 replace q171 := eq_true q171
                 have q31 : ((ji21) : Int) ≤ ((x9_2.length : Int) : Int) := of_decide_eq_true (by first | (with_reducible assumption) | assumption)
                 obtain ⟨i031, hi031, _, hsz31, _⟩ := info_parts info24
                 have hcut31 := cut_to (P := Try.prog) 56 24 .i64 Try.underlying56 hi031 (some ad168) x9_2.length co30 (ji21) (of_decide_eq_true (by first | (with_reducible assumption) | assumption)) q31 (Kd.S_reads' HO_9.out).2.1
                 have hr31 := Kd.S_take (m := ((ji21) : Int).toNat) HO_9.out (by omega)
                 have hy31 : y172.length = ((ji21) : Int).toNat := (by rw [Ny172.out, List.length_take]; omega)
                 rw [← Ny172.out] at hr31
                 rw [← hy31] at hr31 hcut31
                 clear hy31 hi031 hsz31 HO_9
                 have HO174 := Aside0.mk hr31
                 clear hr31
                 replace q31 := eq_true q31
                 obtain ⟨Ao32, co32, eo32⟩ := Kd.S_slice HO_8.out
                 subst eo32
                 have p175 : 0 ≤ ((rd (rd_L1 x9_2 (ji21)) 0) : Int) := of_decide_eq_true (by first | (with_reducible assumption) | assumption)
                 have q175 : (rd (rd_L1 x9_2 (ji21)) 0) < (x8_2.length : Int) := of_decide_eq_true (by first | (with_reducible assumption) | assumption)
                 obtain ⟨ad175, A175_0, c175_0, e175, hx175_0, hl175_0, hi175_0⟩ := at_L4 (Kd.S_reads' HO_8.out).2.2 (rd (rd_L1 x9_2 (ji21)) 0) p175 q175
                 cases e175
                 obtain ⟨ce175, hce175, hMe175, hcc175⟩ := Kd.S_get HO_8.out [] (rd (rd_L1 x9_2 (ji21)) 0) p175 (by first | exact q175 | exact of_decide_eq_true (by first | (with_reducible assumption) | assumption) | (have e_ := (Kd.S_reads' HO_8.out).1; omega))
                 obtain ⟨ve175_0, rfl, ge175_0⟩ := hMe175
                 have hv175_0 := hcc175 0 _ rfl
                 rw [Nat.add_zero, show ((Kd.slice 4 Kd.bool)).sz = 1 from rfl, Nat.mul_one] at hv175_0
                 replace hv175_0 := Option.some.inj (hv175_0.symm.trans hx175_0)
                 rw [hv175_0] at ge175_0
                 have HL175_0 := Aside0.mk (show Kd.R Kd.bool 4 _ _ _ _ (rd_L4 x8_2 (rd (rd_L1 x9_2 (ji21)) 0)) from ge175_0)
                 clear hv175_0 ge175_0
                 have HX175_0 := Aside0.mk hx175_0
                 clear hcc175 hce175
                 have HR175_0 := Aside0.mk hi175_0
                 have HC175_0 := Aside0.mk hl175_0
                 clear hi175_0 hl175_0
                 replace p175 := eq_true p175
                 replace q175 := eq_true q175
                 go_upto_if 71 with (fail)
                 go_cut [] (fun wc => ∃ (kq : Nat) (x8_28 : List (List Bool)), Aside0 (squintref04_Same.j2 kq l0 (l0.length : Int) x8_28 y172 (rd (rd_L1 x9_2 (ji21)) 0) (rd (rd_L1 x9_2 (ji21)) 1) = some r) ∧ Aside0 (kq ≤ k2) ∧ Aside0 (Kd.S (Kd.slice 4 Kd.bool) 66 wc w.heap.size (fun _ => True) (.slice (some ad175) x8_2.length co32) x8_28) ∧ Aside0 (Kd.S (Kd.slice 3 (Kd.int .i64)) 24 wc w.heap.size (fun _ => True) (.slice (some ad168) y172.length co30) y172) ∧ Aside0 (Below w.heap.size w wc))
                 case first => as_aux_lemma =>
                  have H := HC29.out
                  clear HC29
                  by_cases c33 : ((rd_L4 x8_2 (rd (rd_L1 x9_2 (ji21)) 0)).length : Int) = 0
                  ·rw [if_pos c33] at H
                   have c33b0 : (((rd_L4 x8_2 (rd (rd_L1 x9_2 (ji21)) 0)).length : Int) == 0) = true := beq_iff_eq.mpr c33
                   have c33b1 : (((rd_L4 x8_2 (rd (rd_L1 x9_2 (ji21)) 0)).length : Int) != 0) = false := bne_eq_false_iff_eq.mpr c33
                   clear c33
                   (first | rw [c33b0] | (simp only [i64_w, i32_w]; rw [c33b0]) | skip)
                   by_cases c34 : 0 ≤ (l0.length : Int)
                   ·rw [if_pos c34] at H
                    have c34b0 := eq_true c34
                    have c34b1 : decide (0 ≤ (l0.length : Int)) = true := decide_eq_true c34
                    clear c34
                    by_cases c35 : ((l0.length : Int) : Int).toNat ≤ 281474976710656
                    ·rw [if_pos c35] at H
                     have c35b0 := eq_true c35
                     have c35b1 : decide (((l0.length : Int) : Int).toNat ≤ 281474976710656) = true := decide_eq_true c35
                     clear c35
                     obtain ⟨y176, hy176⟩ : ∃ y_ : List Bool, y_ = (List.replicate ((l0.length : Int) : Int).toNat false) := ⟨_, rfl⟩
                     replace H : (squintref04_Same.j2 k2 l0 (l0.length : Int) (x8_2.set ((rd (rd_L1 x9_2 (ji21)) 0) : Int).toNat y176) y172 (rd (rd_L1 x9_2 (ji21)) 0) (rd (rd_L1 x9_2 (ji21)) 1)) = some r := by first | (rw [hy176]; with_reducible exact H) | (have H2_ := (Option.bind_some _ _).symm.trans H; rw [hy176]; with_reducible exact H2_) | (have H2_ := (Option.bind_some _ _).symm.trans H; with_reducible exact H2_) | with_reducible exact H | (rw [hy176]; exact H) | exact H
                     have Ny176 := Aside0.mk hy176
                     clear hy176
                     obtain ⟨y179, hy179⟩ : ∃ y_ : List (List Bool), y_ = (x8_2.set ((rd (rd_L1 x9_2 (ji21)) 0) : Int).toNat y176) := ⟨_, rfl⟩
                     replace H : (squintref04_Same.j2 k2 l0 (l0.length : Int) y179 y172 (rd (rd_L1 x9_2 (ji21)) 0) (rd (rd_L1 x9_2 (ji21)) 1)) = some r := by first | (rw [hy179]; with_reducible exact H) | (have H2_ := (Option.bind_some _ _).symm.trans H; rw [hy179]; with_reducible exact H2_) | (have H2_ := (Option.bind_some _ _).symm.trans H; with_reducible exact H2_) | with_reducible exact H | (rw [hy179]; exact H) | exact H
                     have Ny179 := Aside0.mk hy179
                     clear hy179
                     have H' := Aside0.mk H
                     clear H
                     go_wp2_with (first | ((with_reducible refine gate_dst (N := 75) rfl ?_); (try (refine gate_guard (by rfl) ?_; dsimp only)); refine Kd.R_make Kd.bool _ 4 rfl (N := 75) rfl 66 _ _ rfl (l0.length : Int) rfl rfl Try.underlying66 (.bool false) 1 info4 rfl (by decide) (by omega) false (ok := fun _ => True) (okp := fun _ => True) rfl (fun _ hk => hk) trivial (of_decide_eq_true (by first | (with_reducible assumption) | assumption)) (Nat.le_trans (Nat.mul_le_mul_right _ (of_decide_eq_true (by first | (with_reducible assumption) | assumption) : (l0.length : Int).toNat ≤ 281474976710656)) (by omega)) (Below.refl _ _) (Nat.le_refl _) ?_; intro v177 w37 ho38 hb hg_ hnew_; clear hg_ hnew_; (first | rw [← Ny176.out] at ho38 | (simp only [Int.reduceToNat] at ho38; rw [← Ny176.out] at ho38)); have n0_ := Aside0.mk (Kd.S_elder' (by (with_reducible repeat (first | apply Kd.S_alloc | apply Kd.S_drewN | apply Kd.S_drew)); exact HO_8.out) (Kd.R_base ho38) hb); have n1_ := Aside0.mk (Kd.S_below (by (with_reducible repeat (first | apply Kd.S_alloc | apply Kd.S_drewN | apply Kd.S_drew)); exact HO174.out) hb); have n2_ := Aside0.mk (Kd.R_below (by (with_reducible repeat (first | apply Kd.R_alloc | apply Kd.R_drewN | apply Kd.R_drew)); exact HL168_0.out) hb); have n3_ := Aside0.mk (Kd.R_below (by (with_reducible repeat (first | apply Kd.R_alloc | apply Kd.R_drewN | apply Kd.R_drew)); exact HL170_0.out) hb); have n4_ := Aside0.mk (Kd.R_elder' (by (with_reducible repeat (first | apply Kd.R_alloc | apply Kd.R_drewN | apply Kd.R_drew)); exact HL175_0.out) (Kd.R_base ho38) hb); have n5_ := Aside0.mk (Kd.R_lower (Kd.R_new' ho38 (Kd.R_lt (by (with_reducible repeat (first | apply Kd.R_alloc | apply Kd.R_drewN | apply Kd.R_drew)); exact HL175_0.out))) (below_size (by repeat (first | (with_reducible first | exact HB.out | apply below_alloc | apply pw_below_drewN | apply below_drew1) | exact HB.out)))); have n6_ := Aside0.mk (Kd.C_below (by repeat (first | (with_reducible exact HR168_0.out) | (with_reducible refine Kd.C_alloc ?_ _) | (with_reducible refine Kd.C_drewN ?_ _) | (with_reducible refine Kd.C_drew ?_) | exact HR168_0.out)) hb); have n7_ := Aside0.mk (pw_cell_below hb HX168_0.out); have n8_ := Aside0.mk (Kd.C_below (by repeat (first | (with_reducible exact HR170_0.out) | (with_reducible refine Kd.C_alloc ?_ _) | (with_reducible refine Kd.C_drewN ?_ _) | (with_reducible refine Kd.C_drew ?_) | exact HR170_0.out)) hb); have n9_ := Aside0.mk (pw_cell_below hb HX170_0.out); have n10_ := Aside0.mk (Kd.C_below (by repeat (first | (with_reducible exact HR175_0.out) | (with_reducible refine Kd.C_alloc ?_ _) | (with_reducible refine Kd.C_drewN ?_ _) | (with_reducible refine Kd.C_drew ?_) | exact HR175_0.out)) hb); have n11_ := Aside0.mk (pw_cell_below hb HX175_0.out); have n12_ := Aside0.mk (below_step (by repeat (first | (with_reducible first | exact HB.out | apply below_alloc | apply pw_below_drewN | apply below_drew1) | exact HB.out)) hb); clear HO_8; clear HO174; clear HL168_0; clear HL170_0; clear HL175_0; clear HR168_0; clear HX168_0; clear HR170_0; clear HX170_0; clear HR175_0; clear HX175_0; clear HB; have HO_8 := n0_; have HO174 := n1_; have HL168_0 := n2_; have HL170_0 := n3_; have HL175_0 := n4_; have HO178 := n5_; have HR168_0 := n6_; have HX168_0 := n7_; have HR170_0 := n8_; have HX170_0 := n9_; have HR175_0 := n10_; have HX175_0 := n11_; have HB := n12_; clear n0_ n1_ n2_ n3_ n4_ n5_ n6_ n7_ n8_ n9_ n10_ n11_ n12_; clear hb ho38; have p36 : 0 ≤ ((rd (rd_L1 x9_2 (ji21)) 0) : Int) := of_decide_eq_true (by first | (with_reducible assumption) | assumption); have q36 : ((rd (rd_L1 x9_2 (ji21)) 0) : Int) < ((x8_2.length : Int) : Int) := of_decide_eq_true (by first | (with_reducible assumption) | assumption); obtain ⟨go36, co36, eo36, gb36, gl36, cl36, HG36⟩ := Kd.S_form HO_8.out (by omega); (first | cases eo36 | (injection eo36 with ea_ en_ ec_; (first | subst ea_ | (injection ea_ with ea_; subst ea_)); subst ec_; clear en_)); have GB36 := Aside0.mk gb36; have GG36 := Aside0.mk HG36; clear gb36 gl36 HG36; (first | simp only [add_plain] at hx175_0 | skip); obtain ⟨_, ce36, hcl36, hM36, hcc36, hfr36, _, _⟩ := Kd.S_elem HO_8.out [] ((rd (rd_L1 x9_2 (ji21)) 0) : Int) p36 q36; obtain ⟨ve36_0, rfl, ge36_0⟩ := id hM36; have hx36_0 := hcc36 0 _ rfl; have hf36_0 := hfr36 0; (try simp only [show ((Kd.slice 4 Kd.bool)).sz = 1 from rfl, Nat.mul_one, Nat.add_zero] at hx36_0); (try simp only [show ((Kd.slice 4 Kd.bool)).sz = 1 from rfl, Nat.mul_one, Nat.add_zero] at hf36_0); clear hcl36 hcc36 hfr36 hM36; replace p36 := eq_true p36; replace q36 := eq_true q36; have n_ := Aside0.mk (Kd.S_mono (ok' := (fun k_ => some k_ ≠ (v177 : Value).ownBlock)) HO_8.out (fun k_ hk => hk.2)); clear HO_8; have HO_8 := n_; clear n_; have HX39 := Aside0.mk (show Kd.S (Kd.slice 4 Kd.bool) 66 w37 w.heap.size (fun k_ => ((fun _ => True)) k_ ∧ ¬ ((fun k_ => some k_ = (v177 : Value).ownBlock)) k_) (.slice (some ⟨go36, 0, none⟩) x8_2.length co32) x8_2 from (by (with_reducible repeat (first | apply Kd.S_alloc | apply Kd.S_drewN | apply Kd.S_drew)); exact Kd.S_mono HO_8.out (fun k_ hk => ⟨trivial, fun e_ => hk e_⟩))); obtain ⟨oki39, ce39, hcl39, hM39, hcc39, hfr39, hoki39, hH39⟩ := Kd.S_elem HX39.out [] ((rd (rd_L1 x9_2 (ji21)) 0) : Int) (of_decide_eq_true (by first | (with_reducible assumption) | assumption)) (by have h_ : ((rd (rd_L1 x9_2 (ji21)) 0) : Int) < ((x8_2.length : Int) : Int) := of_decide_eq_true (by first | (with_reducible assumption) | assumption); first | exact h_ | (have e_ := (Kd.S_reads' HO_8.out).1; omega) | simpa using h_); obtain ⟨ve39_0, rfl, ge39_0⟩ := id hM39; have HP39 := Kd.S_seg hH39 (of_decide_eq_true (by first | (with_reducible assumption) | assumption)) (by have h_ : ((rd (rd_L1 x9_2 (ji21)) 0) : Int) < ((x8_2.length : Int) : Int) := of_decide_eq_true (by first | (with_reducible assumption) | assumption); first | exact h_ | (have e_ := (Kd.S_reads' HO_8.out).1; omega) | simpa using h_) (seg := [v177]) (j := 0) (show 1 ≤ 1 from by decide) (x' := y176) (Kd.M_row (Kd.R_mono (Kd.R_tight rfl (Kd.R_mono (ok' := fun k_ => ((fun _ => True)) k_ ∧ k_ ≠ go36) (Kd.R_apart' (HO178.out) (Kd.S_typed HO_8.out) (by decide)) (fun k_ hk => ⟨trivial, fun e_ => (hk.2) (by rw [e_]; rfl)⟩))) (fun _ h_ => Or.inr (h_)))) (fun _ hk => hk) (fun k_ hk_ => ((Kd.R_mono (ok' := fun k_ => ((fun _ => True)) k_ ∧ k_ ≠ go36) (Kd.R_apart' (HO178.out) (Kd.S_typed HO_8.out) (by decide)) (fun k_ hk => ⟨trivial, fun e_ => (hk.2) (by rw [e_]; rfl)⟩))).1 k_ hk_.symm); have hx39_0 := hcc39 0 _ rfl; (try simp only [show ((Kd.slice 4 Kd.bool)).sz = 1 from rfl, Nat.mul_one, Nat.add_zero] at hx39_0); have hf39_0 := hfr39 0; (try simp only [show ((Kd.slice 4 Kd.bool)).sz = 1 from rfl, Nat.mul_one, Nat.add_zero] at hf39_0); clear hcl39 hcc39 hfr39 hM39 hoki39 hH39; (try simp only [show ((Kd.slice 4 Kd.bool)).sz = 1 from rfl, Nat.mul_one, Nat.add_zero] at HP39)) | ((with_reducible refine gate_store (t := 66) (p := 76) rfl ?_); refine store_event (t := 66) (p := 76) (v := ?vo_w40) (w1 := (w37.setCell ⟨go36, ((rd (rd_L1 x9_2 (ji21)) 0) : Int).toNat, none⟩ (v177))) ?hg ?ho ?hn ?hr ?_; (case ho => rfl); (case hg => rfl); (case hn => rfl); (case hr => obtain ⟨Aq_, cq_, eq_⟩ := Kd.R_slice HO178.out; subst eq_; first | (go_simp; done) | (go_simp; rfl)); intro w40 hw; have hg : w37.grownBy w40 (some go36) := (by rw [hw]; exact HP39.2); have hp_ : Kd.S (Kd.slice 4 Kd.bool) 66 w40 w.heap.size (fun _ => True) (.slice (some ⟨go36, 0, none⟩) x8_2.length co32) y179 := (by rw [hw, Ny179.out]; exact HP39.1); clear HP39; have n0_ := Aside0.mk (hp_); have n1_ := Aside0.mk (Kd.S_over' (v := (.slice (some ⟨go36, 0, none⟩) x8_2.length co32)) (by (with_reducible repeat (first | apply Kd.S_alloc | apply Kd.S_drewN | apply Kd.S_drew)); exact HO174.out) (Kd.S_typed HO_8.out) (by decide) hg); have n2_ := Aside0.mk (Kd.R_over' (v := (.slice (some ⟨go36, 0, none⟩) x8_2.length co32)) (by (with_reducible repeat (first | apply Kd.R_alloc | apply Kd.R_drewN | apply Kd.R_drew)); exact HL168_0.out) (Kd.S_typed HO_8.out) (by decide) hg); have n3_ := Aside0.mk (Kd.R_over' (v := (.slice (some ⟨go36, 0, none⟩) x8_2.length co32)) (by (with_reducible repeat (first | apply Kd.R_alloc | apply Kd.R_drewN | apply Kd.R_drew)); exact HL170_0.out) (Kd.S_typed HO_8.out) (by decide) hg); have n4_ := Aside0.mk (Kd.R_after (v := (.slice (some ⟨go36, 0, none⟩) x8_2.length co32)) (v1 := (.slice (some ⟨go36, 0, none⟩) x8_2.length co32)) (ok := (fun k_ => some k_ ≠ (v177 : Value).ownBlock)) (by (with_reducible repeat (first | apply Kd.R_alloc | apply Kd.R_drewN | apply Kd.R_drew)); exact Kd.R_mono HL175_0.out (fun _ hk => ⟨hk.2, hk.1.2⟩)) hg (.inl rfl)); have n5_ := Aside0.mk ((by rw [hw]; exact below_set (HB.out) GB36.out : Below w.heap.size w w40)); clear HO_8; clear HO174; clear HL168_0; clear HL170_0; clear HL175_0; clear HB; clear HO178; have HO_8 := n0_; have HO174 := n1_; have HL168_0 := n2_; have HL170_0 := n3_; have HL175_0 := n4_; have HB := n5_; clear n0_ n1_ n2_ n3_ n4_ n5_; clear hg hw hp_))
                     go_meet
                     case rel => exact ⟨_, (y179), H', ⟨by have := HJ3.out; have := HK2.out; first | omega | exact Nat.le_refl _⟩, ⟨by (with_reducible repeat (first | apply Kd.S_alloc | apply Kd.S_drewN | apply Kd.S_drew)); exact HO_8.out⟩, ⟨by (with_reducible repeat (first | apply Kd.S_alloc | apply Kd.S_drewN | apply Kd.S_drew)); exact HO174.out⟩, ⟨by repeat (first | (with_reducible first | exact HB.out | apply below_alloc | apply pw_below_drewN | apply below_drew1) | exact HB.out)⟩⟩
                    ·rw [if_neg c35] at H
                     exact absurd H (by simp)
                   ·rw [if_neg c34] at H
                    exact absurd H (by simp)
                  ·rw [if_neg c33] at H
                   have c33b0 : (((rd_L4 x8_2 (rd (rd_L1 x9_2 (ji21)) 0)).length : Int) == 0) = false := beq_eq_false_iff_ne.mpr c33
                   have c33b1 : (((rd_L4 x8_2 (rd (rd_L1 x9_2 (ji21)) 0)).length : Int) != 0) = true := bne_iff_ne.mpr c33
                   have c33b2 : ¬ ((rd_L4 x8_2 (rd (rd_L1 x9_2 (ji21)) 0)) = []) := fun h_ => c33 (by rw [h_]; rfl)
                   (first | rw [c33b0] | (simp only [i64_w, i32_w]; rw [c33b0]) | skip)
                   have H' := Aside0.mk H
                   clear H
                   go_wp2
                   go_meet
                   case rel => exact ⟨_, (x8_2), H', ⟨by have := HJ3.out; have := HK2.out; first | omega | exact Nat.le_refl _⟩, ⟨by (with_reducible repeat (first | apply Kd.S_alloc | apply Kd.S_drewN | apply Kd.S_drew)); exact HO_8.out⟩, ⟨by (with_reducible repeat (first | apply Kd.S_alloc | apply Kd.S_drewN | apply Kd.S_drew)); exact HO174.out⟩, ⟨by repeat (first | (with_reducible first | exact HB.out | apply below_alloc | apply pw_below_drewN | apply below_drew1) | exact HB.out)⟩⟩
                 case rest => as_aux_lemma =>
                  clear HC29
                  try clear c1
                  try clear p1
                  try clear q1
                  try clear hx1
                  try clear qi1
                  try clear c2
                  try clear p2
                  try clear c3
                  try clear p3
                  try clear q3
                  try clear hx3
                  try clear hf3
                  try clear c6
                  try clear p6
                  try clear c7
                  try clear c7b0
                  try clear c8
                  try clear c8b0
                  try clear c9
                  try clear c9b0
                  try clear c10
                  try clear c11
                  try clear c11b0
                  try clear c11b1
                  try clear c12
                  try clear c12b0
                  try clear c12b1
                  try clear c13
                  try clear c16
                  try clear p16
                  try clear q16
                  try clear hx16
                  try clear qi16
                  try clear c17
                  try clear p17
                  try clear q17
                  try clear hx17
                  try clear qi17
                  try clear c20
                  try clear c20b0
                  try clear c20b1
                  try clear c21
                  try clear c22
                  try clear c22b0
                  try clear c23
                  try clear c23b0
                  try clear c24
                  try clear c24b0
                  try clear c24b1
                  try clear c25
                  try clear c25b0
                  try clear c25b1
                  try clear c26
                  try clear c26b0
                  try clear c26b1
                  try clear c27
                  try clear c27b0
                  try clear c28
                  try clear c28b0
                  try clear q31
                  try clear c33
                  try clear c33b0
                  try clear c33b1
                  try clear c33b2
                  try clear c34
                  try clear c34b0
                  try clear c34b1
                  try clear c35
                  try clear c35b0
                  try clear c35b1
                  try clear c36
                  try clear p36
                  try clear q36
                  try clear hx36
                  try clear hf36
                  try clear c39
                  try clear hx39
                  try clear hf39
                  try clear hx168_0
                  try clear hx169_0
                  try clear hx170_0
                  try clear hx171_0
                  try clear hx175_0
                  try clear hx36_0
                  try clear hx39_0
                  try clear p168
                  try clear p169
                  try clear p170
                  try clear p171
                  try clear p175
                  try clear p2
                  try clear p36
                  try clear q168
                  try clear q169
                  try clear q170
                  try clear q171
                  try clear q175
                  try clear q31
                  try clear q36
                  obtain ⟨kq, x8_28, HA, HJ28, HO_8, HO_9, HB⟩ := hcut
                  have hl8_28 := (Kd.S_reads' HO_8.out).1
                  rw [hl8_28] at HO_8
                  (try simp only [hl8_28])
                  (try simp only [hl8_28] at HO_9)
                  cases kq with
                  | zero => exact absurd HA.out (by simp [squintref04_Same.j2])
                  | succ kj28 =>
                   have H := HA.out
                   clear HA
                   simp only [squintref04_Same.j2] at H
                   by_cases c41 : 0 ≤ (rd (rd_L1 x9_2 (ji21)) 0)
                   ·rw [if_pos c41] at H
                    have c41b0 : decide (0 ≤ (rd (rd_L1 x9_2 (ji21)) 0)) = true := decide_eq_true c41
                    clear c41
                    by_cases c42 : (rd (rd_L1 x9_2 (ji21)) 0) < (x8_28.length : Int)
                    ·rw [if_pos c42] at H
                     have c42b0 : decide ((rd (rd_L1 x9_2 (ji21)) 0) < (x8_28.length : Int)) = true := decide_eq_true c42
                     clear c42
                     by_cases c43 : 0 ≤ (rd (rd_L1 x9_2 (ji21)) 1)
                     ·rw [if_pos c43] at H
                      have c43b0 : decide (0 ≤ (rd (rd_L1 x9_2 (ji21)) 1)) = true := decide_eq_true c43
                      clear c43
                      by_cases c44 : (rd (rd_L1 x9_2 (ji21)) 1) < ((rd_L4 x8_28 (rd (rd_L1 x9_2 (ji21)) 0)).length : Int)
                      ·rw [if_pos c44] at H
                       have c44b0 : decide ((rd (rd_L1 x9_2 (ji21)) 1) < ((rd_L4 x8_28 (rd (rd_L1 x9_2 (ji21)) 0)).length : Int)) = true := decide_eq_true c44
                       clear c44
                       obtain ⟨bq45, hbq45⟩ : ∃ b_ : Bool, b_ = (rdOf false (rd_L4 x8_28 (rd (rd_L1 x9_2 (ji21)) 0)) (rd (rd_L1 x9_2 (ji21)) 1)) := ⟨_, rfl⟩
                       replace H : (if bq45 = true then (squintref04_Same.l0 kj28 l0 (l0.length : Int) x8_28 y172) else ((some (x8_28.set ((rd (rd_L1 x9_2 (ji21)) 0) : Int).toNat ((rd_L4 x8_28 (rd (rd_L1 x9_2 (ji21)) 0)).set ((rd (rd_L1 x9_2 (ji21)) 1) : Int).toNat true) : List (List Bool))).bind fun y185 => (if (rd (rd_L1 x9_2 (ji21)) 0) < (l0.length : Int) then (if (rd (rd_L1 x9_2 (ji21)) 1) < (l0.length : Int) then (if ((rd_T43 l0 (rd (rd_L1 x9_2 (ji21)) 0)).f0) = ((rd_T43 l0 (rd (rd_L1 x9_2 (ji21)) 1)).f0) then (if (((rd_T43 l0 (rd (rd_L1 x9_2 (ji21)) 0)).f2) != ((rd_T43 l0 (rd (rd_L1 x9_2 (ji21)) 1)).f2)) = true then (squintref04_Same.j3 kj28 l0 (l0.length : Int) y185 y172 (rd (rd_L1 x9_2 (ji21)) 0) (rd (rd_L1 x9_2 (ji21)) 1) true) else (squintref04_Same.j3 kj28 l0 (l0.length : Int) y185 y172 (rd (rd_L1 x9_2 (ji21)) 0) (rd (rd_L1 x9_2 (ji21)) 1) ((((rd_T43 l0 (rd (rd_L1 x9_2 (ji21)) 0)).f1).length : Int) != (((rd_T43 l0 (rd (rd_L1 x9_2 (ji21)) 1)).f1).length : Int)))) else (squintref04_Same.j3 kj28 l0 (l0.length : Int) y185 y172 (rd (rd_L1 x9_2 (ji21)) 0) (rd (rd_L1 x9_2 (ji21)) 1) true)) else (none)) else (none)))) = some r := by rw [← hbq45] at H; exact H
                       have Nbq45 := Aside0.mk hbq45
                       clear hbq45
                       by_cases c46 : bq45 = true
                       ·subst c46
                        have H1 : (squintref04_Same.l0 kj28 l0 (l0.length : Int) x8_28 y172) = some r := by rw [if_pos rfl] at H; exact H
                        clear H
                        have H := H1
                        clear H1
                        have H' := Aside0.mk H
                        clear H
                        have p180 : 0 ≤ ((rd (rd_L1 x9_2 (ji21)) 0) : Int) := of_decide_eq_true (by first | (with_reducible assumption) | assumption)
                        have q180 : (rd (rd_L1 x9_2 (ji21)) 0) < (x8_28.length : Int) := of_decide_eq_true (by first | (with_reducible assumption) | assumption)
                        obtain ⟨ad180, A180_0, c180_0, e180, hx180_0, hl180_0, hi180_0⟩ := at_L4 (Kd.S_reads' HO_8.out).2.2 (rd (rd_L1 x9_2 (ji21)) 0) p180 q180
                        obtain rfl : ad175 = ad180 := (by injection e180)
                        obtain ⟨ce180, hce180, hMe180, hcc180⟩ := Kd.S_get HO_8.out [] (rd (rd_L1 x9_2 (ji21)) 0) p180 (by first | exact q180 | exact of_decide_eq_true (by first | (with_reducible assumption) | assumption) | (have e_ := (Kd.S_reads' HO_8.out).1; omega))
                        obtain ⟨ve180_0, rfl, ge180_0⟩ := hMe180
                        have hv180_0 := hcc180 0 _ rfl
                        rw [Nat.add_zero, show ((Kd.slice 4 Kd.bool)).sz = 1 from rfl, Nat.mul_one] at hv180_0
                        replace hv180_0 := Option.some.inj (hv180_0.symm.trans hx180_0)
                        rw [hv180_0] at ge180_0
                        have HL180_0 := Aside0.mk (show Kd.R Kd.bool 4 _ _ _ _ (rd_L4 x8_28 (rd (rd_L1 x9_2 (ji21)) 0)) from ge180_0)
                        clear hv180_0 ge180_0
                        have HX180_0 := Aside0.mk hx180_0
                        clear hcc180 hce180
                        have HR180_0 := Aside0.mk hi180_0
                        have HC180_0 := Aside0.mk hl180_0
                        clear hi180_0 hl180_0
                        replace p180 := eq_true p180
                        replace q180 := eq_true q180
                        have p181 : 0 ≤ ((rd (rd_L1 x9_2 (ji21)) 1) : Int) := of_decide_eq_true (by first | (with_reducible assumption) | assumption)
                        have q181 : (rd (rd_L1 x9_2 (ji21)) 1) < ((rd_L4 x8_28 (rd (rd_L1 x9_2 (ji21)) 0)).length : Int) := of_decide_eq_true (by first | (with_reducible assumption) | assumption)
                        obtain ⟨ad181, e181, hx181_0⟩ := Kd.at_bool (by repeat (first | (with_reducible exact HR180_0.out) | (with_reducible refine Kd.C_alloc ?_ _) | (with_reducible refine Kd.C_drewN ?_ _) | (with_reducible refine Kd.C_drew ?_) | exact HR180_0.out)) (rd (rd_L1 x9_2 (ji21)) 1) p181 q181
                        (try rw [← Nbq45.out] at hx181_0)
                        cases e181
                        replace p181 := eq_true p181
                        replace q181 := eq_true q181
                        go_wp2
                        (try simp only [← hl8_28])
                        go_roundg kj28
                        case measure => have := HJ3.out; have := HK2.out; have := HJ28.out; omega
                        case rel => exact ⟨(x8_28), (y172), H', ⟨by have := HJ3.out; have := HK2.out; have := HJ28.out; omega⟩, ⟨by (try simp only [hl8_28]); (with_reducible repeat (first | apply Kd.S_alloc | apply Kd.S_drewN | apply Kd.S_drew)); exact HO_8.out⟩, ⟨by (try simp only [hl8_28]); (with_reducible repeat (first | apply Kd.S_alloc | apply Kd.S_drewN | apply Kd.S_drew)); exact HO_9.out⟩, ⟨by repeat (first | (with_reducible first | exact HB.out | apply below_alloc | apply pw_below_drewN | apply below_drew1) | exact HB.out)⟩⟩
                       ·replace c46 := Bool.eq_false_iff.mpr c46
                        subst c46
                        have H1 : ((some (x8_28.set ((rd (rd_L1 x9_2 (ji21)) 0) : Int).toNat ((rd_L4 x8_28 (rd (rd_L1 x9_2 (ji21)) 0)).set ((rd (rd_L1 x9_2 (ji21)) 1) : Int).toNat true) : List (List Bool))).bind fun y185 => (if (rd (rd_L1 x9_2 (ji21)) 0) < (l0.length : Int) then (if (rd (rd_L1 x9_2 (ji21)) 1) < (l0.length : Int) then (if ((rd_T43 l0 (rd (rd_L1 x9_2 (ji21)) 0)).f0) = ((rd_T43 l0 (rd (rd_L1 x9_2 (ji21)) 1)).f0) then (if (((rd_T43 l0 (rd (rd_L1 x9_2 (ji21)) 0)).f2) != ((rd_T43 l0 (rd (rd_L1 x9_2 (ji21)) 1)).f2)) = true then (squintref04_Same.j3 kj28 l0 (l0.length : Int) y185 y172 (rd (rd_L1 x9_2 (ji21)) 0) (rd (rd_L1 x9_2 (ji21)) 1) true) else (squintref04_Same.j3 kj28 l0 (l0.length : Int) y185 y172 (rd (rd_L1 x9_2 (ji21)) 0) (rd (rd_L1 x9_2 (ji21)) 1) ((((rd_T43 l0 (rd (rd_L1 x9_2 (ji21)) 0)).f1).length : Int) != (((rd_T43 l0 (rd (rd_L1 x9_2 (ji21)) 1)).f1).length : Int)))) else (squintref04_Same.j3 kj28 l0 (l0.length : Int) y185 y172 (rd (rd_L1 x9_2 (ji21)) 0) (rd (rd_L1 x9_2 (ji21)) 1) true)) else (none)) else (none))) = some r := by rw [if_neg (show ¬ (false = true) by decide)] at H; exact H
                        clear H
                        have H := H1
                        clear H1
                        obtain ⟨y183, hy183⟩ : ∃ y_ : List Bool, y_ = ((rd_L4 x8_28 (rd (rd_L1 x9_2 (ji21)) 0)).set ((rd (rd_L1 x9_2 (ji21)) 1) : Int).toNat true) := ⟨_, rfl⟩
                        replace H : ((some (x8_28.set ((rd (rd_L1 x9_2 (ji21)) 0) : Int).toNat y183 : List (List Bool))).bind fun y185 => (if (rd (rd_L1 x9_2 (ji21)) 0) < (l0.length : Int) then (if (rd (rd_L1 x9_2 (ji21)) 1) < (l0.length : Int) then (if ((rd_T43 l0 (rd (rd_L1 x9_2 (ji21)) 0)).f0) = ((rd_T43 l0 (rd (rd_L1 x9_2 (ji21)) 1)).f0) then (if (((rd_T43 l0 (rd (rd_L1 x9_2 (ji21)) 0)).f2) != ((rd_T43 l0 (rd (rd_L1 x9_2 (ji21)) 1)).f2)) = true then (squintref04_Same.j3 kj28 l0 (l0.length : Int) y185 y172 (rd (rd_L1 x9_2 (ji21)) 0) (rd (rd_L1 x9_2 (ji21)) 1) true) else (squintref04_Same.j3 kj28 l0 (l0.length : Int) y185 y172 (rd (rd_L1 x9_2 (ji21)) 0) (rd (rd_L1 x9_2 (ji21)) 1) ((((rd_T43 l0 (rd (rd_L1 x9_2 (ji21)) 0)).f1).length : Int) != (((rd_T43 l0 (rd (rd_L1 x9_2 (ji21)) 1)).f1).length : Int)))) else (squintref04_Same.j3 kj28 l0 (l0.length : Int) y185 y172 (rd (rd_L1 x9_2 (ji21)) 0) (rd (rd_L1 x9_2 (ji21)) 1) true)) else (none)) else (none))) = some r := by first | (rw [hy183]; with_reducible exact H) | (have H2_ := (Option.bind_some _ _).symm.trans H; rw [hy183]; with_reducible exact H2_) | (have H2_ := (Option.bind_some _ _).symm.trans H; with_reducible exact H2_) | with_reducible exact H | (rw [hy183]; exact H) | exact H
                        have Ny183 := Aside0.mk hy183
                        clear hy183
                        obtain ⟨y185, hy185⟩ : ∃ y_ : List (List Bool), y_ = (x8_28.set ((rd (rd_L1 x9_2 (ji21)) 0) : Int).toNat y183) := ⟨_, rfl⟩
                        replace H : (if (rd (rd_L1 x9_2 (ji21)) 0) < (l0.length : Int) then (if (rd (rd_L1 x9_2 (ji21)) 1) < (l0.length : Int) then (if ((rd_T43 l0 (rd (rd_L1 x9_2 (ji21)) 0)).f0) = ((rd_T43 l0 (rd (rd_L1 x9_2 (ji21)) 1)).f0) then (if (((rd_T43 l0 (rd (rd_L1 x9_2 (ji21)) 0)).f2) != ((rd_T43 l0 (rd (rd_L1 x9_2 (ji21)) 1)).f2)) = true then (squintref04_Same.j3 kj28 l0 (l0.length : Int) y185 y172 (rd (rd_L1 x9_2 (ji21)) 0) (rd (rd_L1 x9_2 (ji21)) 1) true) else (squintref04_Same.j3 kj28 l0 (l0.length : Int) y185 y172 (rd (rd_L1 x9_2 (ji21)) 0) (rd (rd_L1 x9_2 (ji21)) 1) ((((rd_T43 l0 (rd (rd_L1 x9_2 (ji21)) 0)).f1).length : Int) != (((rd_T43 l0 (rd (rd_L1 x9_2 (ji21)) 1)).f1).length : Int)))) else (squintref04_Same.j3 kj28 l0 (l0.length : Int) y185 y172 (rd (rd_L1 x9_2 (ji21)) 0) (rd (rd_L1 x9_2 (ji21)) 1) true)) else (none)) else (none)) = some r := by first | (rw [hy185]; with_reducible exact H) | (have H2_ := (Option.bind_some _ _).symm.trans H; rw [hy185]; with_reducible exact H2_) | (have H2_ := (Option.bind_some _ _).symm.trans H; with_reducible exact H2_) | with_reducible exact H | (rw [hy185]; exact H) | exact H
                        have Ny185 := Aside0.mk hy185
                        clear hy185
                        have HC48 := Aside0.mk H
                        clear H
                        have p180 : 0 ≤ ((rd (rd_L1 x9_2 (ji21)) 0) : Int) := of_decide_eq_true (by first | (with_reducible assumption) | assumption)
                        have q180 : (rd (rd_L1 x9_2 (ji21)) 0) < (x8_28.length : Int) := of_decide_eq_true (by first | (with_reducible assumption) | assumption)
                        obtain ⟨ad180, A180_0, c180_0, e180, hx180_0, hl180_0, hi180_0⟩ := at_L4 (Kd.S_reads' HO_8.out).2.2 (rd (rd_L1 x9_2 (ji21)) 0) p180 q180
                        obtain rfl : ad175 = ad180 := (by injection e180)
                        obtain ⟨ce180, hce180, hMe180, hcc180⟩ := Kd.S_get HO_8.out [] (rd (rd_L1 x9_2 (ji21)) 0) p180 (by first | exact q180 | exact of_decide_eq_true (by first | (with_reducible assumption) | assumption) | (have e_ := (Kd.S_reads' HO_8.out).1; omega))
                        obtain ⟨ve180_0, rfl, ge180_0⟩ := hMe180
                        have hv180_0 := hcc180 0 _ rfl
                        rw [Nat.add_zero, show ((Kd.slice 4 Kd.bool)).sz = 1 from rfl, Nat.mul_one] at hv180_0
                        replace hv180_0 := Option.some.inj (hv180_0.symm.trans hx180_0)
                        rw [hv180_0] at ge180_0
                        have HL180_0 := Aside0.mk (show Kd.R Kd.bool 4 _ _ _ _ (rd_L4 x8_28 (rd (rd_L1 x9_2 (ji21)) 0)) from ge180_0)
                        clear hv180_0 ge180_0
                        have HX180_0 := Aside0.mk hx180_0
                        clear hcc180 hce180
                        have HR180_0 := Aside0.mk hi180_0
                        have HC180_0 := Aside0.mk hl180_0
                        clear hi180_0 hl180_0
                        replace p180 := eq_true p180
                        replace q180 := eq_true q180
                        have p181 : 0 ≤ ((rd (rd_L1 x9_2 (ji21)) 1) : Int) := of_decide_eq_true (by first | (with_reducible assumption) | assumption)
                        have q181 : (rd (rd_L1 x9_2 (ji21)) 1) < ((rd_L4 x8_28 (rd (rd_L1 x9_2 (ji21)) 0)).length : Int) := of_decide_eq_true (by first | (with_reducible assumption) | assumption)
                        obtain ⟨ad181, e181, hx181_0⟩ := Kd.at_bool (by repeat (first | (with_reducible exact HR180_0.out) | (with_reducible refine Kd.C_alloc ?_ _) | (with_reducible refine Kd.C_drewN ?_ _) | (with_reducible refine Kd.C_drew ?_) | exact HR180_0.out)) (rd (rd_L1 x9_2 (ji21)) 1) p181 q181
                        (try rw [← Nbq45.out] at hx181_0)
                        cases e181
                        replace p181 := eq_true p181
                        replace q181 := eq_true q181
                        have p182 : 0 ≤ ((rd (rd_L1 x9_2 (ji21)) 0) : Int) := of_decide_eq_true (by first | (with_reducible assumption) | assumption)
                        have q182 : (rd (rd_L1 x9_2 (ji21)) 0) < (x8_28.length : Int) := of_decide_eq_true (by first | (with_reducible assumption) | assumption)
                        obtain ⟨ad182, A182_0, c182_0, e182, hx182_0, hl182_0, hi182_0⟩ := at_L4 (Kd.S_reads' HO_8.out).2.2 (rd (rd_L1 x9_2 (ji21)) 0) p182 q182
                        obtain rfl : ad175 = ad182 := (by injection e182)
                        obtain ⟨ce182, hce182, hMe182, hcc182⟩ := Kd.S_get HO_8.out [] (rd (rd_L1 x9_2 (ji21)) 0) p182 (by first | exact q182 | exact of_decide_eq_true (by first | (with_reducible assumption) | assumption) | (have e_ := (Kd.S_reads' HO_8.out).1; omega))
                        obtain ⟨ve182_0, rfl, ge182_0⟩ := hMe182
                        have hv182_0 := hcc182 0 _ rfl
                        rw [Nat.add_zero, show ((Kd.slice 4 Kd.bool)).sz = 1 from rfl, Nat.mul_one] at hv182_0
                        replace hv182_0 := Option.some.inj (hv182_0.symm.trans hx182_0)
                        rw [hv182_0] at ge182_0
                        have HL182_0 := Aside0.mk (show Kd.R Kd.bool 4 _ _ _ _ (rd_L4 x8_28 (rd (rd_L1 x9_2 (ji21)) 0)) from ge182_0)
                        clear hv182_0 ge182_0
                        have HX182_0 := Aside0.mk hx182_0
                        clear hcc182 hce182
                        have HR182_0 := Aside0.mk hi182_0
                        have HC182_0 := Aside0.mk hl182_0
                        clear hi182_0 hl182_0
                        replace p182 := eq_true p182
                        replace q182 := eq_true q182
                        have ea_ := Option.some.inj (hx180_0.symm.trans hx182_0)
                        injection ea_ with ea_ en_ ec_
                        subst ea_
                        subst ec_
                        clear en_
                        have p47 : 0 ≤ ((rd (rd_L1 x9_2 (ji21)) 1) : Int) := of_decide_eq_true (by first | (with_reducible assumption) | assumption)
                        have q47 : ((rd (rd_L1 x9_2 (ji21)) 1) : Int) < (((rd_L4 x8_28 (rd (rd_L1 x9_2 (ji21)) 0)).length : Int) : Int) := of_decide_eq_true (by first | (with_reducible assumption) | assumption)
                        obtain ⟨go47, co47, eo47, gb47, gl47, cl47, HG47⟩ := Kd.R_form HL182_0.out (by omega)
                        (first | cases eo47 | (injection eo47 with ea_ en_ ec_; (first | subst ea_ | (injection ea_ with ea_; subst ea_)); subst ec_; clear en_))
                        have GB47 := Aside0.mk gb47
                        have GG47 := Aside0.mk HG47
                        clear gb47 gl47 HG47
                        (first | simp only [add_plain] at hx181_0 | skip)
                        obtain ⟨hx47_0, hf47_0⟩ := Kd.R_celln false HL182_0.out ((rd (rd_L1 x9_2 (ji21)) 1) : Int) p47 q47
                        replace p47 := eq_true p47
                        replace q47 := eq_true q47
                        have hq49 : ((rd (rd_L1 x9_2 (ji21)) 0) : Int) < (x8_28.length : Int) := (by have h_ : ((rd (rd_L1 x9_2 (ji21)) 0) : Int) < ((x8_28.length : Int) : Int) := of_decide_eq_true (by first | (with_reducible assumption) | assumption); first | exact h_ | (have e_ := (Kd.S_reads' HO_8.out).1; omega) | simpa only [List.length_set, List.length_set] using h_)
                        obtain ⟨oki49, ce49, hcl49, hM49, hcc49, hok49, hbk49⟩ := Kd.S_borrow HO_8.out [] ((rd (rd_L1 x9_2 (ji21)) 0) : Int) (of_decide_eq_true (by first | (with_reducible assumption) | assumption)) hq49
                        obtain ⟨ve49_0, rfl, ge49_0⟩ := id hM49
                        have hv49 := hcc49 0 _ rfl
                        rw [Nat.add_zero, show ((Kd.slice 4 Kd.bool)).sz = 1 from rfl, Nat.mul_one] at hv49
                        replace hv49 := Option.some.inj (hv49.symm.trans HX182_0.out)
                        subst hv49
                        clear hcc49 hcl49
                        replace ge49_0 := (show Kd.R Kd.bool 4 _ _ _ _ (rd_L4 x8_28 (rd (rd_L1 x9_2 (ji21)) 0)) from ge49_0)
                        have HP49 := Kd.R_putg ge49_0 ((rd (rd_L1 x9_2 (ji21)) 1) : Int) true
                        go_upto_region 14 with (first | ((with_reducible refine gate_store (t := 4) (p := 89) rfl ?_); refine store_event (t := 4) (p := 89) (v := ?vo_w50) (w1 := (wc.setCell ⟨go47, ((rd (rd_L1 x9_2 (ji21)) 1) : Int).toNat, none⟩ (.bool true))) ?hg ?ho ?hn ?hr ?_; (case ho => rfl); (case hg => rfl); (case hn => rfl); (case hr => first | (go_simp; done) | (go_simp; rfl)); intro w50 hw; have hg : wc.grownBy w50 (some go47) := (by rw [hw]; exact HP49.2); have hz_ : Kd.R Kd.bool 4 w50 w.heap.size oki49 (.slice (some ⟨go47, 0, none⟩) (rd_L4 x8_28 (rd (rd_L1 x9_2 (ji21)) 0)).length c180_0) y183 := (by rw [hw, Ny183.out]; exact HP49.1); have hp_ : Kd.S (Kd.slice 4 Kd.bool) 66 w50 w.heap.size (fun _ => True) (.slice (some ad175) x8_28.length co32) y185 := (by rw [Ny185.out]; exact hbk49 hg (fun k_ e_ => by injection e_ with e_; subst e_; exact ge49_0.1 _ rfl) (Kd.M_row hz_)); have hm_ := Kd.R_mono hz_ hok49; clear HP49 hbk49; have n0_ := Aside0.mk (hp_); have n1_ := Aside0.mk (Kd.S_over' (v := (.slice (some ⟨go47, 0, none⟩) (rd_L4 x8_28 (rd (rd_L1 x9_2 (ji21)) 0)).length c180_0)) (by (with_reducible repeat (first | apply Kd.S_alloc | apply Kd.S_drewN | apply Kd.S_drew)); exact HO_9.out) (Kd.R_typed HL182_0.out) (by decide) hg); have n2_ := Aside0.mk ((by rw [hw]; exact below_set (HB.out) GB47.out : Below w.heap.size w w50)); have n3_ := Aside0.mk (hm_); have n4_ := Aside0.mk ((Kd.R_reads' hm_).2.1); clear HO_8; clear HO_9; clear HB; clear HL180_0; clear HL182_0; have HO_8 := n0_; have HO_9 := n1_; have HB := n2_; have HL203 := n3_; have HC184 := n4_; clear n0_ n1_ n2_ n3_ n4_; clear hg hw hp_ hz_ hm_ hok49))
                        (try simp only [Act.put, List.setIfInBounds_toArray, List.set_cons_zero, List.set_cons_succ])
                        go_cut [128] (fun v128 wc => ∃ (kq : Nat) (x128_47 : Bool), v128 = .bool x128_47 ∧ Aside0 (squintref04_Same.j3 kq l0 (l0.length : Int) y185 y172 (rd (rd_L1 x9_2 (ji21)) 0) (rd (rd_L1 x9_2 (ji21)) 1) x128_47 = some r) ∧ Aside0 (kq ≤ kj28) ∧ Aside0 (Kd.S (Kd.slice 4 Kd.bool) 66 wc w.heap.size (fun _ => True) (.slice (some ad175) x8_28.length co32) y185) ∧ Aside0 (Kd.S (Kd.slice 3 (Kd.int .i64)) 24 wc w.heap.size (fun _ => True) (.slice (some ad168) y172.length co30) y172) ∧ Aside0 (Below w.heap.size w wc))
                        case first => as_aux_lemma =>
                         have H := HC48.out
                         clear HC48
                         by_cases c51 : (rd (rd_L1 x9_2 (ji21)) 0) < (l0.length : Int)
                         ·rw [if_pos c51] at H
                          have c51b0 : decide ((rd (rd_L1 x9_2 (ji21)) 0) < (l0.length : Int)) = true := decide_eq_true c51
                          clear c51
                          (first | rw [c51b0] | (simp only [i64_w, i32_w]; rw [c51b0]) | skip)
                          by_cases c52 : (rd (rd_L1 x9_2 (ji21)) 1) < (l0.length : Int)
                          ·rw [if_pos c52] at H
                           have c52b0 : decide ((rd (rd_L1 x9_2 (ji21)) 1) < (l0.length : Int)) = true := decide_eq_true c52
                           clear c52
                           by_cases c53 : ((rd_T43 l0 (rd (rd_L1 x9_2 (ji21)) 0)).f0) = ((rd_T43 l0 (rd (rd_L1 x9_2 (ji21)) 1)).f0)
                           ·rw [if_pos c53] at H
                            have c53b0 : (((rd_T43 l0 (rd (rd_L1 x9_2 (ji21)) 0)).f0) == ((rd_T43 l0 (rd (rd_L1 x9_2 (ji21)) 1)).f0)) = true := beq_iff_eq.mpr c53
                            have c53b1 : (((rd_T43 l0 (rd (rd_L1 x9_2 (ji21)) 0)).f0) != ((rd_T43 l0 (rd (rd_L1 x9_2 (ji21)) 1)).f0)) = false := bne_eq_false_iff_eq.mpr c53
                            clear c53
                            by_cases c54 : (((rd_T43 l0 (rd (rd_L1 x9_2 (ji21)) 0)).f2) != ((rd_T43 l0 (rd (rd_L1 x9_2 (ji21)) 1)).f2)) = true
                            ·rw [if_pos c54] at H
                             have c54b0 : (((rd_T43 l0 (rd (rd_L1 x9_2 (ji21)) 0)).f2) != ((rd_T43 l0 (rd (rd_L1 x9_2 (ji21)) 1)).f2)) = true := c54
                             (try (have c54b1 : decide (((rd_T43 l0 (rd (rd_L1 x9_2 (ji21)) 0)).f2) = ((rd_T43 l0 (rd (rd_L1 x9_2 (ji21)) 1)).f2)) = false := by simpa using c54))
                             (try (have c54b2 : (((rd_T43 l0 (rd (rd_L1 x9_2 (ji21)) 0)).f2) == ((rd_T43 l0 (rd (rd_L1 x9_2 (ji21)) 1)).f2)) = false := by simpa using c54))
                             (try (have c54b3 : ¬ (((rd_T43 l0 (rd (rd_L1 x9_2 (ji21)) 0)).f2) = ((rd_T43 l0 (rd (rd_L1 x9_2 (ji21)) 1)).f2)) := by simpa using c54))
                             clear c54
                             have H' := Aside0.mk H
                             clear H
                             try go_wp2
                             have n0_ := Aside0.mk (Kd.S_drew HO_8.out)
                             have n1_ := Aside0.mk (Kd.S_drew HO_9.out)
                             have n2_ := Aside0.mk (Kd.R_drew HL203.out)
                             have n3_ := Aside0.mk (below_drew1 HB.out)
                             clear HO_8
                             clear HO_9
                             clear HL203
                             clear HB
                             have HO_8 := n0_
                             have HO_9 := n1_
                             have HL203 := n2_
                             have HB := n3_
                             clear n0_ n1_ n2_ n3_
                             have p186 : 0 ≤ ((rd (rd_L1 x9_2 (ji21)) 0) : Int) := of_decide_eq_true (by first | (with_reducible assumption) | assumption)
                             have q186 : (rd (rd_L1 x9_2 (ji21)) 0) < (l0.length : Int) := of_decide_eq_true (by first | (with_reducible assumption) | assumption)
                             obtain ⟨ad186, A186_1, c186_1, e186, hx186_0, hx186_1, hx186_2, hl186_1, hi186_1⟩ := at_T43 HR0.out (rd (rd_L1 x9_2 (ji21)) 0) p186 q186
                             have hw186_2 := hx186_2
                             have hw186_1 := hx186_1
                             have hw186_0 := hx186_0
                             (try rw [← Nbq45.out] at hx186_2)
                             cases e186
                             replace hx186_0 := (HB.out.cell (World.block_lt_of_cell? w _ hx186_0)).trans hx186_0
                             replace hx186_1 := (HB.out.cell (World.block_lt_of_cell? w _ hx186_1)).trans hx186_1
                             replace hx186_2 := (HB.out.cell (World.block_lt_of_cell? w _ hx186_2)).trans hx186_2
                             have HR186_1 := Aside0.mk hi186_1
                             have HC186_1 := Aside0.mk hl186_1
                             clear hi186_1 hl186_1
                             replace p186 := eq_true p186
                             replace q186 := eq_true q186
                             have p187 : 0 ≤ ((rd (rd_L1 x9_2 (ji21)) 1) : Int) := of_decide_eq_true (by first | (with_reducible assumption) | assumption)
                             have q187 : (rd (rd_L1 x9_2 (ji21)) 1) < (l0.length : Int) := of_decide_eq_true (by first | (with_reducible assumption) | assumption)
                             obtain ⟨ad187, A187_1, c187_1, e187, hx187_0, hx187_1, hx187_2, hl187_1, hi187_1⟩ := at_T43 HR0.out (rd (rd_L1 x9_2 (ji21)) 1) p187 q187
                             have hw187_2 := hx187_2
                             have hw187_1 := hx187_1
                             have hw187_0 := hx187_0
                             (try rw [← Nbq45.out] at hx187_2)
                             obtain rfl : ad186 = ad187 := (by injection e187)
                             replace hx187_0 := (HB.out.cell (World.block_lt_of_cell? w _ hx187_0)).trans hx187_0
                             replace hx187_1 := (HB.out.cell (World.block_lt_of_cell? w _ hx187_1)).trans hx187_1
                             replace hx187_2 := (HB.out.cell (World.block_lt_of_cell? w _ hx187_2)).trans hx187_2
                             have HR187_1 := Aside0.mk hi187_1
                             have HC187_1 := Aside0.mk hl187_1
                             clear hi187_1 hl187_1
                             replace p187 := eq_true p187
                             replace q187 := eq_true q187
                             have p188 : 0 ≤ ((rd (rd_L1 x9_2 (ji21)) 0) : Int) := of_decide_eq_true (by first | (with_reducible assumption) | assumption)
                             have q188 : (rd (rd_L1 x9_2 (ji21)) 0) < (l0.length : Int) := of_decide_eq_true (by first | (with_reducible assumption) | assumption)
                             obtain ⟨ad188, A188_1, c188_1, e188, hx188_0, hx188_1, hx188_2, hl188_1, hi188_1⟩ := at_T43 HR0.out (rd (rd_L1 x9_2 (ji21)) 0) p188 q188
                             have hw188_2 := hx188_2
                             have hw188_1 := hx188_1
                             have hw188_0 := hx188_0
                             (try rw [← Nbq45.out] at hx188_2)
                             obtain rfl : ad186 = ad188 := (by injection e188)
                             replace hx188_0 := (HB.out.cell (World.block_lt_of_cell? w _ hx188_0)).trans hx188_0
                             replace hx188_1 := (HB.out.cell (World.block_lt_of_cell? w _ hx188_1)).trans hx188_1
                             replace hx188_2 := (HB.out.cell (World.block_lt_of_cell? w _ hx188_2)).trans hx188_2
                             have HR188_1 := Aside0.mk hi188_1
                             have HC188_1 := Aside0.mk hl188_1
                             clear hi188_1 hl188_1
                             replace p188 := eq_true p188
                             replace q188 := eq_true q188
                             have ea_ := Option.some.inj (hx186_1.symm.trans hx188_1)
                             injection ea_ with ea_ en_ ec_
                             subst ea_
                             subst ec_
                             clear en_
                             have p189 : 0 ≤ ((rd (rd_L1 x9_2 (ji21)) 1) : Int) := of_decide_eq_true (by first | (with_reducible assumption) | assumption)
                             have q189 : (rd (rd_L1 x9_2 (ji21)) 1) < (l0.length : Int) := of_decide_eq_true (by first | (with_reducible assumption) | assumption)
                             obtain ⟨ad189, A189_1, c189_1, e189, hx189_0, hx189_1, hx189_2, hl189_1, hi189_1⟩ := at_T43 HR0.out (rd (rd_L1 x9_2 (ji21)) 1) p189 q189
                             have hw189_2 := hx189_2
                             have hw189_1 := hx189_1
                             have hw189_0 := hx189_0
                             (try rw [← Nbq45.out] at hx189_2)
                             obtain rfl : ad186 = ad189 := (by injection e189)
                             replace hx189_0 := (HB.out.cell (World.block_lt_of_cell? w _ hx189_0)).trans hx189_0
                             replace hx189_1 := (HB.out.cell (World.block_lt_of_cell? w _ hx189_1)).trans hx189_1
                             replace hx189_2 := (HB.out.cell (World.block_lt_of_cell? w _ hx189_2)).trans hx189_2
                             have HR189_1 := Aside0.mk hi189_1
                             have HC189_1 := Aside0.mk hl189_1
                             clear hi189_1 hl189_1
                             replace p189 := eq_true p189
                             replace q189 := eq_true q189
                             have ea_ := Option.some.inj (hx187_1.symm.trans hx189_1)
                             injection ea_ with ea_ en_ ec_
                             subst ea_
                             subst ec_
                             clear en_
                             refine start_ (n := 39) (S := fun w' => w'.cell? (ad186.add (((rd (rd_L1 x9_2 (ji21)) 0)).toNat * 3)) = some (.int .i64 ((rd_T43 l0 (rd (rd_L1 x9_2 (ji21)) 0)).f0)) ∧ w'.cell? ⟨(ad186.add (((rd (rd_L1 x9_2 (ji21)) 0)).toNat * 3)).block, (ad186.add (((rd (rd_L1 x9_2 (ji21)) 0)).toNat * 3)).off + 1, none⟩ = some (.slice A186_1 ((rd_T43 l0 (rd (rd_L1 x9_2 (ji21)) 0)).f1).length c186_1) ∧ w'.cell? ⟨(ad186.add (((rd (rd_L1 x9_2 (ji21)) 0)).toNat * 3)).block, (ad186.add (((rd (rd_L1 x9_2 (ji21)) 0)).toNat * 3)).off + 2, none⟩ = some (.bool ((rd_T43 l0 (rd (rd_L1 x9_2 (ji21)) 0)).f2)) ∧ w'.cell? (ad186.add (((rd (rd_L1 x9_2 (ji21)) 1)).toNat * 3)) = some (.int .i64 ((rd_T43 l0 (rd (rd_L1 x9_2 (ji21)) 1)).f0)) ∧ w'.cell? ⟨(ad186.add (((rd (rd_L1 x9_2 (ji21)) 1)).toNat * 3)).block, (ad186.add (((rd (rd_L1 x9_2 (ji21)) 1)).toNat * 3)).off + 1, none⟩ = some (.slice A187_1 ((rd_T43 l0 (rd (rd_L1 x9_2 (ji21)) 1)).f1).length c187_1) ∧ w'.cell? ⟨(ad186.add (((rd (rd_L1 x9_2 (ji21)) 1)).toNat * 3)).block, (ad186.add (((rd (rd_L1 x9_2 (ji21)) 1)).toNat * 3)).off + 2, none⟩ = some (.bool ((rd_T43 l0 (rd (rd_L1 x9_2 (ji21)) 1)).f2)) ∧ w'.cell? (ad186.add (((rd (rd_L1 x9_2 (ji21)) 0)).toNat * 3)) = some (.int .i64 ((rd_T43 l0 (rd (rd_L1 x9_2 (ji21)) 0)).f0)) ∧ w'.cell? ⟨(ad186.add (((rd (rd_L1 x9_2 (ji21)) 0)).toNat * 3)).block, (ad186.add (((rd (rd_L1 x9_2 (ji21)) 0)).toNat * 3)).off + 1, none⟩ = some (.slice A186_1 ((rd_T43 l0 (rd (rd_L1 x9_2 (ji21)) 0)).f1).length c186_1) ∧ w'.cell? ⟨(ad186.add (((rd (rd_L1 x9_2 (ji21)) 0)).toNat * 3)).block, (ad186.add (((rd (rd_L1 x9_2 (ji21)) 0)).toNat * 3)).off + 2, none⟩ = some (.bool ((rd_T43 l0 (rd (rd_L1 x9_2 (ji21)) 0)).f2)) ∧ w'.cell? (ad186.add (((rd (rd_L1 x9_2 (ji21)) 1)).toNat * 3)) = some (.int .i64 ((rd_T43 l0 (rd (rd_L1 x9_2 (ji21)) 1)).f0)) ∧ w'.cell? ⟨(ad186.add (((rd (rd_L1 x9_2 (ji21)) 1)).toNat * 3)).block, (ad186.add (((rd (rd_L1 x9_2 (ji21)) 1)).toNat * 3)).off + 1, none⟩ = some (.slice A187_1 ((rd_T43 l0 (rd (rd_L1 x9_2 (ji21)) 1)).f1).length c187_1) ∧ w'.cell? ⟨(ad186.add (((rd (rd_L1 x9_2 (ji21)) 1)).toNat * 3)).block, (ad186.add (((rd (rd_L1 x9_2 (ji21)) 1)).toNat * 3)).off + 2, none⟩ = some (.bool ((rd_T43 l0 (rd (rd_L1 x9_2 (ji21)) 1)).f2))) (ds := []) #[false, false, false, false, false, false, false, false, false, false, false, false, false, false, false, false, false, false, false, false, false, false, false, false, false, false, false, false, false, false, false, false, false, false, false, false, false, false, false] (by kernel_rfl) rfl rfl ⟨((HB.out.cell (World.block_lt_of_cell? w _ hw186_0)).trans hw186_0), ((HB.out.cell (World.block_lt_of_cell? w _ hw186_1)).trans hw186_1), ((HB.out.cell (World.block_lt_of_cell? w _ hw186_2)).trans hw186_2), ((HB.out.cell (World.block_lt_of_cell? w _ hw187_0)).trans hw187_0), ((HB.out.cell (World.block_lt_of_cell? w _ hw187_1)).trans hw187_1), ((HB.out.cell (World.block_lt_of_cell? w _ hw187_2)).trans hw187_2), ((HB.out.cell (World.block_lt_of_cell? w _ hw188_0)).trans hw188_0), ((HB.out.cell (World.block_lt_of_cell? w _ hw188_1)).trans hw188_1), ((HB.out.cell (World.block_lt_of_cell? w _ hw188_2)).trans hw188_2), ((HB.out.cell (World.block_lt_of_cell? w _ hw189_0)).trans hw189_0), ((HB.out.cell (World.block_lt_of_cell? w _ hw189_1)).trans hw189_1), ((HB.out.cell (World.block_lt_of_cell? w _ hw189_2)).trans hw189_2)⟩ (fun hHeld => ?_); refine with_tabW squintref04_Same.tab14 squintref04_Same.bits14 (fun HT_ HW_ => ?_)
                             generalize w50.drew = w55 at HO_8 HO_9 HL203 HB HR186_1 HR187_1 HR188_1 HR189_1 hx186_0 hx186_1 hx186_2 hx187_0 hx187_1 hx187_2 hx188_0 hx188_1 hx188_2 hx189_0 hx189_1 hx189_2 hHeld ⊢
                             refine pure_ (i := 0) (N := some 90) (v := ?_) (a' := ?_) #[true, false, false, false, false, false, false, false, false, false, false, false, false, false, false, false, false, false, false, false, false, false, false, false, false, false, false, false, false, false, false, false, false, false, false, false, false, false, false] rfl rfl (any_of HT_.out (by kernel_rfl)) (fun _ _ _ h => h) (Or.inl ⟨by rfl, ?_⟩) ?_ ?_
                             rotate_left
                             ·intro w'
                              go_simp
                              with_reducible rfl
                             rotate_left
                             ·simp only [Act.put, List.setIfInBounds_toArray, List.set_cons_zero, List.set_cons_succ, i64_w, i32_w]
                              rfl
                             refine pure_ (i := 1) (N := some 91) (v := ?_) (a' := ?_) #[true, true, false, false, false, false, false, false, false, false, false, false, false, false, false, false, false, false, false, false, false, false, false, false, false, false, false, false, false, false, false, false, false, false, false, false, false, false, false] rfl rfl (any_of HT_.out (by kernel_rfl)) (fun _ _ _ h => h) (Or.inl ⟨by rfl, ?_⟩) ?_ ?_
                             rotate_left
                             ·intro w'
                              go_simp
                              with_reducible rfl
                             rotate_left
                             ·simp only [Act.put, List.setIfInBounds_toArray, List.set_cons_zero, List.set_cons_succ, i64_w, i32_w]
                              rfl
                             refine pure_ (i := 2) (N := some 92) (v := ?_) (a' := ?_) #[true, true, true, false, false, false, false, false, false, false, false, false, false, false, false, false, false, false, false, false, false, false, false, false, false, false, false, false, false, false, false, false, false, false, false, false, false, false, false] rfl rfl (any_of HT_.out (by kernel_rfl)) (fun _ _ _ h => h) (Or.inl ⟨by rfl, ?_⟩) ?_ ?_
                             rotate_left
                             ·intro w'
                              go_simp
                              with_reducible rfl
                             rotate_left
                             ·simp only [Act.put, List.setIfInBounds_toArray, List.set_cons_zero, List.set_cons_succ, i64_w, i32_w]
                              rfl
                             refine pure_ (i := 3) (N := some 93) (v := ?_) (a' := ?_) #[true, true, true, true, false, false, false, false, false, false, false, false, false, false, false, false, false, false, false, false, false, false, false, false, false, false, false, false, false, false, false, false, false, false, false, false, false, false, false] rfl rfl (any_of HT_.out (by kernel_rfl)) (fun _ _ _ h => h) (Or.inl ⟨by rfl, ?_⟩) ?_ ?_
                             rotate_left
                             ·intro w'
                              go_simp
                              with_reducible rfl
                             rotate_left
                             ·simp only [Act.put, List.setIfInBounds_toArray, List.set_cons_zero, List.set_cons_succ, i64_w, i32_w]
                              rfl
                             refine pure_ (i := 5) (N := some 95) (v := ?_) (a' := ?_) #[true, true, true, true, false, true, false, false, false, false, false, false, false, false, false, false, false, false, false, false, false, false, false, false, false, false, false, false, false, false, false, false, false, false, false, false, false, false, false] rfl rfl (any_of HT_.out (by kernel_rfl)) (fun _ _ _ h => h) (Or.inl ⟨by rfl, ?_⟩) ?_ ?_
                             rotate_left
                             ·intro w'
                              go_simp
                              with_reducible rfl
                             rotate_left
                             ·simp only [Act.put, List.setIfInBounds_toArray, List.set_cons_zero, List.set_cons_succ, i64_w, i32_w]
                              rfl
                             refine pure_ (i := 6) (N := some 96) (v := ?_) (a' := ?_) #[true, true, true, true, false, true, true, false, false, false, false, false, false, false, false, false, false, false, false, false, false, false, false, false, false, false, false, false, false, false, false, false, false, false, false, false, false, false, false] rfl rfl (any_of HT_.out (by kernel_rfl)) (fun _ _ _ h => h) (Or.inl ⟨by rfl, ?_⟩) ?_ ?_
                             rotate_left
                             ·intro w'
                              go_simp
                              with_reducible rfl
                             rotate_left
                             ·simp only [Act.put, List.setIfInBounds_toArray, List.set_cons_zero, List.set_cons_succ, i64_w, i32_w]
                              rfl
                             refine pure_ (i := 7) (N := some 97) (v := ?_) (a' := ?_) #[true, true, true, true, false, true, true, true, false, false, false, false, false, false, false, false, false, false, false, false, false, false, false, false, false, false, false, false, false, false, false, false, false, false, false, false, false, false, false] rfl rfl (any_of HT_.out (by kernel_rfl)) (fun _ _ _ h => h) (Or.inl ⟨by rfl, ?_⟩) ?_ ?_
                             rotate_left
                             ·intro w'
                              go_simp
                              with_reducible rfl
                             rotate_left
                             ·simp only [Act.put, List.setIfInBounds_toArray, List.set_cons_zero, List.set_cons_succ, i64_w, i32_w]
                              rfl
                             refine pure_ (i := 8) (N := some 98) (v := ?_) (a' := ?_) #[true, true, true, true, false, true, true, true, true, false, false, false, false, false, false, false, false, false, false, false, false, false, false, false, false, false, false, false, false, false, false, false, false, false, false, false, false, false, false] rfl rfl (any_of HT_.out (by kernel_rfl)) (fun _ _ _ h => h) (Or.inl ⟨by rfl, ?_⟩) ?_ ?_
                             rotate_left
                             ·intro w'
                              go_simp
                              with_reducible rfl
                             rotate_left
                             ·simp only [Act.put, List.setIfInBounds_toArray, List.set_cons_zero, List.set_cons_succ, i64_w, i32_w]
                              rfl
                             refine take_ (i := 4) (N := some 94) (v := ?_) (a' := ?_) #[true, true, true, true, true, true, true, true, true, false, false, false, false, false, false, false, false, false, false, false, false, false, false, false, false, false, false, false, false, false, false, false, false, false, false, false, false, false, false] rfl rfl (take_ofW HT_.out HW_.out (by kernel_rfl)) (fun _ _ _ h => h) (Or.inl ⟨by rfl, ?_⟩) hHeld ?_ ?_
                             rotate_left
                             ·rintro w' ⟨s0, s1, s2, s3, s4, s5, s6, s7, s8, s9, s10, s11⟩
                              go_simp
                              with_reducible rfl
                             rotate_left
                             ·simp only [Act.put, List.setIfInBounds_toArray, List.set_cons_zero, List.set_cons_succ, i64_w, i32_w]
                              rfl
                             refine take_ (i := 9) (N := some 99) (v := ?_) (a' := ?_) #[true, true, true, true, true, true, true, true, true, true, false, false, false, false, false, false, false, false, false, false, false, false, false, false, false, false, false, false, false, false, false, false, false, false, false, false, false, false, false] rfl rfl (take_ofW HT_.out HW_.out (by kernel_rfl)) (fun _ _ _ h => h) (Or.inl ⟨by rfl, ?_⟩) hHeld ?_ ?_
                             rotate_left
                             ·rintro w' ⟨s0, s1, s2, s3, s4, s5, s6, s7, s8, s9, s10, s11⟩
                              go_simp
                              with_reducible rfl
                             rotate_left
                             ·simp only [Act.put, List.setIfInBounds_toArray, List.set_cons_zero, List.set_cons_succ, i64_w, i32_w]
                              rfl
                             refine pure_ (i := 10) (N := some 100) (v := ?_) (a' := ?_) #[true, true, true, true, true, true, true, true, true, true, true, false, false, false, false, false, false, false, false, false, false, false, false, false, false, false, false, false, false, false, false, false, false, false, false, false, false, false, false] rfl rfl (any_of HT_.out (by kernel_rfl)) (fun _ _ _ h => h) (Or.inl ⟨by rfl, ?_⟩) ?_ ?_
                             rotate_left
                             ·intro w'
                              go_simp
                              with_reducible rfl
                             rotate_left
                             ·simp only [Act.put, List.setIfInBounds_toArray, List.set_cons_zero, List.set_cons_succ, i64_w, i32_w]
                              rfl
                             refine pure_ (i := 11) (N := some 101) (v := ?_) (a' := ?_) #[true, true, true, true, true, true, true, true, true, true, true, true, false, false, false, false, false, false, false, false, false, false, false, false, false, false, false, false, false, false, false, false, false, false, false, false, false, false, false] rfl rfl (any_of HT_.out (by kernel_rfl)) (fun _ _ _ h => h) (Or.inl ⟨by rfl, ?_⟩) ?_ ?_
                             rotate_left
                             ·intro w'
                              go_simp
                              with_reducible rfl
                             rotate_left
                             ·simp only [Act.put, List.setIfInBounds_toArray, List.set_cons_zero, List.set_cons_succ, i64_w, i32_w]
                              rfl
                             refine pure_ (i := 12) (N := some 102) (v := ?_) (a' := ?_) #[true, true, true, true, true, true, true, true, true, true, true, true, true, false, false, false, false, false, false, false, false, false, false, false, false, false, false, false, false, false, false, false, false, false, false, false, false, false, false] rfl rfl (any_of HT_.out (by kernel_rfl)) (fun _ _ _ h => h) (Or.inl ⟨by rfl, ?_⟩) ?_ ?_
                             rotate_left
                             ·intro w'
                              go_simp
                              with_reducible rfl
                             rotate_left
                             ·simp only [Act.put, List.setIfInBounds_toArray, List.set_cons_zero, List.set_cons_succ, i64_w, i32_w]
                              rfl
                             refine pure_ (i := 13) (N := some 103) (v := ?_) (a' := ?_) #[true, true, true, true, true, true, true, true, true, true, true, true, true, true, false, false, false, false, false, false, false, false, false, false, false, false, false, false, false, false, false, false, false, false, false, false, false, false, false] rfl rfl (any_of HT_.out (by kernel_rfl)) (fun _ _ _ h => h) (Or.inl ⟨by rfl, ?_⟩) ?_ ?_
                             rotate_left
                             ·intro w'
                              go_simp
                              with_reducible rfl
                             rotate_left
                             ·simp only [Act.put, List.setIfInBounds_toArray, List.set_cons_zero, List.set_cons_succ, i64_w, i32_w]
                              rfl
                             refine pure_ (i := 14) (N := some 104) (v := ?_) (a' := ?_) #[true, true, true, true, true, true, true, true, true, true, true, true, true, true, true, false, false, false, false, false, false, false, false, false, false, false, false, false, false, false, false, false, false, false, false, false, false, false, false] rfl rfl (any_of HT_.out (by kernel_rfl)) (fun _ _ _ h => h) (Or.inl ⟨by rfl, ?_⟩) ?_ ?_
                             rotate_left
                             ·intro w'
                              go_simp
                              with_reducible rfl
                             rotate_left
                             ·simp only [Act.put, List.setIfInBounds_toArray, List.set_cons_zero, List.set_cons_succ, i64_w, i32_w]
                              rfl
                             refine pure_ (i := 15) (N := some 105) (v := ?_) (a' := ?_) #[true, true, true, true, true, true, true, true, true, true, true, true, true, true, true, true, false, false, false, false, false, false, false, false, false, false, false, false, false, false, false, false, false, false, false, false, false, false, false] rfl rfl (any_of HT_.out (by kernel_rfl)) (fun _ _ _ h => h) (Or.inl ⟨by rfl, ?_⟩) ?_ ?_
                             rotate_left
                             ·intro w'
                              go_simp
                              with_reducible rfl
                             rotate_left
                             ·simp only [Act.put, List.setIfInBounds_toArray, List.set_cons_zero, List.set_cons_succ, i64_w, i32_w]
                              rfl
                             refine pure_ (i := 17) (N := some 107) (v := ?_) (a' := ?_) #[true, true, true, true, true, true, true, true, true, true, true, true, true, true, true, true, false, true, false, false, false, false, false, false, false, false, false, false, false, false, false, false, false, false, false, false, false, false, false] rfl rfl (any_of HT_.out (by kernel_rfl)) (fun _ _ _ h => h) (Or.inl ⟨by rfl, ?_⟩) ?_ ?_
                             rotate_left
                             ·intro w'
                              go_simp
                              with_reducible rfl
                             rotate_left
                             ·simp only [Act.put, List.setIfInBounds_toArray, List.set_cons_zero, List.set_cons_succ, i64_w, i32_w]
                              rfl
                             refine pure_ (i := 18) (N := some 108) (v := ?_) (a' := ?_) #[true, true, true, true, true, true, true, true, true, true, true, true, true, true, true, true, false, true, true, false, false, false, false, false, false, false, false, false, false, false, false, false, false, false, false, false, false, false, false] rfl rfl (any_of HT_.out (by kernel_rfl)) (fun _ _ _ h => h) (Or.inl ⟨by rfl, ?_⟩) ?_ ?_
                             rotate_left
                             ·intro w'
                              go_simp
                              with_reducible rfl
                             rotate_left
                             ·simp only [Act.put, List.setIfInBounds_toArray, List.set_cons_zero, List.set_cons_succ, i64_w, i32_w]
                              rfl
                             refine pure_ (i := 19) (N := some 109) (v := ?_) (a' := ?_) #[true, true, true, true, true, true, true, true, true, true, true, true, true, true, true, true, false, true, true, true, false, false, false, false, false, false, false, false, false, false, false, false, false, false, false, false, false, false, false] rfl rfl (any_of HT_.out (by kernel_rfl)) (fun _ _ _ h => h) (Or.inl ⟨by rfl, ?_⟩) ?_ ?_
                             rotate_left
                             ·intro w'
                              go_simp
                              with_reducible rfl
                             rotate_left
                             ·simp only [Act.put, List.setIfInBounds_toArray, List.set_cons_zero, List.set_cons_succ, i64_w, i32_w]
                              rfl
                             refine pure_ (i := 20) (N := some 110) (v := ?_) (a' := ?_) #[true, true, true, true, true, true, true, true, true, true, true, true, true, true, true, true, false, true, true, true, true, false, false, false, false, false, false, false, false, false, false, false, false, false, false, false, false, false, false] rfl rfl (any_of HT_.out (by kernel_rfl)) (fun _ _ _ h => h) (Or.inl ⟨by rfl, ?_⟩) ?_ ?_
                             rotate_left
                             ·intro w'
                              go_simp
                              with_reducible rfl
                             rotate_left
                             ·simp only [Act.put, List.setIfInBounds_toArray, List.set_cons_zero, List.set_cons_succ, i64_w, i32_w]
                              rfl
                             refine take_ (i := 16) (N := some 106) (v := ?_) (a' := ?_) #[true, true, true, true, true, true, true, true, true, true, true, true, true, true, true, true, true, true, true, true, true, false, false, false, false, false, false, false, false, false, false, false, false, false, false, false, false, false, false] rfl rfl (take_ofW HT_.out HW_.out (by kernel_rfl)) (fun _ _ _ h => h) (Or.inl ⟨by rfl, ?_⟩) hHeld ?_ ?_
                             rotate_left
                             ·rintro w' ⟨s0, s1, s2, s3, s4, s5, s6, s7, s8, s9, s10, s11⟩
                              go_simp
                              with_reducible rfl
                             rotate_left
                             ·simp only [Act.put, List.setIfInBounds_toArray, List.set_cons_zero, List.set_cons_succ, i64_w, i32_w]
                              rfl
                             refine take_ (i := 21) (N := some 111) (v := ?_) (a' := ?_) #[true, true, true, true, true, true, true, true, true, true, true, true, true, true, true, true, true, true, true, true, true, true, false, false, false, false, false, false, false, false, false, false, false, false, false, false, false, false, false] rfl rfl (take_ofW HT_.out HW_.out (by kernel_rfl)) (fun _ _ _ h => h) (Or.inl ⟨by rfl, ?_⟩) hHeld ?_ ?_
                             rotate_left
                             ·rintro w' ⟨s0, s1, s2, s3, s4, s5, s6, s7, s8, s9, s10, s11⟩
                              go_simp
                              with_reducible rfl
                             rotate_left
                             ·simp only [Act.put, List.setIfInBounds_toArray, List.set_cons_zero, List.set_cons_succ, i64_w, i32_w]
                              rfl
                             refine pure_ (i := 22) (N := some 112) (v := ?_) (a' := ?_) #[true, true, true, true, true, true, true, true, true, true, true, true, true, true, true, true, true, true, true, true, true, true, true, false, false, false, false, false, false, false, false, false, false, false, false, false, false, false, false] rfl rfl (any_of HT_.out (by kernel_rfl)) (fun _ _ _ h => h) (Or.inl ⟨by rfl, ?_⟩) ?_ ?_
                             rotate_left
                             ·intro w'
                              go_simp
                              with_reducible rfl
                             rotate_left
                             ·simp only [Act.put, List.setIfInBounds_toArray, List.set_cons_zero, List.set_cons_succ, i64_w, i32_w]
                              rfl
                             refine pure_ (i := 23) (N := some 113) (v := ?_) (a' := ?_) #[true, true, true, true, true, true, true, true, true, true, true, true, true, true, true, true, true, true, true, true, true, true, true, true, false, false, false, false, false, false, false, false, false, false, false, false, false, false, false] rfl rfl (any_of HT_.out (by kernel_rfl)) (fun _ _ _ h => h) (Or.inl ⟨by rfl, ?_⟩) ?_ ?_
                             rotate_left
                             ·intro w'
                              go_simp
                              with_reducible rfl
                             rotate_left
                             ·simp only [Act.put, List.setIfInBounds_toArray, List.set_cons_zero, List.set_cons_succ, i64_w, i32_w]
                              rfl
                             refine pure_ (i := 24) (N := some 114) (v := ?_) (a' := ?_) #[true, true, true, true, true, true, true, true, true, true, true, true, true, true, true, true, true, true, true, true, true, true, true, true, true, false, false, false, false, false, false, false, false, false, false, false, false, false, false] rfl rfl (any_of HT_.out (by kernel_rfl)) (fun _ _ _ h => h) (Or.inl ⟨by rfl, ?_⟩) ?_ ?_
                             rotate_left
                             ·intro w'
                              go_simp
                              with_reducible rfl
                             rotate_left
                             ·simp only [Act.put, List.setIfInBounds_toArray, List.set_cons_zero, List.set_cons_succ, i64_w, i32_w]
                              rfl
                             refine pure_ (i := 25) (N := some 115) (v := undef) (a' := ?_) #[true, true, true, true, true, true, true, true, true, true, true, true, true, true, true, true, true, true, true, true, true, true, true, true, true, true, false, false, false, false, false, false, false, false, false, false, false, false, false] rfl rfl (any_of HT_.out (by kernel_rfl)) (fun _ _ _ h => h) (Or.inr ⟨by rfl, rfl⟩) ?_ ?_
                             rotate_left
                             ·simp only [Act.put, List.setIfInBounds_toArray, List.set_cons_zero, List.set_cons_succ, i64_w, i32_w]
                              rfl
                             refine pure_ (i := 26) (N := some 116) (v := undef) (a' := ?_) #[true, true, true, true, true, true, true, true, true, true, true, true, true, true, true, true, true, true, true, true, true, true, true, true, true, true, true, false, false, false, false, false, false, false, false, false, false, false, false] rfl rfl (any_of HT_.out (by kernel_rfl)) (fun _ _ _ h => h) (Or.inr ⟨by rfl, rfl⟩) ?_ ?_
                             rotate_left
                             ·simp only [Act.put, List.setIfInBounds_toArray, List.set_cons_zero, List.set_cons_succ, i64_w, i32_w]
                              rfl
                             refine pure_ (i := 27) (N := some 117) (v := undef) (a' := ?_) #[true, true, true, true, true, true, true, true, true, true, true, true, true, true, true, true, true, true, true, true, true, true, true, true, true, true, true, true, false, false, false, false, false, false, false, false, false, false, false] rfl rfl (any_of HT_.out (by kernel_rfl)) (fun _ _ _ h => h) (Or.inr ⟨by rfl, rfl⟩) ?_ ?_
                             rotate_left
                             ·simp only [Act.put, List.setIfInBounds_toArray, List.set_cons_zero, List.set_cons_succ, i64_w, i32_w]
                              rfl
                             refine pure_ (i := 28) (N := some 118) (v := undef) (a' := ?_) #[true, true, true, true, true, true, true, true, true, true, true, true, true, true, true, true, true, true, true, true, true, true, true, true, true, true, true, true, true, false, false, false, false, false, false, false, false, false, false] rfl rfl (any_of HT_.out (by kernel_rfl)) (fun _ _ _ h => h) (Or.inr ⟨by rfl, rfl⟩) ?_ ?_
                             rotate_left
                             ·simp only [Act.put, List.setIfInBounds_toArray, List.set_cons_zero, List.set_cons_succ, i64_w, i32_w]
                              rfl
                             refine pure_ (i := 29) (N := some 119) (v := undef) (a' := ?_) #[true, true, true, true, true, true, true, true, true, true, true, true, true, true, true, true, true, true, true, true, true, true, true, true, true, true, true, true, true, true, false, false, false, false, false, false, false, false, false] rfl rfl (any_of HT_.out (by kernel_rfl)) (fun _ _ _ h => h) (Or.inr ⟨by rfl, rfl⟩) ?_ ?_
                             rotate_left
                             ·simp only [Act.put, List.setIfInBounds_toArray, List.set_cons_zero, List.set_cons_succ, i64_w, i32_w]
                              rfl
                             refine pure_ (i := 30) (N := some 120) (v := undef) (a' := ?_) #[true, true, true, true, true, true, true, true, true, true, true, true, true, true, true, true, true, true, true, true, true, true, true, true, true, true, true, true, true, true, true, false, false, false, false, false, false, false, false] rfl rfl (any_of HT_.out (by kernel_rfl)) (fun _ _ _ h => h) (Or.inr ⟨by rfl, rfl⟩) ?_ ?_
                             rotate_left
                             ·simp only [Act.put, List.setIfInBounds_toArray, List.set_cons_zero, List.set_cons_succ, i64_w, i32_w]
                              rfl
                             refine pure_ (i := 31) (N := some 121) (v := undef) (a' := ?_) #[true, true, true, true, true, true, true, true, true, true, true, true, true, true, true, true, true, true, true, true, true, true, true, true, true, true, true, true, true, true, true, true, false, false, false, false, false, false, false] rfl rfl (any_of HT_.out (by kernel_rfl)) (fun _ _ _ h => h) (Or.inr ⟨by rfl, rfl⟩) ?_ ?_
                             rotate_left
                             ·simp only [Act.put, List.setIfInBounds_toArray, List.set_cons_zero, List.set_cons_succ, i64_w, i32_w]
                              rfl
                             refine pure_ (i := 32) (N := some 122) (v := undef) (a' := ?_) #[true, true, true, true, true, true, true, true, true, true, true, true, true, true, true, true, true, true, true, true, true, true, true, true, true, true, true, true, true, true, true, true, true, false, false, false, false, false, false] rfl rfl (any_of HT_.out (by kernel_rfl)) (fun _ _ _ h => h) (Or.inr ⟨by rfl, rfl⟩) ?_ ?_
                             rotate_left
                             ·simp only [Act.put, List.setIfInBounds_toArray, List.set_cons_zero, List.set_cons_succ, i64_w, i32_w]
                              rfl
                             refine pure_ (i := 33) (N := some 123) (v := undef) (a' := ?_) #[true, true, true, true, true, true, true, true, true, true, true, true, true, true, true, true, true, true, true, true, true, true, true, true, true, true, true, true, true, true, true, true, true, true, false, false, false, false, false] rfl rfl (any_of HT_.out (by kernel_rfl)) (fun _ _ _ h => h) (Or.inr ⟨by rfl, rfl⟩) ?_ ?_
                             rotate_left
                             ·simp only [Act.put, List.setIfInBounds_toArray, List.set_cons_zero, List.set_cons_succ, i64_w, i32_w]
                              rfl
                             refine pure_ (i := 34) (N := some 124) (v := undef) (a' := ?_) #[true, true, true, true, true, true, true, true, true, true, true, true, true, true, true, true, true, true, true, true, true, true, true, true, true, true, true, true, true, true, true, true, true, true, true, false, false, false, false] rfl rfl (any_of HT_.out (by kernel_rfl)) (fun _ _ _ h => h) (Or.inr ⟨by rfl, rfl⟩) ?_ ?_
                             rotate_left
                             ·simp only [Act.put, List.setIfInBounds_toArray, List.set_cons_zero, List.set_cons_succ, i64_w, i32_w]
                              rfl
                             refine pure_ (i := 35) (N := some 125) (v := undef) (a' := ?_) #[true, true, true, true, true, true, true, true, true, true, true, true, true, true, true, true, true, true, true, true, true, true, true, true, true, true, true, true, true, true, true, true, true, true, true, true, false, false, false] rfl rfl (any_of HT_.out (by kernel_rfl)) (fun _ _ _ h => h) (Or.inr ⟨by rfl, rfl⟩) ?_ ?_
                             rotate_left
                             ·simp only [Act.put, List.setIfInBounds_toArray, List.set_cons_zero, List.set_cons_succ, i64_w, i32_w]
                              rfl
                             refine pure_ (i := 36) (N := some 126) (v := undef) (a' := ?_) #[true, true, true, true, true, true, true, true, true, true, true, true, true, true, true, true, true, true, true, true, true, true, true, true, true, true, true, true, true, true, true, true, true, true, true, true, true, false, false] rfl rfl (any_of HT_.out (by kernel_rfl)) (fun _ _ _ h => h) (Or.inr ⟨by rfl, rfl⟩) ?_ ?_
                             rotate_left
                             ·simp only [Act.put, List.setIfInBounds_toArray, List.set_cons_zero, List.set_cons_succ, i64_w, i32_w]
                              rfl
                             refine pure_ (i := 37) (N := some 127) (v := undef) (a' := ?_) #[true, true, true, true, true, true, true, true, true, true, true, true, true, true, true, true, true, true, true, true, true, true, true, true, true, true, true, true, true, true, true, true, true, true, true, true, true, true, false] rfl rfl (any_of HT_.out (by kernel_rfl)) (fun _ _ _ h => h) (Or.inr ⟨by rfl, rfl⟩) ?_ ?_
                             rotate_left
                             ·simp only [Act.put, List.setIfInBounds_toArray, List.set_cons_zero, List.set_cons_succ, i64_w, i32_w]
                              rfl
                             refine pure_ (i := 38) (N := some 128) (v := ?_) (a' := ?_) #[true, true, true, true, true, true, true, true, true, true, true, true, true, true, true, true, true, true, true, true, true, true, true, true, true, true, true, true, true, true, true, true, true, true, true, true, true, true, true] rfl rfl (any_of HT_.out (by kernel_rfl)) (fun _ _ _ h => h) (Or.inl ⟨by rfl, ?_⟩) ?_ ?_
                             rotate_left
                             ·intro w'
                              go_simp
                              with_reducible rfl
                             rotate_left
                             ·simp only [Act.put, List.setIfInBounds_toArray, List.set_cons_zero, List.set_cons_succ, i64_w, i32_w]
                              rfl
                             refine done_ (done_of HT_.out (by kernel_rfl)) ?_
                             try go_wp2
                             go_meet
                             case rel => exact ⟨_, (true), (by first | rfl | (simp; done) | (simp [*]; done)), H', ⟨by have := HJ3.out; have := HK2.out; have := HJ28.out; first | omega | exact Nat.le_refl _⟩, ⟨by (try simp only [hl8_28]); (with_reducible repeat (first | apply Kd.S_alloc | apply Kd.S_drewN | apply Kd.S_drew)); exact HO_8.out⟩, ⟨by (try simp only [hl8_28]); (with_reducible repeat (first | apply Kd.S_alloc | apply Kd.S_drewN | apply Kd.S_drew)); exact HO_9.out⟩, ⟨by repeat (first | (with_reducible first | exact HB.out | apply below_alloc | apply pw_below_drewN | apply below_drew1) | exact HB.out)⟩⟩
                            ·rw [if_neg c54] at H
                             have c54b0 : (((rd_T43 l0 (rd (rd_L1 x9_2 (ji21)) 0)).f2) != ((rd_T43 l0 (rd (rd_L1 x9_2 (ji21)) 1)).f2)) = false := by simpa using c54
                             (try (have c54b1 : decide (((rd_T43 l0 (rd (rd_L1 x9_2 (ji21)) 0)).f2) = ((rd_T43 l0 (rd (rd_L1 x9_2 (ji21)) 1)).f2)) = true := by simpa using c54))
                             (try (have c54b2 : (((rd_T43 l0 (rd (rd_L1 x9_2 (ji21)) 0)).f2) == ((rd_T43 l0 (rd (rd_L1 x9_2 (ji21)) 1)).f2)) = true := by simpa using c54))
                             clear c54
                             have H' := Aside0.mk H
                             clear H
                             try go_wp2
                             have n0_ := Aside0.mk (Kd.S_drew HO_8.out)
                             have n1_ := Aside0.mk (Kd.S_drew HO_9.out)
                             have n2_ := Aside0.mk (Kd.R_drew HL203.out)
                             have n3_ := Aside0.mk (below_drew1 HB.out)
                             clear HO_8
                             clear HO_9
                             clear HL203
                             clear HB
                             have HO_8 := n0_
                             have HO_9 := n1_
                             have HL203 := n2_
                             have HB := n3_
                             clear n0_ n1_ n2_ n3_
                             have p186 : 0 ≤ ((rd (rd_L1 x9_2 (ji21)) 0) : Int) := of_decide_eq_true (by first | (with_reducible assumption) | assumption)
                             have q186 : (rd (rd_L1 x9_2 (ji21)) 0) < (l0.length : Int) := of_decide_eq_true (by first | (with_reducible assumption) | assumption)
                             obtain ⟨ad186, A186_1, c186_1, e186, hx186_0, hx186_1, hx186_2, hl186_1, hi186_1⟩ := at_T43 HR0.out (rd (rd_L1 x9_2 (ji21)) 0) p186 q186
                             have hw186_2 := hx186_2
                             have hw186_1 := hx186_1
                             have hw186_0 := hx186_0
                             (try rw [← Nbq45.out] at hx186_2)
                             cases e186
                             replace hx186_0 := (HB.out.cell (World.block_lt_of_cell? w _ hx186_0)).trans hx186_0
                             replace hx186_1 := (HB.out.cell (World.block_lt_of_cell? w _ hx186_1)).trans hx186_1
                             replace hx186_2 := (HB.out.cell (World.block_lt_of_cell? w _ hx186_2)).trans hx186_2
                             have HR186_1 := Aside0.mk hi186_1
                             have HC186_1 := Aside0.mk hl186_1
                             clear hi186_1 hl186_1
                             replace p186 := eq_true p186
                             replace q186 := eq_true q186
                             have p187 : 0 ≤ ((rd (rd_L1 x9_2 (ji21)) 1) : Int) := of_decide_eq_true (by first | (with_reducible assumption) | assumption)
                             have q187 : (rd (rd_L1 x9_2 (ji21)) 1) < (l0.length : Int) := of_decide_eq_true (by first | (with_reducible assumption) | assumption)
                             obtain ⟨ad187, A187_1, c187_1, e187, hx187_0, hx187_1, hx187_2, hl187_1, hi187_1⟩ := at_T43 HR0.out (rd (rd_L1 x9_2 (ji21)) 1) p187 q187
                             have hw187_2 := hx187_2
                             have hw187_1 := hx187_1
                             have hw187_0 := hx187_0
                             (try rw [← Nbq45.out] at hx187_2)
                             obtain rfl : ad186 = ad187 := (by injection e187)
                             replace hx187_0 := (HB.out.cell (World.block_lt_of_cell? w _ hx187_0)).trans hx187_0
                             replace hx187_1 := (HB.out.cell (World.block_lt_of_cell? w _ hx187_1)).trans hx187_1
                             replace hx187_2 := (HB.out.cell (World.block_lt_of_cell? w _ hx187_2)).trans hx187_2
                             have HR187_1 := Aside0.mk hi187_1
                             have HC187_1 := Aside0.mk hl187_1
                             clear hi187_1 hl187_1
                             replace p187 := eq_true p187
                             replace q187 := eq_true q187
                             have p188 : 0 ≤ ((rd (rd_L1 x9_2 (ji21)) 0) : Int) := of_decide_eq_true (by first | (with_reducible assumption) | assumption)
                             have q188 : (rd (rd_L1 x9_2 (ji21)) 0) < (l0.length : Int) := of_decide_eq_true (by first | (with_reducible assumption) | assumption)
                             obtain ⟨ad188, A188_1, c188_1, e188, hx188_0, hx188_1, hx188_2, hl188_1, hi188_1⟩ := at_T43 HR0.out (rd (rd_L1 x9_2 (ji21)) 0) p188 q188
                             have hw188_2 := hx188_2
                             have hw188_1 := hx188_1
                             have hw188_0 := hx188_0
                             (try rw [← Nbq45.out] at hx188_2)
                             obtain rfl : ad186 = ad188 := (by injection e188)
                             replace hx188_0 := (HB.out.cell (World.block_lt_of_cell? w _ hx188_0)).trans hx188_0
                             replace hx188_1 := (HB.out.cell (World.block_lt_of_cell? w _ hx188_1)).trans hx188_1
                             replace hx188_2 := (HB.out.cell (World.block_lt_of_cell? w _ hx188_2)).trans hx188_2
                             have HR188_1 := Aside0.mk hi188_1
                             have HC188_1 := Aside0.mk hl188_1
                             clear hi188_1 hl188_1
                             replace p188 := eq_true p188
                             replace q188 := eq_true q188
                             have ea_ := Option.some.inj (hx186_1.symm.trans hx188_1)
                             injection ea_ with ea_ en_ ec_
                             subst ea_
                             subst ec_
                             clear en_
                             have p189 : 0 ≤ ((rd (rd_L1 x9_2 (ji21)) 1) : Int) := of_decide_eq_true (by first | (with_reducible assumption) | assumption)
                             have q189 : (rd (rd_L1 x9_2 (ji21)) 1) < (l0.length : Int) := of_decide_eq_true (by first | (with_reducible assumption) | assumption)
                             obtain ⟨ad189, A189_1, c189_1, e189, hx189_0, hx189_1, hx189_2, hl189_1, hi189_1⟩ := at_T43 HR0.out (rd (rd_L1 x9_2 (ji21)) 1) p189 q189
                             have hw189_2 := hx189_2
                             have hw189_1 := hx189_1
                             have hw189_0 := hx189_0
                             (try rw [← Nbq45.out] at hx189_2)
                             obtain rfl : ad186 = ad189 := (by injection e189)
                             replace hx189_0 := (HB.out.cell (World.block_lt_of_cell? w _ hx189_0)).trans hx189_0
                             replace hx189_1 := (HB.out.cell (World.block_lt_of_cell? w _ hx189_1)).trans hx189_1
                             replace hx189_2 := (HB.out.cell (World.block_lt_of_cell? w _ hx189_2)).trans hx189_2
                             have HR189_1 := Aside0.mk hi189_1
                             have HC189_1 := Aside0.mk hl189_1
                             clear hi189_1 hl189_1
                             replace p189 := eq_true p189
                             replace q189 := eq_true q189
                             have ea_ := Option.some.inj (hx187_1.symm.trans hx189_1)
                             injection ea_ with ea_ en_ ec_
                             subst ea_
                             subst ec_
                             clear en_
                             have p190 : 0 ≤ ((rd (rd_L1 x9_2 (ji21)) 0) : Int) := of_decide_eq_true (by first | (with_reducible assumption) | assumption)
                             have q190 : (rd (rd_L1 x9_2 (ji21)) 0) < (l0.length : Int) := of_decide_eq_true (by first | (with_reducible assumption) | assumption)
                             obtain ⟨ad190, A190_1, c190_1, e190, hx190_0, hx190_1, hx190_2, hl190_1, hi190_1⟩ := at_T43 HR0.out (rd (rd_L1 x9_2 (ji21)) 0) p190 q190
                             have hw190_2 := hx190_2
                             have hw190_1 := hx190_1
                             have hw190_0 := hx190_0
                             (try rw [← Nbq45.out] at hx190_2)
                             obtain rfl : ad186 = ad190 := (by injection e190)
                             replace hx190_0 := (HB.out.cell (World.block_lt_of_cell? w _ hx190_0)).trans hx190_0
                             replace hx190_1 := (HB.out.cell (World.block_lt_of_cell? w _ hx190_1)).trans hx190_1
                             replace hx190_2 := (HB.out.cell (World.block_lt_of_cell? w _ hx190_2)).trans hx190_2
                             have HR190_1 := Aside0.mk hi190_1
                             have HC190_1 := Aside0.mk hl190_1
                             clear hi190_1 hl190_1
                             replace p190 := eq_true p190
                             replace q190 := eq_true q190
                             have ea_ := Option.some.inj (hx186_1.symm.trans hx190_1)
                             injection ea_ with ea_ en_ ec_
                             subst ea_
                             subst ec_
                             clear en_
                             have p191 : 0 ≤ ((rd (rd_L1 x9_2 (ji21)) 1) : Int) := of_decide_eq_true (by first | (with_reducible assumption) | assumption)
                             have q191 : (rd (rd_L1 x9_2 (ji21)) 1) < (l0.length : Int) := of_decide_eq_true (by first | (with_reducible assumption) | assumption)
                             obtain ⟨ad191, A191_1, c191_1, e191, hx191_0, hx191_1, hx191_2, hl191_1, hi191_1⟩ := at_T43 HR0.out (rd (rd_L1 x9_2 (ji21)) 1) p191 q191
                             have hw191_2 := hx191_2
                             have hw191_1 := hx191_1
                             have hw191_0 := hx191_0
                             (try rw [← Nbq45.out] at hx191_2)
                             obtain rfl : ad186 = ad191 := (by injection e191)
                             replace hx191_0 := (HB.out.cell (World.block_lt_of_cell? w _ hx191_0)).trans hx191_0
                             replace hx191_1 := (HB.out.cell (World.block_lt_of_cell? w _ hx191_1)).trans hx191_1
                             replace hx191_2 := (HB.out.cell (World.block_lt_of_cell? w _ hx191_2)).trans hx191_2
                             have HR191_1 := Aside0.mk hi191_1
                             have HC191_1 := Aside0.mk hl191_1
                             clear hi191_1 hl191_1
                             replace p191 := eq_true p191
                             replace q191 := eq_true q191
                             have ea_ := Option.some.inj (hx187_1.symm.trans hx191_1)
                             injection ea_ with ea_ en_ ec_
                             subst ea_
                             subst ec_
                             clear en_
                             refine start_ (n := 39) (S := fun w' => w'.cell? (ad186.add (((rd (rd_L1 x9_2 (ji21)) 0)).toNat * 3)) = some (.int .i64 ((rd_T43 l0 (rd (rd_L1 x9_2 (ji21)) 0)).f0)) ∧ w'.cell? ⟨(ad186.add (((rd (rd_L1 x9_2 (ji21)) 0)).toNat * 3)).block, (ad186.add (((rd (rd_L1 x9_2 (ji21)) 0)).toNat * 3)).off + 1, none⟩ = some (.slice A186_1 ((rd_T43 l0 (rd (rd_L1 x9_2 (ji21)) 0)).f1).length c186_1) ∧ w'.cell? ⟨(ad186.add (((rd (rd_L1 x9_2 (ji21)) 0)).toNat * 3)).block, (ad186.add (((rd (rd_L1 x9_2 (ji21)) 0)).toNat * 3)).off + 2, none⟩ = some (.bool ((rd_T43 l0 (rd (rd_L1 x9_2 (ji21)) 0)).f2)) ∧ w'.cell? (ad186.add (((rd (rd_L1 x9_2 (ji21)) 1)).toNat * 3)) = some (.int .i64 ((rd_T43 l0 (rd (rd_L1 x9_2 (ji21)) 1)).f0)) ∧ w'.cell? ⟨(ad186.add (((rd (rd_L1 x9_2 (ji21)) 1)).toNat * 3)).block, (ad186.add (((rd (rd_L1 x9_2 (ji21)) 1)).toNat * 3)).off + 1, none⟩ = some (.slice A187_1 ((rd_T43 l0 (rd (rd_L1 x9_2 (ji21)) 1)).f1).length c187_1) ∧ w'.cell? ⟨(ad186.add (((rd (rd_L1 x9_2 (ji21)) 1)).toNat * 3)).block, (ad186.add (((rd (rd_L1 x9_2 (ji21)) 1)).toNat * 3)).off + 2, none⟩ = some (.bool ((rd_T43 l0 (rd (rd_L1 x9_2 (ji21)) 1)).f2)) ∧ w'.cell? (ad186.add (((rd (rd_L1 x9_2 (ji21)) 0)).toNat * 3)) = some (.int .i64 ((rd_T43 l0 (rd (rd_L1 x9_2 (ji21)) 0)).f0)) ∧ w'.cell? ⟨(ad186.add (((rd (rd_L1 x9_2 (ji21)) 0)).toNat * 3)).block, (ad186.add (((rd (rd_L1 x9_2 (ji21)) 0)).toNat * 3)).off + 1, none⟩ = some (.slice A186_1 ((rd_T43 l0 (rd (rd_L1 x9_2 (ji21)) 0)).f1).length c186_1) ∧ w'.cell? ⟨(ad186.add (((rd (rd_L1 x9_2 (ji21)) 0)).toNat * 3)).block, (ad186.add (((rd (rd_L1 x9_2 (ji21)) 0)).toNat * 3)).off + 2, none⟩ = some (.bool ((rd_T43 l0 (rd (rd_L1 x9_2 (ji21)) 0)).f2)) ∧ w'.cell? (ad186.add (((rd (rd_L1 x9_2 (ji21)) 1)).toNat * 3)) = some (.int .i64 ((rd_T43 l0 (rd (rd_L1 x9_2 (ji21)) 1)).f0)) ∧ w'.cell? ⟨(ad186.add (((rd (rd_L1 x9_2 (ji21)) 1)).toNat * 3)).block, (ad186.add (((rd (rd_L1 x9_2 (ji21)) 1)).toNat * 3)).off + 1, none⟩ = some (.slice A187_1 ((rd_T43 l0 (rd (rd_L1 x9_2 (ji21)) 1)).f1).length c187_1) ∧ w'.cell? ⟨(ad186.add (((rd (rd_L1 x9_2 (ji21)) 1)).toNat * 3)).block, (ad186.add (((rd (rd_L1 x9_2 (ji21)) 1)).toNat * 3)).off + 2, none⟩ = some (.bool ((rd_T43 l0 (rd (rd_L1 x9_2 (ji21)) 1)).f2)) ∧ w'.cell? (ad186.add (((rd (rd_L1 x9_2 (ji21)) 0)).toNat * 3)) = some (.int .i64 ((rd_T43 l0 (rd (rd_L1 x9_2 (ji21)) 0)).f0)) ∧ w'.cell? ⟨(ad186.add (((rd (rd_L1 x9_2 (ji21)) 0)).toNat * 3)).block, (ad186.add (((rd (rd_L1 x9_2 (ji21)) 0)).toNat * 3)).off + 1, none⟩ = some (.slice A186_1 ((rd_T43 l0 (rd (rd_L1 x9_2 (ji21)) 0)).f1).length c186_1) ∧ w'.cell? ⟨(ad186.add (((rd (rd_L1 x9_2 (ji21)) 0)).toNat * 3)).block, (ad186.add (((rd (rd_L1 x9_2 (ji21)) 0)).toNat * 3)).off + 2, none⟩ = some (.bool ((rd_T43 l0 (rd (rd_L1 x9_2 (ji21)) 0)).f2)) ∧ w'.cell? (ad186.add (((rd (rd_L1 x9_2 (ji21)) 1)).toNat * 3)) = some (.int .i64 ((rd_T43 l0 (rd (rd_L1 x9_2 (ji21)) 1)).f0)) ∧ w'.cell? ⟨(ad186.add (((rd (rd_L1 x9_2 (ji21)) 1)).toNat * 3)).block, (ad186.add (((rd (rd_L1 x9_2 (ji21)) 1)).toNat * 3)).off + 1, none⟩ = some (.slice A187_1 ((rd_T43 l0 (rd (rd_L1 x9_2 (ji21)) 1)).f1).length c187_1) ∧ w'.cell? ⟨(ad186.add (((rd (rd_L1 x9_2 (ji21)) 1)).toNat * 3)).block, (ad186.add (((rd (rd_L1 x9_2 (ji21)) 1)).toNat * 3)).off + 2, none⟩ = some (.bool ((rd_T43 l0 (rd (rd_L1 x9_2 (ji21)) 1)).f2))) (ds := []) #[false, false, false, false, false, false, false, false, false, false, false, false, false, false, false, false, false, false, false, false, false, false, false, false, false, false, false, false, false, false, false, false, false, false, false, false, false, false, false] (by kernel_rfl) rfl rfl ⟨((HB.out.cell (World.block_lt_of_cell? w _ hw186_0)).trans hw186_0), ((HB.out.cell (World.block_lt_of_cell? w _ hw186_1)).trans hw186_1), ((HB.out.cell (World.block_lt_of_cell? w _ hw186_2)).trans hw186_2), ((HB.out.cell (World.block_lt_of_cell? w _ hw187_0)).trans hw187_0), ((HB.out.cell (World.block_lt_of_cell? w _ hw187_1)).trans hw187_1), ((HB.out.cell (World.block_lt_of_cell? w _ hw187_2)).trans hw187_2), ((HB.out.cell (World.block_lt_of_cell? w _ hw188_0)).trans hw188_0), ((HB.out.cell (World.block_lt_of_cell? w _ hw188_1)).trans hw188_1), ((HB.out.cell (World.block_lt_of_cell? w _ hw188_2)).trans hw188_2), ((HB.out.cell (World.block_lt_of_cell? w _ hw189_0)).trans hw189_0), ((HB.out.cell (World.block_lt_of_cell? w _ hw189_1)).trans hw189_1), ((HB.out.cell (World.block_lt_of_cell? w _ hw189_2)).trans hw189_2), ((HB.out.cell (World.block_lt_of_cell? w _ hw190_0)).trans hw190_0), ((HB.out.cell (World.block_lt_of_cell? w _ hw190_1)).trans hw190_1), ((HB.out.cell (World.block_lt_of_cell? w _ hw190_2)).trans hw190_2), ((HB.out.cell (World.block_lt_of_cell? w _ hw191_0)).trans hw191_0), ((HB.out.cell (World.block_lt_of_cell? w _ hw191_1)).trans hw191_1), ((HB.out.cell (World.block_lt_of_cell? w _ hw191_2)).trans hw191_2)⟩ (fun hHeld => ?_); refine with_tabW squintref04_Same.tab14 squintref04_Same.bits14 (fun HT_ HW_ => ?_)
                             generalize w50.drew = w56 at HO_8 HO_9 HL203 HB HR186_1 HR187_1 HR188_1 HR189_1 HR190_1 HR191_1 hx186_0 hx186_1 hx186_2 hx187_0 hx187_1 hx187_2 hx188_0 hx188_1 hx188_2 hx189_0 hx189_1 hx189_2 hx190_0 hx190_1 hx190_2 hx191_0 hx191_1 hx191_2 hHeld ⊢
                             refine pure_ (i := 0) (N := some 90) (v := ?_) (a' := ?_) #[true, false, false, false, false, false, false, false, false, false, false, false, false, false, false, false, false, false, false, false, false, false, false, false, false, false, false, false, false, false, false, false, false, false, false, false, false, false, false] rfl rfl (any_of HT_.out (by kernel_rfl)) (fun _ _ _ h => h) (Or.inl ⟨by rfl, ?_⟩) ?_ ?_
                             rotate_left
                             ·intro w'
                              go_simp
                              with_reducible rfl
                             rotate_left
                             ·simp only [Act.put, List.setIfInBounds_toArray, List.set_cons_zero, List.set_cons_succ, i64_w, i32_w]
                              rfl
                             refine pure_ (i := 1) (N := some 91) (v := ?_) (a' := ?_) #[true, true, false, false, false, false, false, false, false, false, false, false, false, false, false, false, false, false, false, false, false, false, false, false, false, false, false, false, false, false, false, false, false, false, false, false, false, false, false] rfl rfl (any_of HT_.out (by kernel_rfl)) (fun _ _ _ h => h) (Or.inl ⟨by rfl, ?_⟩) ?_ ?_
                             rotate_left
                             ·intro w'
                              go_simp
                              with_reducible rfl
                             rotate_left
                             ·simp only [Act.put, List.setIfInBounds_toArray, List.set_cons_zero, List.set_cons_succ, i64_w, i32_w]
                              rfl
                             refine pure_ (i := 2) (N := some 92) (v := ?_) (a' := ?_) #[true, true, true, false, false, false, false, false, false, false, false, false, false, false, false, false, false, false, false, false, false, false, false, false, false, false, false, false, false, false, false, false, false, false, false, false, false, false, false] rfl rfl (any_of HT_.out (by kernel_rfl)) (fun _ _ _ h => h) (Or.inl ⟨by rfl, ?_⟩) ?_ ?_
                             rotate_left
                             ·intro w'
                              go_simp
                              with_reducible rfl
                             rotate_left
                             ·simp only [Act.put, List.setIfInBounds_toArray, List.set_cons_zero, List.set_cons_succ, i64_w, i32_w]
                              rfl
                             refine pure_ (i := 3) (N := some 93) (v := ?_) (a' := ?_) #[true, true, true, true, false, false, false, false, false, false, false, false, false, false, false, false, false, false, false, false, false, false, false, false, false, false, false, false, false, false, false, false, false, false, false, false, false, false, false] rfl rfl (any_of HT_.out (by kernel_rfl)) (fun _ _ _ h => h) (Or.inl ⟨by rfl, ?_⟩) ?_ ?_
                             rotate_left
                             ·intro w'
                              go_simp
                              with_reducible rfl
                             rotate_left
                             ·simp only [Act.put, List.setIfInBounds_toArray, List.set_cons_zero, List.set_cons_succ, i64_w, i32_w]
                              rfl
                             refine pure_ (i := 5) (N := some 95) (v := ?_) (a' := ?_) #[true, true, true, true, false, true, false, false, false, false, false, false, false, false, false, false, false, false, false, false, false, false, false, false, false, false, false, false, false, false, false, false, false, false, false, false, false, false, false] rfl rfl (any_of HT_.out (by kernel_rfl)) (fun _ _ _ h => h) (Or.inl ⟨by rfl, ?_⟩) ?_ ?_
                             rotate_left
                             ·intro w'
                              go_simp
                              with_reducible rfl
                             rotate_left
                             ·simp only [Act.put, List.setIfInBounds_toArray, List.set_cons_zero, List.set_cons_succ, i64_w, i32_w]
                              rfl
                             refine pure_ (i := 6) (N := some 96) (v := ?_) (a' := ?_) #[true, true, true, true, false, true, true, false, false, false, false, false, false, false, false, false, false, false, false, false, false, false, false, false, false, false, false, false, false, false, false, false, false, false, false, false, false, false, false] rfl rfl (any_of HT_.out (by kernel_rfl)) (fun _ _ _ h => h) (Or.inl ⟨by rfl, ?_⟩) ?_ ?_
                             rotate_left
                             ·intro w'
                              go_simp
                              with_reducible rfl
                             rotate_left
                             ·simp only [Act.put, List.setIfInBounds_toArray, List.set_cons_zero, List.set_cons_succ, i64_w, i32_w]
                              rfl
                             refine pure_ (i := 7) (N := some 97) (v := ?_) (a' := ?_) #[true, true, true, true, false, true, true, true, false, false, false, false, false, false, false, false, false, false, false, false, false, false, false, false, false, false, false, false, false, false, false, false, false, false, false, false, false, false, false] rfl rfl (any_of HT_.out (by kernel_rfl)) (fun _ _ _ h => h) (Or.inl ⟨by rfl, ?_⟩) ?_ ?_
                             rotate_left
                             ·intro w'
                              go_simp
                              with_reducible rfl
                             rotate_left
                             ·simp only [Act.put, List.setIfInBounds_toArray, List.set_cons_zero, List.set_cons_succ, i64_w, i32_w]
                              rfl
                             refine pure_ (i := 8) (N := some 98) (v := ?_) (a' := ?_) #[true, true, true, true, false, true, true, true, true, false, false, false, false, false, false, false, false, false, false, false, false, false, false, false, false, false, false, false, false, false, false, false, false, false, false, false, false, false, false] rfl rfl (any_of HT_.out (by kernel_rfl)) (fun _ _ _ h => h) (Or.inl ⟨by rfl, ?_⟩) ?_ ?_
                             rotate_left
                             ·intro w'
                              go_simp
                              with_reducible rfl
                             rotate_left
                             ·simp only [Act.put, List.setIfInBounds_toArray, List.set_cons_zero, List.set_cons_succ, i64_w, i32_w]
                              rfl
                             refine take_ (i := 4) (N := some 94) (v := ?_) (a' := ?_) #[true, true, true, true, true, true, true, true, true, false, false, false, false, false, false, false, false, false, false, false, false, false, false, false, false, false, false, false, false, false, false, false, false, false, false, false, false, false, false] rfl rfl (take_ofW HT_.out HW_.out (by kernel_rfl)) (fun _ _ _ h => h) (Or.inl ⟨by rfl, ?_⟩) hHeld ?_ ?_
                             rotate_left
                             ·rintro w' ⟨s0, s1, s2, s3, s4, s5, s6, s7, s8, s9, s10, s11, s12, s13, s14, s15, s16, s17⟩
                              go_simp
                              with_reducible rfl
                             rotate_left
                             ·simp only [Act.put, List.setIfInBounds_toArray, List.set_cons_zero, List.set_cons_succ, i64_w, i32_w]
                              rfl
                             refine take_ (i := 9) (N := some 99) (v := ?_) (a' := ?_) #[true, true, true, true, true, true, true, true, true, true, false, false, false, false, false, false, false, false, false, false, false, false, false, false, false, false, false, false, false, false, false, false, false, false, false, false, false, false, false] rfl rfl (take_ofW HT_.out HW_.out (by kernel_rfl)) (fun _ _ _ h => h) (Or.inl ⟨by rfl, ?_⟩) hHeld ?_ ?_
                             rotate_left
                             ·rintro w' ⟨s0, s1, s2, s3, s4, s5, s6, s7, s8, s9, s10, s11, s12, s13, s14, s15, s16, s17⟩
                              go_simp
                              with_reducible rfl
                             rotate_left
                             ·simp only [Act.put, List.setIfInBounds_toArray, List.set_cons_zero, List.set_cons_succ, i64_w, i32_w]
                              rfl
                             refine pure_ (i := 10) (N := some 100) (v := ?_) (a' := ?_) #[true, true, true, true, true, true, true, true, true, true, true, false, false, false, false, false, false, false, false, false, false, false, false, false, false, false, false, false, false, false, false, false, false, false, false, false, false, false, false] rfl rfl (any_of HT_.out (by kernel_rfl)) (fun _ _ _ h => h) (Or.inl ⟨by rfl, ?_⟩) ?_ ?_
                             rotate_left
                             ·intro w'
                              go_simp
                              with_reducible rfl
                             rotate_left
                             ·simp only [Act.put, List.setIfInBounds_toArray, List.set_cons_zero, List.set_cons_succ, i64_w, i32_w]
                              rfl
                             refine pure_ (i := 11) (N := some 101) (v := ?_) (a' := ?_) #[true, true, true, true, true, true, true, true, true, true, true, true, false, false, false, false, false, false, false, false, false, false, false, false, false, false, false, false, false, false, false, false, false, false, false, false, false, false, false] rfl rfl (any_of HT_.out (by kernel_rfl)) (fun _ _ _ h => h) (Or.inl ⟨by rfl, ?_⟩) ?_ ?_
                             rotate_left
                             ·intro w'
                              go_simp
                              with_reducible rfl
                             rotate_left
                             ·simp only [Act.put, List.setIfInBounds_toArray, List.set_cons_zero, List.set_cons_succ, i64_w, i32_w]
                              rfl
                             refine pure_ (i := 12) (N := some 102) (v := ?_) (a' := ?_) #[true, true, true, true, true, true, true, true, true, true, true, true, true, false, false, false, false, false, false, false, false, false, false, false, false, false, false, false, false, false, false, false, false, false, false, false, false, false, false] rfl rfl (any_of HT_.out (by kernel_rfl)) (fun _ _ _ h => h) (Or.inl ⟨by rfl, ?_⟩) ?_ ?_
                             rotate_left
                             ·intro w'
                              go_simp
                              with_reducible rfl
                             rotate_left
                             ·simp only [Act.put, List.setIfInBounds_toArray, List.set_cons_zero, List.set_cons_succ, i64_w, i32_w]
                              rfl
                             refine pure_ (i := 13) (N := some 103) (v := ?_) (a' := ?_) #[true, true, true, true, true, true, true, true, true, true, true, true, true, true, false, false, false, false, false, false, false, false, false, false, false, false, false, false, false, false, false, false, false, false, false, false, false, false, false] rfl rfl (any_of HT_.out (by kernel_rfl)) (fun _ _ _ h => h) (Or.inl ⟨by rfl, ?_⟩) ?_ ?_
                             rotate_left
                             ·intro w'
                              go_simp
                              with_reducible rfl
                             rotate_left
                             ·simp only [Act.put, List.setIfInBounds_toArray, List.set_cons_zero, List.set_cons_succ, i64_w, i32_w]
                              rfl
                             refine pure_ (i := 14) (N := some 104) (v := ?_) (a' := ?_) #[true, true, true, true, true, true, true, true, true, true, true, true, true, true, true, false, false, false, false, false, false, false, false, false, false, false, false, false, false, false, false, false, false, false, false, false, false, false, false] rfl rfl (any_of HT_.out (by kernel_rfl)) (fun _ _ _ h => h) (Or.inl ⟨by rfl, ?_⟩) ?_ ?_
                             rotate_left
                             ·intro w'
                              go_simp
                              with_reducible rfl
                             rotate_left
                             ·simp only [Act.put, List.setIfInBounds_toArray, List.set_cons_zero, List.set_cons_succ, i64_w, i32_w]
                              rfl
                             refine pure_ (i := 15) (N := some 105) (v := ?_) (a' := ?_) #[true, true, true, true, true, true, true, true, true, true, true, true, true, true, true, true, false, false, false, false, false, false, false, false, false, false, false, false, false, false, false, false, false, false, false, false, false, false, false] rfl rfl (any_of HT_.out (by kernel_rfl)) (fun _ _ _ h => h) (Or.inl ⟨by rfl, ?_⟩) ?_ ?_
                             rotate_left
                             ·intro w'
                              go_simp
                              with_reducible rfl
                             rotate_left
                             ·simp only [Act.put, List.setIfInBounds_toArray, List.set_cons_zero, List.set_cons_succ, i64_w, i32_w]
                              rfl
                             refine pure_ (i := 17) (N := some 107) (v := ?_) (a' := ?_) #[true, true, true, true, true, true, true, true, true, true, true, true, true, true, true, true, false, true, false, false, false, false, false, false, false, false, false, false, false, false, false, false, false, false, false, false, false, false, false] rfl rfl (any_of HT_.out (by kernel_rfl)) (fun _ _ _ h => h) (Or.inl ⟨by rfl, ?_⟩) ?_ ?_
                             rotate_left
                             ·intro w'
                              go_simp
                              with_reducible rfl
                             rotate_left
                             ·simp only [Act.put, List.setIfInBounds_toArray, List.set_cons_zero, List.set_cons_succ, i64_w, i32_w]
                              rfl
                             refine pure_ (i := 18) (N := some 108) (v := ?_) (a' := ?_) #[true, true, true, true, true, true, true, true, true, true, true, true, true, true, true, true, false, true, true, false, false, false, false, false, false, false, false, false, false, false, false, false, false, false, false, false, false, false, false] rfl rfl (any_of HT_.out (by kernel_rfl)) (fun _ _ _ h => h) (Or.inl ⟨by rfl, ?_⟩) ?_ ?_
                             rotate_left
                             ·intro w'
                              go_simp
                              with_reducible rfl
                             rotate_left
                             ·simp only [Act.put, List.setIfInBounds_toArray, List.set_cons_zero, List.set_cons_succ, i64_w, i32_w]
                              rfl
                             refine pure_ (i := 19) (N := some 109) (v := ?_) (a' := ?_) #[true, true, true, true, true, true, true, true, true, true, true, true, true, true, true, true, false, true, true, true, false, false, false, false, false, false, false, false, false, false, false, false, false, false, false, false, false, false, false] rfl rfl (any_of HT_.out (by kernel_rfl)) (fun _ _ _ h => h) (Or.inl ⟨by rfl, ?_⟩) ?_ ?_
                             rotate_left
                             ·intro w'
                              go_simp
                              with_reducible rfl
                             rotate_left
                             ·simp only [Act.put, List.setIfInBounds_toArray, List.set_cons_zero, List.set_cons_succ, i64_w, i32_w]
                              rfl
                             refine pure_ (i := 20) (N := some 110) (v := ?_) (a' := ?_) #[true, true, true, true, true, true, true, true, true, true, true, true, true, true, true, true, false, true, true, true, true, false, false, false, false, false, false, false, false, false, false, false, false, false, false, false, false, false, false] rfl rfl (any_of HT_.out (by kernel_rfl)) (fun _ _ _ h => h) (Or.inl ⟨by rfl, ?_⟩) ?_ ?_
                             rotate_left
                             ·intro w'
                              go_simp
                              with_reducible rfl
                             rotate_left
                             ·simp only [Act.put, List.setIfInBounds_toArray, List.set_cons_zero, List.set_cons_succ, i64_w, i32_w]
                              rfl
                             refine take_ (i := 16) (N := some 106) (v := ?_) (a' := ?_) #[true, true, true, true, true, true, true, true, true, true, true, true, true, true, true, true, true, true, true, true, true, false, false, false, false, false, false, false, false, false, false, false, false, false, false, false, false, false, false] rfl rfl (take_ofW HT_.out HW_.out (by kernel_rfl)) (fun _ _ _ h => h) (Or.inl ⟨by rfl, ?_⟩) hHeld ?_ ?_
                             rotate_left
                             ·rintro w' ⟨s0, s1, s2, s3, s4, s5, s6, s7, s8, s9, s10, s11, s12, s13, s14, s15, s16, s17⟩
                              go_simp
                              with_reducible rfl
                             rotate_left
                             ·simp only [Act.put, List.setIfInBounds_toArray, List.set_cons_zero, List.set_cons_succ, i64_w, i32_w]
                              rfl
                             refine take_ (i := 21) (N := some 111) (v := ?_) (a' := ?_) #[true, true, true, true, true, true, true, true, true, true, true, true, true, true, true, true, true, true, true, true, true, true, false, false, false, false, false, false, false, false, false, false, false, false, false, false, false, false, false] rfl rfl (take_ofW HT_.out HW_.out (by kernel_rfl)) (fun _ _ _ h => h) (Or.inl ⟨by rfl, ?_⟩) hHeld ?_ ?_
                             rotate_left
                             ·rintro w' ⟨s0, s1, s2, s3, s4, s5, s6, s7, s8, s9, s10, s11, s12, s13, s14, s15, s16, s17⟩
                              go_simp
                              with_reducible rfl
                             rotate_left
                             ·simp only [Act.put, List.setIfInBounds_toArray, List.set_cons_zero, List.set_cons_succ, i64_w, i32_w]
                              rfl
                             refine pure_ (i := 22) (N := some 112) (v := ?_) (a' := ?_) #[true, true, true, true, true, true, true, true, true, true, true, true, true, true, true, true, true, true, true, true, true, true, true, false, false, false, false, false, false, false, false, false, false, false, false, false, false, false, false] rfl rfl (any_of HT_.out (by kernel_rfl)) (fun _ _ _ h => h) (Or.inl ⟨by rfl, ?_⟩) ?_ ?_
                             rotate_left
                             ·intro w'
                              go_simp
                              with_reducible rfl
                             rotate_left
                             ·simp only [Act.put, List.setIfInBounds_toArray, List.set_cons_zero, List.set_cons_succ, i64_w, i32_w]
                              rfl
                             refine pure_ (i := 23) (N := some 113) (v := ?_) (a' := ?_) #[true, true, true, true, true, true, true, true, true, true, true, true, true, true, true, true, true, true, true, true, true, true, true, true, false, false, false, false, false, false, false, false, false, false, false, false, false, false, false] rfl rfl (any_of HT_.out (by kernel_rfl)) (fun _ _ _ h => h) (Or.inl ⟨by rfl, ?_⟩) ?_ ?_
                             rotate_left
                             ·intro w'
                              go_simp
                              with_reducible rfl
                             rotate_left
                             ·simp only [Act.put, List.setIfInBounds_toArray, List.set_cons_zero, List.set_cons_succ, i64_w, i32_w]
                              rfl
                             refine pure_ (i := 24) (N := some 114) (v := ?_) (a' := ?_) #[true, true, true, true, true, true, true, true, true, true, true, true, true, true, true, true, true, true, true, true, true, true, true, true, true, false, false, false, false, false, false, false, false, false, false, false, false, false, false] rfl rfl (any_of HT_.out (by kernel_rfl)) (fun _ _ _ h => h) (Or.inl ⟨by rfl, ?_⟩) ?_ ?_
                             rotate_left
                             ·intro w'
                              go_simp
                              with_reducible rfl
                             rotate_left
                             ·simp only [Act.put, List.setIfInBounds_toArray, List.set_cons_zero, List.set_cons_succ, i64_w, i32_w]
                              rfl
                             refine pure_ (i := 25) (N := some 115) (v := ?_) (a' := ?_) #[true, true, true, true, true, true, true, true, true, true, true, true, true, true, true, true, true, true, true, true, true, true, true, true, true, true, false, false, false, false, false, false, false, false, false, false, false, false, false] rfl rfl (any_of HT_.out (by kernel_rfl)) (fun _ _ _ h => h) (Or.inl ⟨by rfl, ?_⟩) ?_ ?_
                             rotate_left
                             ·intro w'
                              go_simp
                              with_reducible rfl
                             rotate_left
                             ·simp only [Act.put, List.setIfInBounds_toArray, List.set_cons_zero, List.set_cons_succ, i64_w, i32_w]
                              rfl
                             refine pure_ (i := 26) (N := some 116) (v := ?_) (a' := ?_) #[true, true, true, true, true, true, true, true, true, true, true, true, true, true, true, true, true, true, true, true, true, true, true, true, true, true, true, false, false, false, false, false, false, false, false, false, false, false, false] rfl rfl (any_of HT_.out (by kernel_rfl)) (fun _ _ _ h => h) (Or.inl ⟨by rfl, ?_⟩) ?_ ?_
                             rotate_left
                             ·intro w'
                              go_simp
                              with_reducible rfl
                             rotate_left
                             ·simp only [Act.put, List.setIfInBounds_toArray, List.set_cons_zero, List.set_cons_succ, i64_w, i32_w]
                              rfl
                             refine pure_ (i := 27) (N := some 117) (v := ?_) (a' := ?_) #[true, true, true, true, true, true, true, true, true, true, true, true, true, true, true, true, true, true, true, true, true, true, true, true, true, true, true, true, false, false, false, false, false, false, false, false, false, false, false] rfl rfl (any_of HT_.out (by kernel_rfl)) (fun _ _ _ h => h) (Or.inl ⟨by rfl, ?_⟩) ?_ ?_
                             rotate_left
                             ·intro w'
                              go_simp
                              with_reducible rfl
                             rotate_left
                             ·simp only [Act.put, List.setIfInBounds_toArray, List.set_cons_zero, List.set_cons_succ, i64_w, i32_w]
                              rfl
                             refine pure_ (i := 28) (N := some 118) (v := ?_) (a' := ?_) #[true, true, true, true, true, true, true, true, true, true, true, true, true, true, true, true, true, true, true, true, true, true, true, true, true, true, true, true, true, false, false, false, false, false, false, false, false, false, false] rfl rfl (any_of HT_.out (by kernel_rfl)) (fun _ _ _ h => h) (Or.inl ⟨by rfl, ?_⟩) ?_ ?_
                             rotate_left
                             ·intro w'
                              go_simp
                              with_reducible rfl
                             rotate_left
                             ·simp only [Act.put, List.setIfInBounds_toArray, List.set_cons_zero, List.set_cons_succ, i64_w, i32_w]
                              rfl
                             refine pure_ (i := 31) (N := some 121) (v := ?_) (a' := ?_) #[true, true, true, true, true, true, true, true, true, true, true, true, true, true, true, true, true, true, true, true, true, true, true, true, true, true, true, true, true, false, false, true, false, false, false, false, false, false, false] rfl rfl (any_of HT_.out (by kernel_rfl)) (fun _ _ _ h => h) (Or.inl ⟨by rfl, ?_⟩) ?_ ?_
                             rotate_left
                             ·intro w'
                              go_simp
                              with_reducible rfl
                             rotate_left
                             ·simp only [Act.put, List.setIfInBounds_toArray, List.set_cons_zero, List.set_cons_succ, i64_w, i32_w]
                              rfl
                             refine pure_ (i := 32) (N := some 122) (v := ?_) (a' := ?_) #[true, true, true, true, true, true, true, true, true, true, true, true, true, true, true, true, true, true, true, true, true, true, true, true, true, true, true, true, true, false, false, true, true, false, false, false, false, false, false] rfl rfl (any_of HT_.out (by kernel_rfl)) (fun _ _ _ h => h) (Or.inl ⟨by rfl, ?_⟩) ?_ ?_
                             rotate_left
                             ·intro w'
                              go_simp
                              with_reducible rfl
                             rotate_left
                             ·simp only [Act.put, List.setIfInBounds_toArray, List.set_cons_zero, List.set_cons_succ, i64_w, i32_w]
                              rfl
                             refine pure_ (i := 33) (N := some 123) (v := ?_) (a' := ?_) #[true, true, true, true, true, true, true, true, true, true, true, true, true, true, true, true, true, true, true, true, true, true, true, true, true, true, true, true, true, false, false, true, true, true, false, false, false, false, false] rfl rfl (any_of HT_.out (by kernel_rfl)) (fun _ _ _ h => h) (Or.inl ⟨by rfl, ?_⟩) ?_ ?_
                             rotate_left
                             ·intro w'
                              go_simp
                              with_reducible rfl
                             rotate_left
                             ·simp only [Act.put, List.setIfInBounds_toArray, List.set_cons_zero, List.set_cons_succ, i64_w, i32_w]
                              rfl
                             refine pure_ (i := 34) (N := some 124) (v := ?_) (a' := ?_) #[true, true, true, true, true, true, true, true, true, true, true, true, true, true, true, true, true, true, true, true, true, true, true, true, true, true, true, true, true, false, false, true, true, true, true, false, false, false, false] rfl rfl (any_of HT_.out (by kernel_rfl)) (fun _ _ _ h => h) (Or.inl ⟨by rfl, ?_⟩) ?_ ?_
                             rotate_left
                             ·intro w'
                              go_simp
                              with_reducible rfl
                             rotate_left
                             ·simp only [Act.put, List.setIfInBounds_toArray, List.set_cons_zero, List.set_cons_succ, i64_w, i32_w]
                              rfl
                             refine take_ (i := 29) (N := some 119) (v := ?_) (a' := ?_) #[true, true, true, true, true, true, true, true, true, true, true, true, true, true, true, true, true, true, true, true, true, true, true, true, true, true, true, true, true, true, false, true, true, true, true, false, false, false, false] rfl rfl (take_ofW HT_.out HW_.out (by kernel_rfl)) (fun _ _ _ h => h) (Or.inl ⟨by rfl, ?_⟩) hHeld ?_ ?_
                             rotate_left
                             ·rintro w' ⟨s0, s1, s2, s3, s4, s5, s6, s7, s8, s9, s10, s11, s12, s13, s14, s15, s16, s17⟩
                              go_simp
                              with_reducible rfl
                             rotate_left
                             ·simp only [Act.put, List.setIfInBounds_toArray, List.set_cons_zero, List.set_cons_succ, i64_w, i32_w]
                              rfl
                             refine pure_ (i := 30) (N := some 120) (v := ?_) (a' := ?_) #[true, true, true, true, true, true, true, true, true, true, true, true, true, true, true, true, true, true, true, true, true, true, true, true, true, true, true, true, true, true, true, true, true, true, true, false, false, false, false] rfl rfl (any_of HT_.out (by kernel_rfl)) (fun _ _ _ h => h) (Or.inl ⟨by rfl, ?_⟩) ?_ ?_
                             rotate_left
                             ·intro w'
                              go_simp
                              with_reducible rfl
                             rotate_left
                             ·simp only [Act.put, List.setIfInBounds_toArray, List.set_cons_zero, List.set_cons_succ, i64_w, i32_w]
                              rfl
                             refine take_ (i := 35) (N := some 125) (v := ?_) (a' := ?_) #[true, true, true, true, true, true, true, true, true, true, true, true, true, true, true, true, true, true, true, true, true, true, true, true, true, true, true, true, true, true, true, true, true, true, true, true, false, false, false] rfl rfl (take_ofW HT_.out HW_.out (by kernel_rfl)) (fun _ _ _ h => h) (Or.inl ⟨by rfl, ?_⟩) hHeld ?_ ?_
                             rotate_left
                             ·rintro w' ⟨s0, s1, s2, s3, s4, s5, s6, s7, s8, s9, s10, s11, s12, s13, s14, s15, s16, s17⟩
                              go_simp
                              with_reducible rfl
                             rotate_left
                             ·simp only [Act.put, List.setIfInBounds_toArray, List.set_cons_zero, List.set_cons_succ, i64_w, i32_w]
                              rfl
                             refine pure_ (i := 36) (N := some 126) (v := ?_) (a' := ?_) #[true, true, true, true, true, true, true, true, true, true, true, true, true, true, true, true, true, true, true, true, true, true, true, true, true, true, true, true, true, true, true, true, true, true, true, true, true, false, false] rfl rfl (any_of HT_.out (by kernel_rfl)) (fun _ _ _ h => h) (Or.inl ⟨by rfl, ?_⟩) ?_ ?_
                             rotate_left
                             ·intro w'
                              go_simp
                              with_reducible rfl
                             rotate_left
                             ·simp only [Act.put, List.setIfInBounds_toArray, List.set_cons_zero, List.set_cons_succ, i64_w, i32_w]
                              rfl
                             refine pure_ (i := 37) (N := some 127) (v := ?_) (a' := ?_) #[true, true, true, true, true, true, true, true, true, true, true, true, true, true, true, true, true, true, true, true, true, true, true, true, true, true, true, true, true, true, true, true, true, true, true, true, true, true, false] rfl rfl (any_of HT_.out (by kernel_rfl)) (fun _ _ _ h => h) (Or.inl ⟨by rfl, ?_⟩) ?_ ?_
                             rotate_left
                             ·intro w'
                              go_simp
                              with_reducible rfl
                             rotate_left
                             ·simp only [Act.put, List.setIfInBounds_toArray, List.set_cons_zero, List.set_cons_succ, i64_w, i32_w]
                              rfl
                             refine pure_ (i := 38) (N := some 128) (v := ?_) (a' := ?_) #[true, true, true, true, true, true, true, true, true, true, true, true, true, true, true, true, true, true, true, true, true, true, true, true, true, true, true, true, true, true, true, true, true, true, true, true, true, true, true] rfl rfl (any_of HT_.out (by kernel_rfl)) (fun _ _ _ h => h) (Or.inl ⟨by rfl, ?_⟩) ?_ ?_
                             rotate_left
                             ·intro w'
                              go_simp
                              with_reducible rfl
                             rotate_left
                             ·simp only [Act.put, List.setIfInBounds_toArray, List.set_cons_zero, List.set_cons_succ, i64_w, i32_w]
                              rfl
                             refine done_ (done_of HT_.out (by kernel_rfl)) ?_
                             try go_wp2
                             go_meet
                             case rel => exact ⟨_, (((((rd_T43 l0 (rd (rd_L1 x9_2 (ji21)) 0)).f1).length : Int) != (((rd_T43 l0 (rd (rd_L1 x9_2 (ji21)) 1)).f1).length : Int))), (by first | rfl | (simp; done) | (simp only [← hji21] <;> (first | rfl | simp)) | (simp [*]; done)), H', ⟨by have := HJ3.out; have := HK2.out; have := HJ28.out; first | omega | exact Nat.le_refl _⟩, ⟨by (try simp only [hl8_28]); (with_reducible repeat (first | apply Kd.S_alloc | apply Kd.S_drewN | apply Kd.S_drew)); exact HO_8.out⟩, ⟨by (try simp only [hl8_28]); (with_reducible repeat (first | apply Kd.S_alloc | apply Kd.S_drewN | apply Kd.S_drew)); exact HO_9.out⟩, ⟨by repeat (first | (with_reducible first | exact HB.out | apply below_alloc | apply pw_below_drewN | apply below_drew1) | exact HB.out)⟩⟩
                           ·rw [if_neg c53] at H
                            have c53b0 : (((rd_T43 l0 (rd (rd_L1 x9_2 (ji21)) 0)).f0) == ((rd_T43 l0 (rd (rd_L1 x9_2 (ji21)) 1)).f0)) = false := beq_eq_false_iff_ne.mpr c53
                            have c53b1 : (((rd_T43 l0 (rd (rd_L1 x9_2 (ji21)) 0)).f0) != ((rd_T43 l0 (rd (rd_L1 x9_2 (ji21)) 1)).f0)) = true := bne_iff_ne.mpr c53
                            have H' := Aside0.mk H
                            clear H
                            try go_wp2
                            have n0_ := Aside0.mk (Kd.S_drew HO_8.out)
                            have n1_ := Aside0.mk (Kd.S_drew HO_9.out)
                            have n2_ := Aside0.mk (Kd.R_drew HL203.out)
                            have n3_ := Aside0.mk (below_drew1 HB.out)
                            clear HO_8
                            clear HO_9
                            clear HL203
                            clear HB
                            have HO_8 := n0_
                            have HO_9 := n1_
                            have HL203 := n2_
                            have HB := n3_
                            clear n0_ n1_ n2_ n3_
                            have p186 : 0 ≤ ((rd (rd_L1 x9_2 (ji21)) 0) : Int) := of_decide_eq_true (by first | (with_reducible assumption) | assumption)
                            have q186 : (rd (rd_L1 x9_2 (ji21)) 0) < (l0.length : Int) := of_decide_eq_true (by first | (with_reducible assumption) | assumption)
                            obtain ⟨ad186, A186_1, c186_1, e186, hx186_0, hx186_1, hx186_2, hl186_1, hi186_1⟩ := at_T43 HR0.out (rd (rd_L1 x9_2 (ji21)) 0) p186 q186
                            have hw186_2 := hx186_2
                            have hw186_1 := hx186_1
                            have hw186_0 := hx186_0
                            (try rw [← Nbq45.out] at hx186_2)
                            cases e186
                            replace hx186_0 := (HB.out.cell (World.block_lt_of_cell? w _ hx186_0)).trans hx186_0
                            replace hx186_1 := (HB.out.cell (World.block_lt_of_cell? w _ hx186_1)).trans hx186_1
                            replace hx186_2 := (HB.out.cell (World.block_lt_of_cell? w _ hx186_2)).trans hx186_2
                            have HR186_1 := Aside0.mk hi186_1
                            have HC186_1 := Aside0.mk hl186_1
                            clear hi186_1 hl186_1
                            replace p186 := eq_true p186
                            replace q186 := eq_true q186
                            have p187 : 0 ≤ ((rd (rd_L1 x9_2 (ji21)) 1) : Int) := of_decide_eq_true (by first | (with_reducible assumption) | assumption)
                            have q187 : (rd (rd_L1 x9_2 (ji21)) 1) < (l0.length : Int) := of_decide_eq_true (by first | (with_reducible assumption) | assumption)
                            obtain ⟨ad187, A187_1, c187_1, e187, hx187_0, hx187_1, hx187_2, hl187_1, hi187_1⟩ := at_T43 HR0.out (rd (rd_L1 x9_2 (ji21)) 1) p187 q187
                            have hw187_2 := hx187_2
                            have hw187_1 := hx187_1
                            have hw187_0 := hx187_0
                            (try rw [← Nbq45.out] at hx187_2)
                            obtain rfl : ad186 = ad187 := (by injection e187)
                            replace hx187_0 := (HB.out.cell (World.block_lt_of_cell? w _ hx187_0)).trans hx187_0
                            replace hx187_1 := (HB.out.cell (World.block_lt_of_cell? w _ hx187_1)).trans hx187_1
                            replace hx187_2 := (HB.out.cell (World.block_lt_of_cell? w _ hx187_2)).trans hx187_2
                            have HR187_1 := Aside0.mk hi187_1
                            have HC187_1 := Aside0.mk hl187_1
                            clear hi187_1 hl187_1
                            replace p187 := eq_true p187
                            replace q187 := eq_true q187
                            refine start_ (n := 39) (S := fun w' => w'.cell? (ad186.add (((rd (rd_L1 x9_2 (ji21)) 0)).toNat * 3)) = some (.int .i64 ((rd_T43 l0 (rd (rd_L1 x9_2 (ji21)) 0)).f0)) ∧ w'.cell? ⟨(ad186.add (((rd (rd_L1 x9_2 (ji21)) 0)).toNat * 3)).block, (ad186.add (((rd (rd_L1 x9_2 (ji21)) 0)).toNat * 3)).off + 1, none⟩ = some (.slice A186_1 ((rd_T43 l0 (rd (rd_L1 x9_2 (ji21)) 0)).f1).length c186_1) ∧ w'.cell? ⟨(ad186.add (((rd (rd_L1 x9_2 (ji21)) 0)).toNat * 3)).block, (ad186.add (((rd (rd_L1 x9_2 (ji21)) 0)).toNat * 3)).off + 2, none⟩ = some (.bool ((rd_T43 l0 (rd (rd_L1 x9_2 (ji21)) 0)).f2)) ∧ w'.cell? (ad186.add (((rd (rd_L1 x9_2 (ji21)) 1)).toNat * 3)) = some (.int .i64 ((rd_T43 l0 (rd (rd_L1 x9_2 (ji21)) 1)).f0)) ∧ w'.cell? ⟨(ad186.add (((rd (rd_L1 x9_2 (ji21)) 1)).toNat * 3)).block, (ad186.add (((rd (rd_L1 x9_2 (ji21)) 1)).toNat * 3)).off + 1, none⟩ = some (.slice A187_1 ((rd_T43 l0 (rd (rd_L1 x9_2 (ji21)) 1)).f1).length c187_1) ∧ w'.cell? ⟨(ad186.add (((rd (rd_L1 x9_2 (ji21)) 1)).toNat * 3)).block, (ad186.add (((rd (rd_L1 x9_2 (ji21)) 1)).toNat * 3)).off + 2, none⟩ = some (.bool ((rd_T43 l0 (rd (rd_L1 x9_2 (ji21)) 1)).f2))) (ds := []) #[false, false, false, false, false, false, false, false, false, false, false, false, false, false, false, false, false, false, false, false, false, false, false, false, false, false, false, false, false, false, false, false, false, false, false, false, false, false, false] (by kernel_rfl) rfl rfl ⟨((HB.out.cell (World.block_lt_of_cell? w _ hw186_0)).trans hw186_0), ((HB.out.cell (World.block_lt_of_cell? w _ hw186_1)).trans hw186_1), ((HB.out.cell (World.block_lt_of_cell? w _ hw186_2)).trans hw186_2), ((HB.out.cell (World.block_lt_of_cell? w _ hw187_0)).trans hw187_0), ((HB.out.cell (World.block_lt_of_cell? w _ hw187_1)).trans hw187_1), ((HB.out.cell (World.block_lt_of_cell? w _ hw187_2)).trans hw187_2)⟩ (fun hHeld => ?_); refine with_tabW squintref04_Same.tab14 squintref04_Same.bits14 (fun HT_ HW_ => ?_)
                            generalize w50.drew = w57 at HO_8 HO_9 HL203 HB HR186_1 HR187_1 hx186_0 hx186_1 hx186_2 hx187_0 hx187_1 hx187_2 hHeld ⊢
                            refine pure_ (i := 0) (N := some 90) (v := ?_) (a' := ?_) #[true, false, false, false, false, false, false, false, false, false, false, false, false, false, false, false, false, false, false, false, false, false, false, false, false, false, false, false, false, false, false, false, false, false, false, false, false, false, false] rfl rfl (any_of HT_.out (by kernel_rfl)) (fun _ _ _ h => h) (Or.inl ⟨by rfl, ?_⟩) ?_ ?_
                            rotate_left
                            ·intro w'
                             go_simp
                             with_reducible rfl
                            rotate_left
                            ·simp only [Act.put, List.setIfInBounds_toArray, List.set_cons_zero, List.set_cons_succ, i64_w, i32_w]
                             rfl
                            refine pure_ (i := 1) (N := some 91) (v := ?_) (a' := ?_) #[true, true, false, false, false, false, false, false, false, false, false, false, false, false, false, false, false, false, false, false, false, false, false, false, false, false, false, false, false, false, false, false, false, false, false, false, false, false, false] rfl rfl (any_of HT_.out (by kernel_rfl)) (fun _ _ _ h => h) (Or.inl ⟨by rfl, ?_⟩) ?_ ?_
                            rotate_left
                            ·intro w'
                             go_simp
                             with_reducible rfl
                            rotate_left
                            ·simp only [Act.put, List.setIfInBounds_toArray, List.set_cons_zero, List.set_cons_succ, i64_w, i32_w]
                             rfl
                            refine pure_ (i := 2) (N := some 92) (v := ?_) (a' := ?_) #[true, true, true, false, false, false, false, false, false, false, false, false, false, false, false, false, false, false, false, false, false, false, false, false, false, false, false, false, false, false, false, false, false, false, false, false, false, false, false] rfl rfl (any_of HT_.out (by kernel_rfl)) (fun _ _ _ h => h) (Or.inl ⟨by rfl, ?_⟩) ?_ ?_
                            rotate_left
                            ·intro w'
                             go_simp
                             with_reducible rfl
                            rotate_left
                            ·simp only [Act.put, List.setIfInBounds_toArray, List.set_cons_zero, List.set_cons_succ, i64_w, i32_w]
                             rfl
                            refine pure_ (i := 3) (N := some 93) (v := ?_) (a' := ?_) #[true, true, true, true, false, false, false, false, false, false, false, false, false, false, false, false, false, false, false, false, false, false, false, false, false, false, false, false, false, false, false, false, false, false, false, false, false, false, false] rfl rfl (any_of HT_.out (by kernel_rfl)) (fun _ _ _ h => h) (Or.inl ⟨by rfl, ?_⟩) ?_ ?_
                            rotate_left
                            ·intro w'
                             go_simp
                             with_reducible rfl
                            rotate_left
                            ·simp only [Act.put, List.setIfInBounds_toArray, List.set_cons_zero, List.set_cons_succ, i64_w, i32_w]
                             rfl
                            refine pure_ (i := 5) (N := some 95) (v := ?_) (a' := ?_) #[true, true, true, true, false, true, false, false, false, false, false, false, false, false, false, false, false, false, false, false, false, false, false, false, false, false, false, false, false, false, false, false, false, false, false, false, false, false, false] rfl rfl (any_of HT_.out (by kernel_rfl)) (fun _ _ _ h => h) (Or.inl ⟨by rfl, ?_⟩) ?_ ?_
                            rotate_left
                            ·intro w'
                             go_simp
                             with_reducible rfl
                            rotate_left
                            ·simp only [Act.put, List.setIfInBounds_toArray, List.set_cons_zero, List.set_cons_succ, i64_w, i32_w]
                             rfl
                            refine pure_ (i := 6) (N := some 96) (v := ?_) (a' := ?_) #[true, true, true, true, false, true, true, false, false, false, false, false, false, false, false, false, false, false, false, false, false, false, false, false, false, false, false, false, false, false, false, false, false, false, false, false, false, false, false] rfl rfl (any_of HT_.out (by kernel_rfl)) (fun _ _ _ h => h) (Or.inl ⟨by rfl, ?_⟩) ?_ ?_
                            rotate_left
                            ·intro w'
                             go_simp
                             with_reducible rfl
                            rotate_left
                            ·simp only [Act.put, List.setIfInBounds_toArray, List.set_cons_zero, List.set_cons_succ, i64_w, i32_w]
                             rfl
                            refine pure_ (i := 7) (N := some 97) (v := ?_) (a' := ?_) #[true, true, true, true, false, true, true, true, false, false, false, false, false, false, false, false, false, false, false, false, false, false, false, false, false, false, false, false, false, false, false, false, false, false, false, false, false, false, false] rfl rfl (any_of HT_.out (by kernel_rfl)) (fun _ _ _ h => h) (Or.inl ⟨by rfl, ?_⟩) ?_ ?_
                            rotate_left
                            ·intro w'
                             go_simp
                             with_reducible rfl
                            rotate_left
                            ·simp only [Act.put, List.setIfInBounds_toArray, List.set_cons_zero, List.set_cons_succ, i64_w, i32_w]
                             rfl
                            refine pure_ (i := 8) (N := some 98) (v := ?_) (a' := ?_) #[true, true, true, true, false, true, true, true, true, false, false, false, false, false, false, false, false, false, false, false, false, false, false, false, false, false, false, false, false, false, false, false, false, false, false, false, false, false, false] rfl rfl (any_of HT_.out (by kernel_rfl)) (fun _ _ _ h => h) (Or.inl ⟨by rfl, ?_⟩) ?_ ?_
                            rotate_left
                            ·intro w'
                             go_simp
                             with_reducible rfl
                            rotate_left
                            ·simp only [Act.put, List.setIfInBounds_toArray, List.set_cons_zero, List.set_cons_succ, i64_w, i32_w]
                             rfl
                            refine take_ (i := 4) (N := some 94) (v := ?_) (a' := ?_) #[true, true, true, true, true, true, true, true, true, false, false, false, false, false, false, false, false, false, false, false, false, false, false, false, false, false, false, false, false, false, false, false, false, false, false, false, false, false, false] rfl rfl (take_ofW HT_.out HW_.out (by kernel_rfl)) (fun _ _ _ h => h) (Or.inl ⟨by rfl, ?_⟩) hHeld ?_ ?_
                            rotate_left
                            ·rintro w' ⟨s0, s1, s2, s3, s4, s5⟩
                             go_simp
                             with_reducible rfl
                            rotate_left
                            ·simp only [Act.put, List.setIfInBounds_toArray, List.set_cons_zero, List.set_cons_succ, i64_w, i32_w]
                             rfl
                            refine take_ (i := 9) (N := some 99) (v := ?_) (a' := ?_) #[true, true, true, true, true, true, true, true, true, true, false, false, false, false, false, false, false, false, false, false, false, false, false, false, false, false, false, false, false, false, false, false, false, false, false, false, false, false, false] rfl rfl (take_ofW HT_.out HW_.out (by kernel_rfl)) (fun _ _ _ h => h) (Or.inl ⟨by rfl, ?_⟩) hHeld ?_ ?_
                            rotate_left
                            ·rintro w' ⟨s0, s1, s2, s3, s4, s5⟩
                             go_simp
                             with_reducible rfl
                            rotate_left
                            ·simp only [Act.put, List.setIfInBounds_toArray, List.set_cons_zero, List.set_cons_succ, i64_w, i32_w]
                             rfl
                            refine pure_ (i := 10) (N := some 100) (v := ?_) (a' := ?_) #[true, true, true, true, true, true, true, true, true, true, true, false, false, false, false, false, false, false, false, false, false, false, false, false, false, false, false, false, false, false, false, false, false, false, false, false, false, false, false] rfl rfl (any_of HT_.out (by kernel_rfl)) (fun _ _ _ h => h) (Or.inl ⟨by rfl, ?_⟩) ?_ ?_
                            rotate_left
                            ·intro w'
                             go_simp
                             with_reducible rfl
                            rotate_left
                            ·simp only [Act.put, List.setIfInBounds_toArray, List.set_cons_zero, List.set_cons_succ, i64_w, i32_w]
                             rfl
                            refine pure_ (i := 11) (N := some 101) (v := ?_) (a' := ?_) #[true, true, true, true, true, true, true, true, true, true, true, true, false, false, false, false, false, false, false, false, false, false, false, false, false, false, false, false, false, false, false, false, false, false, false, false, false, false, false] rfl rfl (any_of HT_.out (by kernel_rfl)) (fun _ _ _ h => h) (Or.inl ⟨by rfl, ?_⟩) ?_ ?_
                            rotate_left
                            ·intro w'
                             go_simp
                             with_reducible rfl
                            rotate_left
                            ·simp only [Act.put, List.setIfInBounds_toArray, List.set_cons_zero, List.set_cons_succ, i64_w, i32_w]
                             rfl
                            refine pure_ (i := 12) (N := some 102) (v := undef) (a' := ?_) #[true, true, true, true, true, true, true, true, true, true, true, true, true, false, false, false, false, false, false, false, false, false, false, false, false, false, false, false, false, false, false, false, false, false, false, false, false, false, false] rfl rfl (any_of HT_.out (by kernel_rfl)) (fun _ _ _ h => h) (Or.inr ⟨by rfl, rfl⟩) ?_ ?_
                            rotate_left
                            ·simp only [Act.put, List.setIfInBounds_toArray, List.set_cons_zero, List.set_cons_succ, i64_w, i32_w]
                             rfl
                            refine pure_ (i := 13) (N := some 103) (v := undef) (a' := ?_) #[true, true, true, true, true, true, true, true, true, true, true, true, true, true, false, false, false, false, false, false, false, false, false, false, false, false, false, false, false, false, false, false, false, false, false, false, false, false, false] rfl rfl (any_of HT_.out (by kernel_rfl)) (fun _ _ _ h => h) (Or.inr ⟨by rfl, rfl⟩) ?_ ?_
                            rotate_left
                            ·simp only [Act.put, List.setIfInBounds_toArray, List.set_cons_zero, List.set_cons_succ, i64_w, i32_w]
                             rfl
                            refine pure_ (i := 14) (N := some 104) (v := undef) (a' := ?_) #[true, true, true, true, true, true, true, true, true, true, true, true, true, true, true, false, false, false, false, false, false, false, false, false, false, false, false, false, false, false, false, false, false, false, false, false, false, false, false] rfl rfl (any_of HT_.out (by kernel_rfl)) (fun _ _ _ h => h) (Or.inr ⟨by rfl, rfl⟩) ?_ ?_
                            rotate_left
                            ·simp only [Act.put, List.setIfInBounds_toArray, List.set_cons_zero, List.set_cons_succ, i64_w, i32_w]
                             rfl
                            refine pure_ (i := 15) (N := some 105) (v := undef) (a' := ?_) #[true, true, true, true, true, true, true, true, true, true, true, true, true, true, true, true, false, false, false, false, false, false, false, false, false, false, false, false, false, false, false, false, false, false, false, false, false, false, false] rfl rfl (any_of HT_.out (by kernel_rfl)) (fun _ _ _ h => h) (Or.inr ⟨by rfl, rfl⟩) ?_ ?_
                            rotate_left
                            ·simp only [Act.put, List.setIfInBounds_toArray, List.set_cons_zero, List.set_cons_succ, i64_w, i32_w]
                             rfl
                            refine pure_ (i := 16) (N := some 106) (v := undef) (a' := ?_) #[true, true, true, true, true, true, true, true, true, true, true, true, true, true, true, true, true, false, false, false, false, false, false, false, false, false, false, false, false, false, false, false, false, false, false, false, false, false, false] rfl rfl (any_of HT_.out (by kernel_rfl)) (fun _ _ _ h => h) (Or.inr ⟨by rfl, rfl⟩) ?_ ?_
                            rotate_left
                            ·simp only [Act.put, List.setIfInBounds_toArray, List.set_cons_zero, List.set_cons_succ, i64_w, i32_w]
                             rfl
                            refine pure_ (i := 17) (N := some 107) (v := undef) (a' := ?_) #[true, true, true, true, true, true, true, true, true, true, true, true, true, true, true, true, true, true, false, false, false, false, false, false, false, false, false, false, false, false, false, false, false, false, false, false, false, false, false] rfl rfl (any_of HT_.out (by kernel_rfl)) (fun _ _ _ h => h) (Or.inr ⟨by rfl, rfl⟩) ?_ ?_
                            rotate_left
                            ·simp only [Act.put, List.setIfInBounds_toArray, List.set_cons_zero, List.set_cons_succ, i64_w, i32_w]
                             rfl
                            refine pure_ (i := 18) (N := some 108) (v := undef) (a' := ?_) #[true, true, true, true, true, true, true, true, true, true, true, true, true, true, true, true, true, true, true, false, false, false, false, false, false, false, false, false, false, false, false, false, false, false, false, false, false, false, false] rfl rfl (any_of HT_.out (by kernel_rfl)) (fun _ _ _ h => h) (Or.inr ⟨by rfl, rfl⟩) ?_ ?_
                            rotate_left
                            ·simp only [Act.put, List.setIfInBounds_toArray, List.set_cons_zero, List.set_cons_succ, i64_w, i32_w]
                             rfl
                            refine pure_ (i := 19) (N := some 109) (v := undef) (a' := ?_) #[true, true, true, true, true, true, true, true, true, true, true, true, true, true, true, true, true, true, true, true, false, false, false, false, false, false, false, false, false, false, false, false, false, false, false, false, false, false, false] rfl rfl (any_of HT_.out (by kernel_rfl)) (fun _ _ _ h => h) (Or.inr ⟨by rfl, rfl⟩) ?_ ?_
                            rotate_left
                            ·simp only [Act.put, List.setIfInBounds_toArray, List.set_cons_zero, List.set_cons_succ, i64_w, i32_w]
                             rfl
                            refine pure_ (i := 20) (N := some 110) (v := undef) (a' := ?_) #[true, true, true, true, true, true, true, true, true, true, true, true, true, true, true, true, true, true, true, true, true, false, false, false, false, false, false, false, false, false, false, false, false, false, false, false, false, false, false] rfl rfl (any_of HT_.out (by kernel_rfl)) (fun _ _ _ h => h) (Or.inr ⟨by rfl, rfl⟩) ?_ ?_
                            rotate_left
                            ·simp only [Act.put, List.setIfInBounds_toArray, List.set_cons_zero, List.set_cons_succ, i64_w, i32_w]
                             rfl
                            refine pure_ (i := 21) (N := some 111) (v := undef) (a' := ?_) #[true, true, true, true, true, true, true, true, true, true, true, true, true, true, true, true, true, true, true, true, true, true, false, false, false, false, false, false, false, false, false, false, false, false, false, false, false, false, false] rfl rfl (any_of HT_.out (by kernel_rfl)) (fun _ _ _ h => h) (Or.inr ⟨by rfl, rfl⟩) ?_ ?_
                            rotate_left
                            ·simp only [Act.put, List.setIfInBounds_toArray, List.set_cons_zero, List.set_cons_succ, i64_w, i32_w]
                             rfl
                            refine pure_ (i := 22) (N := some 112) (v := undef) (a' := ?_) #[true, true, true, true, true, true, true, true, true, true, true, true, true, true, true, true, true, true, true, true, true, true, true, false, false, false, false, false, false, false, false, false, false, false, false, false, false, false, false] rfl rfl (any_of HT_.out (by kernel_rfl)) (fun _ _ _ h => h) (Or.inr ⟨by rfl, rfl⟩) ?_ ?_
                            rotate_left
                            ·simp only [Act.put, List.setIfInBounds_toArray, List.set_cons_zero, List.set_cons_succ, i64_w, i32_w]
                             rfl
                            refine pure_ (i := 23) (N := some 113) (v := ?_) (a' := ?_) #[true, true, true, true, true, true, true, true, true, true, true, true, true, true, true, true, true, true, true, true, true, true, true, true, false, false, false, false, false, false, false, false, false, false, false, false, false, false, false] rfl rfl (any_of HT_.out (by kernel_rfl)) (fun _ _ _ h => h) (Or.inl ⟨by rfl, ?_⟩) ?_ ?_
                            rotate_left
                            ·intro w'
                             go_simp
                             with_reducible rfl
                            rotate_left
                            ·simp only [Act.put, List.setIfInBounds_toArray, List.set_cons_zero, List.set_cons_succ, i64_w, i32_w]
                             rfl
                            refine pure_ (i := 24) (N := some 114) (v := ?_) (a' := ?_) #[true, true, true, true, true, true, true, true, true, true, true, true, true, true, true, true, true, true, true, true, true, true, true, true, true, false, false, false, false, false, false, false, false, false, false, false, false, false, false] rfl rfl (any_of HT_.out (by kernel_rfl)) (fun _ _ _ h => h) (Or.inl ⟨by rfl, ?_⟩) ?_ ?_
                            rotate_left
                            ·intro w'
                             go_simp
                             with_reducible rfl
                            rotate_left
                            ·simp only [Act.put, List.setIfInBounds_toArray, List.set_cons_zero, List.set_cons_succ, i64_w, i32_w]
                             rfl
                            refine pure_ (i := 25) (N := some 115) (v := undef) (a' := ?_) #[true, true, true, true, true, true, true, true, true, true, true, true, true, true, true, true, true, true, true, true, true, true, true, true, true, true, false, false, false, false, false, false, false, false, false, false, false, false, false] rfl rfl (any_of HT_.out (by kernel_rfl)) (fun _ _ _ h => h) (Or.inr ⟨by rfl, rfl⟩) ?_ ?_
                            rotate_left
                            ·simp only [Act.put, List.setIfInBounds_toArray, List.set_cons_zero, List.set_cons_succ, i64_w, i32_w]
                             rfl
                            refine pure_ (i := 26) (N := some 116) (v := undef) (a' := ?_) #[true, true, true, true, true, true, true, true, true, true, true, true, true, true, true, true, true, true, true, true, true, true, true, true, true, true, true, false, false, false, false, false, false, false, false, false, false, false, false] rfl rfl (any_of HT_.out (by kernel_rfl)) (fun _ _ _ h => h) (Or.inr ⟨by rfl, rfl⟩) ?_ ?_
                            rotate_left
                            ·simp only [Act.put, List.setIfInBounds_toArray, List.set_cons_zero, List.set_cons_succ, i64_w, i32_w]
                             rfl
                            refine pure_ (i := 27) (N := some 117) (v := undef) (a' := ?_) #[true, true, true, true, true, true, true, true, true, true, true, true, true, true, true, true, true, true, true, true, true, true, true, true, true, true, true, true, false, false, false, false, false, false, false, false, false, false, false] rfl rfl (any_of HT_.out (by kernel_rfl)) (fun _ _ _ h => h) (Or.inr ⟨by rfl, rfl⟩) ?_ ?_
                            rotate_left
                            ·simp only [Act.put, List.setIfInBounds_toArray, List.set_cons_zero, List.set_cons_succ, i64_w, i32_w]
                             rfl
                            refine pure_ (i := 28) (N := some 118) (v := undef) (a' := ?_) #[true, true, true, true, true, true, true, true, true, true, true, true, true, true, true, true, true, true, true, true, true, true, true, true, true, true, true, true, true, false, false, false, false, false, false, false, false, false, false] rfl rfl (any_of HT_.out (by kernel_rfl)) (fun _ _ _ h => h) (Or.inr ⟨by rfl, rfl⟩) ?_ ?_
                            rotate_left
                            ·simp only [Act.put, List.setIfInBounds_toArray, List.set_cons_zero, List.set_cons_succ, i64_w, i32_w]
                             rfl
                            refine pure_ (i := 29) (N := some 119) (v := undef) (a' := ?_) #[true, true, true, true, true, true, true, true, true, true, true, true, true, true, true, true, true, true, true, true, true, true, true, true, true, true, true, true, true, true, false, false, false, false, false, false, false, false, false] rfl rfl (any_of HT_.out (by kernel_rfl)) (fun _ _ _ h => h) (Or.inr ⟨by rfl, rfl⟩) ?_ ?_
                            rotate_left
                            ·simp only [Act.put, List.setIfInBounds_toArray, List.set_cons_zero, List.set_cons_succ, i64_w, i32_w]
                             rfl
                            refine pure_ (i := 30) (N := some 120) (v := undef) (a' := ?_) #[true, true, true, true, true, true, true, true, true, true, true, true, true, true, true, true, true, true, true, true, true, true, true, true, true, true, true, true, true, true, true, false, false, false, false, false, false, false, false] rfl rfl (any_of HT_.out (by kernel_rfl)) (fun _ _ _ h => h) (Or.inr ⟨by rfl, rfl⟩) ?_ ?_
                            rotate_left
                            ·simp only [Act.put, List.setIfInBounds_toArray, List.set_cons_zero, List.set_cons_succ, i64_w, i32_w]
                             rfl
                            refine pure_ (i := 31) (N := some 121) (v := undef) (a' := ?_) #[true, true, true, true, true, true, true, true, true, true, true, true, true, true, true, true, true, true, true, true, true, true, true, true, true, true, true, true, true, true, true, true, false, false, false, false, false, false, false] rfl rfl (any_of HT_.out (by kernel_rfl)) (fun _ _ _ h => h) (Or.inr ⟨by rfl, rfl⟩) ?_ ?_
                            rotate_left
                            ·simp only [Act.put, List.setIfInBounds_toArray, List.set_cons_zero, List.set_cons_succ, i64_w, i32_w]
                             rfl
                            refine pure_ (i := 32) (N := some 122) (v := undef) (a' := ?_) #[true, true, true, true, true, true, true, true, true, true, true, true, true, true, true, true, true, true, true, true, true, true, true, true, true, true, true, true, true, true, true, true, true, false, false, false, false, false, false] rfl rfl (any_of HT_.out (by kernel_rfl)) (fun _ _ _ h => h) (Or.inr ⟨by rfl, rfl⟩) ?_ ?_
                            rotate_left
                            ·simp only [Act.put, List.setIfInBounds_toArray, List.set_cons_zero, List.set_cons_succ, i64_w, i32_w]
                             rfl
                            refine pure_ (i := 33) (N := some 123) (v := undef) (a' := ?_) #[true, true, true, true, true, true, true, true, true, true, true, true, true, true, true, true, true, true, true, true, true, true, true, true, true, true, true, true, true, true, true, true, true, true, false, false, false, false, false] rfl rfl (any_of HT_.out (by kernel_rfl)) (fun _ _ _ h => h) (Or.inr ⟨by rfl, rfl⟩) ?_ ?_
                            rotate_left
                            ·simp only [Act.put, List.setIfInBounds_toArray, List.set_cons_zero, List.set_cons_succ, i64_w, i32_w]
                             rfl
                            refine pure_ (i := 34) (N := some 124) (v := undef) (a' := ?_) #[true, true, true, true, true, true, true, true, true, true, true, true, true, true, true, true, true, true, true, true, true, true, true, true, true, true, true, true, true, true, true, true, true, true, true, false, false, false, false] rfl rfl (any_of HT_.out (by kernel_rfl)) (fun _ _ _ h => h) (Or.inr ⟨by rfl, rfl⟩) ?_ ?_
                            rotate_left
                            ·simp only [Act.put, List.setIfInBounds_toArray, List.set_cons_zero, List.set_cons_succ, i64_w, i32_w]
                             rfl
                            refine pure_ (i := 35) (N := some 125) (v := undef) (a' := ?_) #[true, true, true, true, true, true, true, true, true, true, true, true, true, true, true, true, true, true, true, true, true, true, true, true, true, true, true, true, true, true, true, true, true, true, true, true, false, false, false] rfl rfl (any_of HT_.out (by kernel_rfl)) (fun _ _ _ h => h) (Or.inr ⟨by rfl, rfl⟩) ?_ ?_
                            rotate_left
                            ·simp only [Act.put, List.setIfInBounds_toArray, List.set_cons_zero, List.set_cons_succ, i64_w, i32_w]
                             rfl
                            refine pure_ (i := 36) (N := some 126) (v := undef) (a' := ?_) #[true, true, true, true, true, true, true, true, true, true, true, true, true, true, true, true, true, true, true, true, true, true, true, true, true, true, true, true, true, true, true, true, true, true, true, true, true, false, false] rfl rfl (any_of HT_.out (by kernel_rfl)) (fun _ _ _ h => h) (Or.inr ⟨by rfl, rfl⟩) ?_ ?_
                            rotate_left
                            ·simp only [Act.put, List.setIfInBounds_toArray, List.set_cons_zero, List.set_cons_succ, i64_w, i32_w]
                             rfl
                            refine pure_ (i := 37) (N := some 127) (v := undef) (a' := ?_) #[true, true, true, true, true, true, true, true, true, true, true, true, true, true, true, true, true, true, true, true, true, true, true, true, true, true, true, true, true, true, true, true, true, true, true, true, true, true, false] rfl rfl (any_of HT_.out (by kernel_rfl)) (fun _ _ _ h => h) (Or.inr ⟨by rfl, rfl⟩) ?_ ?_
                            rotate_left
                            ·simp only [Act.put, List.setIfInBounds_toArray, List.set_cons_zero, List.set_cons_succ, i64_w, i32_w]
                             rfl
                            refine pure_ (i := 38) (N := some 128) (v := ?_) (a' := ?_) #[true, true, true, true, true, true, true, true, true, true, true, true, true, true, true, true, true, true, true, true, true, true, true, true, true, true, true, true, true, true, true, true, true, true, true, true, true, true, true] rfl rfl (any_of HT_.out (by kernel_rfl)) (fun _ _ _ h => h) (Or.inl ⟨by rfl, ?_⟩) ?_ ?_
                            rotate_left
                            ·intro w'
                             go_simp
                             with_reducible rfl
                            rotate_left
                            ·simp only [Act.put, List.setIfInBounds_toArray, List.set_cons_zero, List.set_cons_succ, i64_w, i32_w]
                             rfl
                            refine done_ (done_of HT_.out (by kernel_rfl)) ?_
                            try go_wp2
                            go_meet
                            case rel => exact ⟨_, (true), (by first | rfl | (simp; done) | (simp [*]; done)), H', ⟨by have := HJ3.out; have := HK2.out; have := HJ28.out; first | omega | exact Nat.le_refl _⟩, ⟨by (try simp only [hl8_28]); (with_reducible repeat (first | apply Kd.S_alloc | apply Kd.S_drewN | apply Kd.S_drew)); exact HO_8.out⟩, ⟨by (try simp only [hl8_28]); (with_reducible repeat (first | apply Kd.S_alloc | apply Kd.S_drewN | apply Kd.S_drew)); exact HO_9.out⟩, ⟨by repeat (first | (with_reducible first | exact HB.out | apply below_alloc | apply pw_below_drewN | apply below_drew1) | exact HB.out)⟩⟩
                          ·rw [if_neg c52] at H
                           exact absurd H (by simp)
                         ·rw [if_neg c51] at H
                          exact absurd H (by simp)
                        case rest => as_aux_lemma =>
                         clear HC48
                         try clear c1
                         try clear p1
                         try clear q1
                         try clear hx1
                         try clear p2
                         try clear q4
                         try clear c5
                         try clear c18
                         try clear p18
                         try clear q18
                         try clear hx18
                         try clear hx19
                         try clear q45
                         try clear c51
                         try clear c52
                         try clear c53
                         try clear c53b0
                         try clear c53b1
                         try clear hx186_0
                         try clear hx186_1
                         try clear hx186_2
                         try clear hx187_0
                         try clear hx187_1
                         try clear hx187_2
                         try clear hx188_0
                         try clear hx188_1
                         try clear hx188_2
                         try clear hx189_0
                         try clear hx189_1
                         try clear hx189_2
                         try clear hx190_0
                         try clear hx190_1
                         try clear hx190_2
                         try clear hx191_0
                         try clear hx191_1
                         try clear hx191_2
                         try clear p186
                         try clear p187
                         try clear q186
                         try clear q187
                         obtain ⟨kq, x128_47, rfl, HA, HJ47, HO_8, HO_9, HB⟩ := hcut
                         have hl8_47 := (Kd.S_reads' HO_8.out).1
                         rw [hl8_47] at HO_8
                         (try simp only [hl8_47])
                         (try simp only [hl8_47] at HO_9)
                         cases kq with
                         | zero => exact absurd HA.out (by simp [squintref04_Same.j3])
                         | succ kj47 =>
                          have H := HA.out
                          clear HA
                          simp only [squintref04_Same.j3] at H
                          by_cases c58 : x128_47 = true
                          ·subst c58
                           have H1 : (some false) = some r := by rw [if_pos rfl] at H; exact H
                           clear H
                           have H := H1
                           clear H1
                           obtain rfl := Option.some.inj H
                           go_wp2
                           go_ret
                           exact ⟨by first | rfl | (simp [errW_none, errW_some] <;> rfl) | (simp only [← hji21]; first | rfl | (simp [errW_none, errW_some] <;> rfl)) | (simp [*, errW_none, errW_some] <;> rfl), by repeat (first | (with_reducible first | exact HB.out | apply below_alloc | apply pw_below_drewN | apply below_drew1) | exact HB.out)⟩
                          ·replace c58 := Bool.eq_false_iff.mpr c58
                           subst c58
                           have H1 : (squintref04_Same.l1 kj47 l0 (l0.length : Int) y185 y172 (rd (rd_L1 x9_2 (ji21)) 0) (rd (rd_L1 x9_2 (ji21)) 1) 0) = some r := by rw [if_neg (show ¬ (false = true) by decide)] at H; exact H
                           clear H
                           have H := H1
                           clear H1
                           have H' := Aside0.mk H
                           clear H
                           go_wp2
                           go_loopg [9, 12] kj47 (fun kq v9 v12 w' => ∃ (x9_5 : List (List Int)) (x12_5 : Int), v12 = .int .i64 x12_5 ∧ Aside0 (squintref04_Same.l1 kq l0 (l0.length : Int) y185 x9_5 (rd (rd_L1 x9_2 (ji21)) 0) (rd (rd_L1 x9_2 (ji21)) 1) x12_5 = some r) ∧ Aside0 (kq ≤ kj47) ∧ Aside0 (Kd.S (Kd.slice 4 Kd.bool) 66 w' w.heap.size (fun _ => True) (.slice (some ad175) y185.length co32) y185) ∧ Aside0 (Kd.S (Kd.slice 3 (Kd.int .i64)) 24 w' w.heap.size (fun _ => True) v9 x9_5) ∧ Aside0 (Below w.heap.size w w'))
                           case atStart => exact ⟨(y172), (0), (by first | rfl | (simp; done) | (simp [*]; done)), H', ⟨Nat.le_refl _⟩, ⟨by (try simp only [hl8_28]); (try simp only [hl8_47]); (with_reducible repeat (first | apply Kd.S_alloc | apply Kd.S_drewN | apply Kd.S_drew)); exact HO_8.out⟩, ⟨by (try simp only [hl8_28]); (try simp only [hl8_47]); (with_reducible repeat (first | apply Kd.S_alloc | apply Kd.S_drewN | apply Kd.S_drew)); exact HO_9.out⟩, ⟨by repeat (first | (with_reducible first | exact HB.out | apply below_alloc | apply pw_below_drewN | apply below_drew1) | exact HB.out)⟩⟩
                           case round => as_aux_lemma =>
                            clear H'
                            try clear c1
                            try clear p1
                            try clear q1
                            try clear hx1
                            try clear p2
                            try clear q4
                            try clear c5
                            try clear c18
                            try clear p18
                            try clear q18
                            try clear hx18
                            try clear hx19
                            try clear q45
                            try clear c51
                            try clear c52
                            try clear c53
                            try clear c53b0
                            try clear c53b1
                            try clear c58
                            try clear hx186_0
                            try clear hx186_1
                            try clear hx186_2
                            try clear hx187_0
                            try clear hx187_1
                            try clear hx187_2
                            try clear hx188_0
                            try clear hx188_1
                            try clear hx188_2
                            try clear hx189_0
                            try clear hx189_1
                            try clear hx189_2
                            try clear hx190_0
                            try clear hx190_1
                            try clear hx190_2
                            try clear hx191_0
                            try clear hx191_1
                            try clear hx191_2
                            try clear p1
                            try clear p18
                            try clear p186
                            try clear p187
                            try clear p2
                            try clear q1
                            try clear q18
                            try clear q186
                            try clear q187
                            try clear q4
                            try clear q45
                            obtain ⟨x9_5, x12_5, rfl, HA, HK5, HO_8, HO_9, HB⟩ := hrel
                            cases gk with
                            | zero => exact absurd HA.out (by simp [squintref04_Same.l1])
                            | succ k5 =>
                             have H := HA.out
                             clear HA
                             simp only [squintref04_Same.l1] at H
                             by_cases c59 : 0 ≤ (rd (rd_L1 x9_2 (ji21)) 0)
                             ·rw [if_pos c59] at H
                              have c59b0 : decide (0 ≤ (rd (rd_L1 x9_2 (ji21)) 0)) = true := decide_eq_true c59
                              clear c59
                              by_cases c60 : (rd (rd_L1 x9_2 (ji21)) 0) < (l0.length : Int)
                              ·rw [if_pos c60] at H
                               have c60b0 : decide ((rd (rd_L1 x9_2 (ji21)) 0) < (l0.length : Int)) = true := decide_eq_true c60
                               clear c60
                               by_cases c61 : x12_5 < (((rd_T43 l0 (rd (rd_L1 x9_2 (ji21)) 0)).f1).length : Int)
                               ·rw [if_pos c61] at H
                                have c61b0 : decide (x12_5 < (((rd_T43 l0 (rd (rd_L1 x9_2 (ji21)) 0)).f1).length : Int)) = true := decide_eq_true c61
                                clear c61
                                by_cases c62 : 0 ≤ x12_5
                                ·rw [if_pos c62] at H
                                 have c62b0 : decide (0 ≤ x12_5) = true := decide_eq_true c62
                                 clear c62
                                 by_cases c63 : 0 ≤ (rd (rd_L1 x9_2 (ji21)) 1)
                                 ·rw [if_pos c63] at H
                                  have c63b0 : decide (0 ≤ (rd (rd_L1 x9_2 (ji21)) 1)) = true := decide_eq_true c63
                                  clear c63
                                  by_cases c64 : (rd (rd_L1 x9_2 (ji21)) 1) < (l0.length : Int)
                                  ·rw [if_pos c64] at H
                                   have c64b0 : decide ((rd (rd_L1 x9_2 (ji21)) 1) < (l0.length : Int)) = true := decide_eq_true c64
                                   clear c64
                                   by_cases c65 : x12_5 < (((rd_T43 l0 (rd (rd_L1 x9_2 (ji21)) 1)).f1).length : Int)
                                   ·rw [if_pos c65] at H
                                    have c65b0 : decide (x12_5 < (((rd_T43 l0 (rd (rd_L1 x9_2 (ji21)) 1)).f1).length : Int)) = true := decide_eq_true c65
                                    clear c65
                                    obtain ⟨y197, hy197⟩ : ∃ y_ : List Int, y_ = (([rd ((rd_T43 l0 (rd (rd_L1 x9_2 (ji21)) 0)).f1) x12_5, rd ((rd_T43 l0 (rd (rd_L1 x9_2 (ji21)) 1)).f1) x12_5] : List Int)) := ⟨_, rfl⟩
                                    replace H : (if x9_5.length < 5864062014805 then (squintref04_Same.l1 k5 l0 (l0.length : Int) y185 (x9_5 ++ [y197]) (rd (rd_L1 x9_2 (ji21)) 0) (rd (rd_L1 x9_2 (ji21)) 1) (wrap64 (x12_5 + 1))) else (none)) = some r := by first | (rw [hy197]; with_reducible exact H) | (have H2_ := (Option.bind_some _ _).symm.trans H; rw [hy197]; with_reducible exact H2_) | (have H2_ := (Option.bind_some _ _).symm.trans H; with_reducible exact H2_) | with_reducible exact H | (rw [hy197]; exact H) | exact H
                                    have Ny197 := Aside0.mk hy197
                                    clear hy197
                                    by_cases c66 : x9_5.length < 5864062014805
                                    ·rw [if_pos c66] at H
                                     have LMc66 := Aside0.mk c66
                                     clear c66
                                     obtain ⟨y200, hy200⟩ : ∃ y_ : List (List Int), y_ = (x9_5 ++ [y197]) := ⟨_, rfl⟩
                                     replace H : (squintref04_Same.l1 k5 l0 (l0.length : Int) y185 y200 (rd (rd_L1 x9_2 (ji21)) 0) (rd (rd_L1 x9_2 (ji21)) 1) (wrap64 (x12_5 + 1))) = some r := by first | (rw [hy200]; with_reducible exact H) | (have H2_ := (Option.bind_some _ _).symm.trans H; rw [hy200]; with_reducible exact H2_) | (have H2_ := (Option.bind_some _ _).symm.trans H; with_reducible exact H2_) | with_reducible exact H | (rw [hy200]; exact H) | exact H
                                     have Ny200 := Aside0.mk hy200
                                     clear hy200
                                     have H' := Aside0.mk H
                                     clear H
                                     have p192 : 0 ≤ ((rd (rd_L1 x9_2 (ji21)) 0) : Int) := of_decide_eq_true (by first | (with_reducible assumption) | assumption)
                                     have q192 : (rd (rd_L1 x9_2 (ji21)) 0) < (l0.length : Int) := of_decide_eq_true (by first | (with_reducible assumption) | assumption)
                                     obtain ⟨ad192, A192_1, c192_1, e192, hx192_0, hx192_1, hx192_2, hl192_1, hi192_1⟩ := at_T43 HR0.out (rd (rd_L1 x9_2 (ji21)) 0) p192 q192
                                     (try rw [← Nbq45.out] at hx192_2)
                                     cases e192
                                     replace hx192_0 := (HB.out.cell (World.block_lt_of_cell? w _ hx192_0)).trans hx192_0
                                     replace hx192_1 := (HB.out.cell (World.block_lt_of_cell? w _ hx192_1)).trans hx192_1
                                     replace hx192_2 := (HB.out.cell (World.block_lt_of_cell? w _ hx192_2)).trans hx192_2
                                     have HR192_1 := Aside0.mk hi192_1
                                     have HC192_1 := Aside0.mk hl192_1
                                     clear hi192_1 hl192_1
                                     replace p192 := eq_true p192
                                     replace q192 := eq_true q192
                                     try go_wp2
                                     have n0_ := Aside0.mk (Kd.S_drew HO_8.out)
                                     have n1_ := Aside0.mk (Kd.S_drew HO_9.out)
                                     have n2_ := Aside0.mk (below_drew1 HB.out)
                                     clear HO_8
                                     clear HO_9
                                     clear HB
                                     have HO_8 := n0_
                                     have HO_9 := n1_
                                     have HB := n2_
                                     clear n0_ n1_ n2_
                                     have p193 : 0 ≤ ((rd (rd_L1 x9_2 (ji21)) 0) : Int) := of_decide_eq_true (by first | (with_reducible assumption) | assumption)
                                     have q193 : (rd (rd_L1 x9_2 (ji21)) 0) < (l0.length : Int) := of_decide_eq_true (by first | (with_reducible assumption) | assumption)
                                     obtain ⟨ad193, A193_1, c193_1, e193, hx193_0, hx193_1, hx193_2, hl193_1, hi193_1⟩ := at_T43 HR0.out (rd (rd_L1 x9_2 (ji21)) 0) p193 q193
                                     have hw193_2 := hx193_2
                                     have hw193_1 := hx193_1
                                     have hw193_0 := hx193_0
                                     (try rw [← Nbq45.out] at hx193_2)
                                     obtain rfl : ad192 = ad193 := (by injection e193)
                                     replace hx193_0 := (HB.out.cell (World.block_lt_of_cell? w _ hx193_0)).trans hx193_0
                                     replace hx193_1 := (HB.out.cell (World.block_lt_of_cell? w _ hx193_1)).trans hx193_1
                                     replace hx193_2 := (HB.out.cell (World.block_lt_of_cell? w _ hx193_2)).trans hx193_2
                                     have HR193_1 := Aside0.mk hi193_1
                                     have HC193_1 := Aside0.mk hl193_1
                                     clear hi193_1 hl193_1
                                     replace p193 := eq_true p193
                                     replace q193 := eq_true q193
                                     have p194 : 0 ≤ (x12_5 : Int) := of_decide_eq_true (by first | (with_reducible assumption) | assumption)
                                     have q194 : x12_5 < (((rd_T43 l0 (rd (rd_L1 x9_2 (ji21)) 0)).f1).length : Int) := of_decide_eq_true (by first | (with_reducible assumption) | assumption)
                                     obtain ⟨ad194, e194, hx194_0⟩ := Kd.at_int HR193_1.out x12_5 p194 q194
                                     have hw194_0 := hx194_0
                                     cases e194
                                     replace hx194_0 := (HB.out.cell (World.block_lt_of_cell? w _ hx194_0)).trans hx194_0
                                     replace p194 := eq_true p194
                                     replace q194 := eq_true q194
                                     have p195 : 0 ≤ ((rd (rd_L1 x9_2 (ji21)) 1) : Int) := of_decide_eq_true (by first | (with_reducible assumption) | assumption)
                                     have q195 : (rd (rd_L1 x9_2 (ji21)) 1) < (l0.length : Int) := of_decide_eq_true (by first | (with_reducible assumption) | assumption)
                                     obtain ⟨ad195, A195_1, c195_1, e195, hx195_0, hx195_1, hx195_2, hl195_1, hi195_1⟩ := at_T43 HR0.out (rd (rd_L1 x9_2 (ji21)) 1) p195 q195
                                     have hw195_2 := hx195_2
                                     have hw195_1 := hx195_1
                                     have hw195_0 := hx195_0
                                     (try rw [← Nbq45.out] at hx195_2)
                                     obtain rfl : ad192 = ad195 := (by injection e195)
                                     replace hx195_0 := (HB.out.cell (World.block_lt_of_cell? w _ hx195_0)).trans hx195_0
                                     replace hx195_1 := (HB.out.cell (World.block_lt_of_cell? w _ hx195_1)).trans hx195_1
                                     replace hx195_2 := (HB.out.cell (World.block_lt_of_cell? w _ hx195_2)).trans hx195_2
                                     have HR195_1 := Aside0.mk hi195_1
                                     have HC195_1 := Aside0.mk hl195_1
                                     clear hi195_1 hl195_1
                                     replace p195 := eq_true p195
                                     replace q195 := eq_true q195
                                     have p196 : 0 ≤ (x12_5 : Int) := of_decide_eq_true (by first | (with_reducible assumption) | assumption)
                                     have q196 : x12_5 < (((rd_T43 l0 (rd (rd_L1 x9_2 (ji21)) 1)).f1).length : Int) := of_decide_eq_true (by first | (with_reducible assumption) | assumption)
                                     obtain ⟨ad196, e196, hx196_0⟩ := Kd.at_int HR195_1.out x12_5 p196 q196
                                     have hw196_0 := hx196_0
                                     cases e196
                                     replace hx196_0 := (HB.out.cell (World.block_lt_of_cell? w _ hx196_0)).trans hx196_0
                                     replace p196 := eq_true p196
                                     replace q196 := eq_true q196
                                     refine start_ (n := 21) (S := fun w' => w'.cell? (ad192.add (((rd (rd_L1 x9_2 (ji21)) 0)).toNat * 3)) = some (.int .i64 ((rd_T43 l0 (rd (rd_L1 x9_2 (ji21)) 0)).f0)) ∧ w'.cell? ⟨(ad192.add (((rd (rd_L1 x9_2 (ji21)) 0)).toNat * 3)).block, (ad192.add (((rd (rd_L1 x9_2 (ji21)) 0)).toNat * 3)).off + 1, none⟩ = some (.slice (some ad194) ((rd_T43 l0 (rd (rd_L1 x9_2 (ji21)) 0)).f1).length c193_1) ∧ w'.cell? ⟨(ad192.add (((rd (rd_L1 x9_2 (ji21)) 0)).toNat * 3)).block, (ad192.add (((rd (rd_L1 x9_2 (ji21)) 0)).toNat * 3)).off + 2, none⟩ = some (.bool ((rd_T43 l0 (rd (rd_L1 x9_2 (ji21)) 0)).f2)) ∧ w'.cell? (ad194.add (x12_5).toNat) = some (.int .i64 (rd ((rd_T43 l0 (rd (rd_L1 x9_2 (ji21)) 0)).f1) x12_5)) ∧ w'.cell? (ad192.add (((rd (rd_L1 x9_2 (ji21)) 1)).toNat * 3)) = some (.int .i64 ((rd_T43 l0 (rd (rd_L1 x9_2 (ji21)) 1)).f0)) ∧ w'.cell? ⟨(ad192.add (((rd (rd_L1 x9_2 (ji21)) 1)).toNat * 3)).block, (ad192.add (((rd (rd_L1 x9_2 (ji21)) 1)).toNat * 3)).off + 1, none⟩ = some (.slice (some ad196) ((rd_T43 l0 (rd (rd_L1 x9_2 (ji21)) 1)).f1).length c195_1) ∧ w'.cell? ⟨(ad192.add (((rd (rd_L1 x9_2 (ji21)) 1)).toNat * 3)).block, (ad192.add (((rd (rd_L1 x9_2 (ji21)) 1)).toNat * 3)).off + 2, none⟩ = some (.bool ((rd_T43 l0 (rd (rd_L1 x9_2 (ji21)) 1)).f2)) ∧ w'.cell? (ad196.add (x12_5).toNat) = some (.int .i64 (rd ((rd_T43 l0 (rd (rd_L1 x9_2 (ji21)) 1)).f1) x12_5))) (ds := []) #[false, false, false, false, false, false, false, false, false, false, false, false, false, false, false, false, false, false, false, false, false] (by kernel_rfl) rfl rfl ⟨((HB.out.cell (World.block_lt_of_cell? w _ hw193_0)).trans hw193_0), ((HB.out.cell (World.block_lt_of_cell? w _ hw193_1)).trans hw193_1), ((HB.out.cell (World.block_lt_of_cell? w _ hw193_2)).trans hw193_2), ((HB.out.cell (World.block_lt_of_cell? w _ hw194_0)).trans hw194_0), ((HB.out.cell (World.block_lt_of_cell? w _ hw195_0)).trans hw195_0), ((HB.out.cell (World.block_lt_of_cell? w _ hw195_1)).trans hw195_1), ((HB.out.cell (World.block_lt_of_cell? w _ hw195_2)).trans hw195_2), ((HB.out.cell (World.block_lt_of_cell? w _ hw196_0)).trans hw196_0)⟩ (fun hHeld => ?_); refine with_tabW squintref04_Same.tab19 squintref04_Same.bits19 (fun HT_ HW_ => ?_)
                                     generalize wr.drew = w67 at HO_8 HO_9 HB HR193_1 HR195_1 hx193_0 hx193_1 hx193_2 hx194_0 hx195_0 hx195_1 hx195_2 hx196_0 hHeld ⊢
                                     refine pure_ (i := 0) (N := some 139) (v := ?_) (a' := ?_) #[true, false, false, false, false, false, false, false, false, false, false, false, false, false, false, false, false, false, false, false, false] rfl rfl (any_of HT_.out (by kernel_rfl)) (fun _ _ _ h => h) (Or.inl ⟨by rfl, ?_⟩) ?_ ?_
                                     rotate_left
                                     ·intro w'
                                      go_simp
                                      with_reducible rfl
                                     rotate_left
                                     ·simp only [Act.put, List.setIfInBounds_toArray, List.set_cons_zero, List.set_cons_succ, i64_w, i32_w]
                                      rfl
                                     refine pure_ (i := 1) (N := some 140) (v := ?_) (a' := ?_) #[true, true, false, false, false, false, false, false, false, false, false, false, false, false, false, false, false, false, false, false, false] rfl rfl (any_of HT_.out (by kernel_rfl)) (fun _ _ _ h => h) (Or.inl ⟨by rfl, ?_⟩) ?_ ?_
                                     rotate_left
                                     ·intro w'
                                      go_simp
                                      with_reducible rfl
                                     rotate_left
                                     ·simp only [Act.put, List.setIfInBounds_toArray, List.set_cons_zero, List.set_cons_succ, i64_w, i32_w]
                                      rfl
                                     refine pure_ (i := 2) (N := some 141) (v := ?_) (a' := ?_) #[true, true, true, false, false, false, false, false, false, false, false, false, false, false, false, false, false, false, false, false, false] rfl rfl (any_of HT_.out (by kernel_rfl)) (fun _ _ _ h => h) (Or.inl ⟨by rfl, ?_⟩) ?_ ?_
                                     rotate_left
                                     ·intro w'
                                      go_simp
                                      with_reducible rfl
                                     rotate_left
                                     ·simp only [Act.put, List.setIfInBounds_toArray, List.set_cons_zero, List.set_cons_succ, i64_w, i32_w]
                                      rfl
                                     refine pure_ (i := 3) (N := some 142) (v := ?_) (a' := ?_) #[true, true, true, true, false, false, false, false, false, false, false, false, false, false, false, false, false, false, false, false, false] rfl rfl (any_of HT_.out (by kernel_rfl)) (fun _ _ _ h => h) (Or.inl ⟨by rfl, ?_⟩) ?_ ?_
                                     rotate_left
                                     ·intro w'
                                      go_simp
                                      with_reducible rfl
                                     rotate_left
                                     ·simp only [Act.put, List.setIfInBounds_toArray, List.set_cons_zero, List.set_cons_succ, i64_w, i32_w]
                                      rfl
                                     refine pure_ (i := 4) (N := some 143) (v := ?_) (a' := ?_) #[true, true, true, true, true, false, false, false, false, false, false, false, false, false, false, false, false, false, false, false, false] rfl rfl (any_of HT_.out (by kernel_rfl)) (fun _ _ _ h => h) (Or.inl ⟨by rfl, ?_⟩) ?_ ?_
                                     rotate_left
                                     ·intro w'
                                      go_simp
                                      with_reducible rfl
                                     rotate_left
                                     ·simp only [Act.put, List.setIfInBounds_toArray, List.set_cons_zero, List.set_cons_succ, i64_w, i32_w]
                                      rfl
                                     refine pure_ (i := 6) (N := some 145) (v := ?_) (a' := ?_) #[true, true, true, true, true, false, true, false, false, false, false, false, false, false, false, false, false, false, false, false, false] rfl rfl (any_of HT_.out (by kernel_rfl)) (fun _ _ _ h => h) (Or.inl ⟨by rfl, ?_⟩) ?_ ?_
                                     rotate_left
                                     ·intro w'
                                      go_simp
                                      with_reducible rfl
                                     rotate_left
                                     ·simp only [Act.put, List.setIfInBounds_toArray, List.set_cons_zero, List.set_cons_succ, i64_w, i32_w]
                                      rfl
                                     refine pure_ (i := 9) (N := some 148) (v := ?_) (a' := ?_) #[true, true, true, true, true, false, true, false, false, true, false, false, false, false, false, false, false, false, false, false, false] rfl rfl (any_of HT_.out (by kernel_rfl)) (fun _ _ _ h => h) (Or.inl ⟨by rfl, ?_⟩) ?_ ?_
                                     rotate_left
                                     ·intro w'
                                      go_simp
                                      with_reducible rfl
                                     rotate_left
                                     ·simp only [Act.put, List.setIfInBounds_toArray, List.set_cons_zero, List.set_cons_succ, i64_w, i32_w]
                                      rfl
                                     refine pure_ (i := 10) (N := some 149) (v := ?_) (a' := ?_) #[true, true, true, true, true, false, true, false, false, true, true, false, false, false, false, false, false, false, false, false, false] rfl rfl (any_of HT_.out (by kernel_rfl)) (fun _ _ _ h => h) (Or.inl ⟨by rfl, ?_⟩) ?_ ?_
                                     rotate_left
                                     ·intro w'
                                      go_simp
                                      with_reducible rfl
                                     rotate_left
                                     ·simp only [Act.put, List.setIfInBounds_toArray, List.set_cons_zero, List.set_cons_succ, i64_w, i32_w]
                                      rfl
                                     refine pure_ (i := 11) (N := some 150) (v := ?_) (a' := ?_) #[true, true, true, true, true, false, true, false, false, true, true, true, false, false, false, false, false, false, false, false, false] rfl rfl (any_of HT_.out (by kernel_rfl)) (fun _ _ _ h => h) (Or.inl ⟨by rfl, ?_⟩) ?_ ?_
                                     rotate_left
                                     ·intro w'
                                      go_simp
                                      with_reducible rfl
                                     rotate_left
                                     ·simp only [Act.put, List.setIfInBounds_toArray, List.set_cons_zero, List.set_cons_succ, i64_w, i32_w]
                                      rfl
                                     refine pure_ (i := 12) (N := some 151) (v := ?_) (a' := ?_) #[true, true, true, true, true, false, true, false, false, true, true, true, true, false, false, false, false, false, false, false, false] rfl rfl (any_of HT_.out (by kernel_rfl)) (fun _ _ _ h => h) (Or.inl ⟨by rfl, ?_⟩) ?_ ?_
                                     rotate_left
                                     ·intro w'
                                      go_simp
                                      with_reducible rfl
                                     rotate_left
                                     ·simp only [Act.put, List.setIfInBounds_toArray, List.set_cons_zero, List.set_cons_succ, i64_w, i32_w]
                                      rfl
                                     refine pure_ (i := 14) (N := some 153) (v := ?_) (a' := ?_) #[true, true, true, true, true, false, true, false, false, true, true, true, true, false, true, false, false, false, false, false, false] rfl rfl (any_of HT_.out (by kernel_rfl)) (fun _ _ _ h => h) (Or.inl ⟨by rfl, ?_⟩) ?_ ?_
                                     rotate_left
                                     ·intro w'
                                      go_simp
                                      with_reducible rfl
                                     rotate_left
                                     ·simp only [Act.put, List.setIfInBounds_toArray, List.set_cons_zero, List.set_cons_succ, i64_w, i32_w]
                                      rfl
                                     refine take_ (i := 5) (N := some 144) (v := ?_) (a' := ?_) #[true, true, true, true, true, true, true, false, false, true, true, true, true, false, true, false, false, false, false, false, false] rfl rfl (take_ofW HT_.out HW_.out (by kernel_rfl)) (fun _ _ _ h => h) (Or.inl ⟨by rfl, ?_⟩) hHeld ?_ ?_
                                     rotate_left
                                     ·rintro w' ⟨s0, s1, s2, s3, s4, s5, s6, s7⟩
                                      go_simp
                                      with_reducible rfl
                                     rotate_left
                                     ·simp only [Act.put, List.setIfInBounds_toArray, List.set_cons_zero, List.set_cons_succ, i64_w, i32_w]
                                      rfl
                                     refine pure_ (i := 7) (N := some 146) (v := ?_) (a' := ?_) #[true, true, true, true, true, true, true, true, false, true, true, true, true, false, true, false, false, false, false, false, false] rfl rfl (any_of HT_.out (by kernel_rfl)) (fun _ _ _ h => h) (Or.inl ⟨by rfl, ?_⟩) ?_ ?_
                                     rotate_left
                                     ·intro w'
                                      go_simp
                                      with_reducible rfl
                                     rotate_left
                                     ·simp only [Act.put, List.setIfInBounds_toArray, List.set_cons_zero, List.set_cons_succ, i64_w, i32_w]
                                      rfl
                                     refine take_ (i := 8) (N := some 147) (v := ?_) (a' := ?_) #[true, true, true, true, true, true, true, true, true, true, true, true, true, false, true, false, false, false, false, false, false] rfl rfl (take_ofW HT_.out HW_.out (by kernel_rfl)) (fun _ _ _ h => h) (Or.inl ⟨by rfl, ?_⟩) hHeld ?_ ?_
                                     rotate_left
                                     ·rintro w' ⟨s0, s1, s2, s3, s4, s5, s6, s7⟩
                                      go_simp
                                      with_reducible rfl
                                     rotate_left
                                     ·simp only [Act.put, List.setIfInBounds_toArray, List.set_cons_zero, List.set_cons_succ, i64_w, i32_w]
                                      rfl
                                     refine take_ (i := 13) (N := some 152) (v := ?_) (a' := ?_) #[true, true, true, true, true, true, true, true, true, true, true, true, true, true, true, false, false, false, false, false, false] rfl rfl (take_ofW HT_.out HW_.out (by kernel_rfl)) (fun _ _ _ h => h) (Or.inl ⟨by rfl, ?_⟩) hHeld ?_ ?_
                                     rotate_left
                                     ·rintro w' ⟨s0, s1, s2, s3, s4, s5, s6, s7⟩
                                      go_simp
                                      with_reducible rfl
                                     rotate_left
                                     ·simp only [Act.put, List.setIfInBounds_toArray, List.set_cons_zero, List.set_cons_succ, i64_w, i32_w]
                                      rfl
                                     refine pure_ (i := 15) (N := some 154) (v := ?_) (a' := ?_) #[true, true, true, true, true, true, true, true, true, true, true, true, true, true, true, true, false, false, false, false, false] rfl rfl (any_of HT_.out (by kernel_rfl)) (fun _ _ _ h => h) (Or.inl ⟨by rfl, ?_⟩) ?_ ?_
                                     rotate_left
                                     ·intro w'
                                      go_simp
                                      with_reducible rfl
                                     rotate_left
                                     ·simp only [Act.put, List.setIfInBounds_toArray, List.set_cons_zero, List.set_cons_succ, i64_w, i32_w]
                                      rfl
                                     refine take_ (i := 16) (N := some 155) (v := ?_) (a' := ?_) #[true, true, true, true, true, true, true, true, true, true, true, true, true, true, true, true, true, false, false, false, false] rfl rfl (take_ofW HT_.out HW_.out (by kernel_rfl)) (fun _ _ _ h => h) (Or.inl ⟨by rfl, ?_⟩) hHeld ?_ ?_
                                     rotate_left
                                     ·rintro w' ⟨s0, s1, s2, s3, s4, s5, s6, s7⟩
                                      go_simp
                                      with_reducible rfl
                                     rotate_left
                                     ·simp only [Act.put, List.setIfInBounds_toArray, List.set_cons_zero, List.set_cons_succ, i64_w, i32_w]
                                      rfl
                                     refine one_ (i := 17) (N := some 156) #[true, true, true, true, true, true, true, true, true, true, true, true, true, true, true, true, true, true, false, false, false] rfl rfl (one_of HT_.out (by kernel_rfl)) (by decide) (fun K hK => ?_)
                                     refine Kd.R_lit_step (Kd.int .i64) _ 3 ?hg (N := 156) ?hd (xs := ([rd ((rd_T43 l0 (rd (rd_L1 x9_2 (ji21)) 0)).f1) x12_5, rd ((rd_T43 l0 (rd (rd_L1 x9_2 (ji21)) 1)).f1) x12_5] : List Int)) (inner := [.int .i64 (rd ((rd_T43 l0 (rd (rd_L1 x9_2 (ji21)) 0)).f1) x12_5), .int .i64 (rd ((rd_T43 l0 (rd (rd_L1 x9_2 (ji21)) 1)).f1) x12_5)]) (ok := fun _ => True) (okp := fun _ => True) ?hr ?hp (fun _ hk => hk) trivial (Below.refl _ _) (Nat.le_refl _) (by simp) ?_; (case hd => rfl); (case hg => rfl); (case hr => first | (go_simp; done) | (go_simp; rfl)); (case hp => exact (Reps.one (show Kd.M (Kd.int .i64) _ _ _ (rd ((rd_T43 l0 (rd (rd_L1 x9_2 (ji21)) 0)).f1) x12_5) [.int .i64 (rd ((rd_T43 l0 (rd (rd_L1 x9_2 (ji21)) 0)).f1) x12_5)] from rfl) (Reps.one (show Kd.M (Kd.int .i64) _ _ _ (rd ((rd_T43 l0 (rd (rd_L1 x9_2 (ji21)) 1)).f1) x12_5) [.int .i64 (rd ((rd_T43 l0 (rd (rd_L1 x9_2 (ji21)) 1)).f1) x12_5)] from rfl) (Reps.none _ _))))
                                     intro v198 w68 ho69 hb hg_ hnew_
                                     clear hg_ hnew_
                                     (first | rw [← Ny197.out] at ho69 | (simp only [Int.reduceToNat] at ho69; rw [← Ny197.out] at ho69))
                                     have n0_ := Aside0.mk (Kd.S_below (by (with_reducible repeat (first | apply Kd.S_alloc | apply Kd.S_drewN | apply Kd.S_drew)); exact HO_8.out) hb)
                                     have n1_ := Aside0.mk (Kd.S_elder' (by (with_reducible repeat (first | apply Kd.S_alloc | apply Kd.S_drewN | apply Kd.S_drew)); exact HO_9.out) (Kd.R_base ho69) hb)
                                     have n2_ := Aside0.mk (Kd.R_lower ho69 (below_size (by repeat (first | (with_reducible first | exact HB.out | apply below_alloc | apply pw_below_drewN | apply below_drew1) | exact HB.out))))
                                     have n3_ := Aside0.mk (below_step (by repeat (first | (with_reducible first | exact HB.out | apply below_alloc | apply pw_below_drewN | apply below_drew1) | exact HB.out)) hb)
                                     clear HO_8
                                     clear HO_9
                                     clear HB
                                     have HO_8 := n0_
                                     have HO_9 := n1_
                                     have HO199 := n2_
                                     have HB := n3_
                                     clear n0_ n1_ n2_ n3_
                                     clear hb ho69
                                     obtain ⟨Ao71, co71, eo71⟩ := Kd.R_slice HO199.out
                                     (first | subst eo71 | (injection eo71 with f1_ f2_ f3_; have f4_ := f1_.symm; have f5_ := f3_.symm; clear f1_ f2_ f3_; subst f4_; subst f5_))
                                     refine hK.out _ _ ⟨((HB.out.cell (World.block_lt_of_cell? w _ hw193_0)).trans hw193_0), ((HB.out.cell (World.block_lt_of_cell? w _ hw193_1)).trans hw193_1), ((HB.out.cell (World.block_lt_of_cell? w _ hw193_2)).trans hw193_2), ((HB.out.cell (World.block_lt_of_cell? w _ hw194_0)).trans hw194_0), ((HB.out.cell (World.block_lt_of_cell? w _ hw195_0)).trans hw195_0), ((HB.out.cell (World.block_lt_of_cell? w _ hw195_1)).trans hw195_1), ((HB.out.cell (World.block_lt_of_cell? w _ hw195_2)).trans hw195_2), ((HB.out.cell (World.block_lt_of_cell? w _ hw196_0)).trans hw196_0)⟩ (fun hHeld => ?_)
                                     clear hK K
                                     refine norm_ (a' := ?_) ?_ ?_
                                     rotate_left
                                     ·show Act.put _ (some 156) _ = _
                                      simp only [Act.put, List.setIfInBounds_toArray, List.set_cons_zero, List.set_cons_succ, i64_w, i32_w]
                                      rfl
                                     refine one_ (i := 18) (N := some 157) #[true, true, true, true, true, true, true, true, true, true, true, true, true, true, true, true, true, true, true, false, false] rfl rfl (one_of HT_.out (by kernel_rfl)) (by decide) (fun K hK => ?_)
                                     refine value_ (w1 := ?_) (v := ?_) (by rfl) rfl ?_ ?_
                                     rotate_left 2
                                     ·go_simp
                                      constructor
                                      ·rfl
                                      ·rfl
                                     refine hK.out _ _ ⟨(World.cell?_alloc_lt _ _ _ (World.block_lt_of_cell? _ _ (((HB.out.cell (World.block_lt_of_cell? w _ hw193_0)).trans hw193_0)))).trans (((HB.out.cell (World.block_lt_of_cell? w _ hw193_0)).trans hw193_0)), (World.cell?_alloc_lt _ _ _ (World.block_lt_of_cell? _ _ (((HB.out.cell (World.block_lt_of_cell? w _ hw193_1)).trans hw193_1)))).trans (((HB.out.cell (World.block_lt_of_cell? w _ hw193_1)).trans hw193_1)), (World.cell?_alloc_lt _ _ _ (World.block_lt_of_cell? _ _ (((HB.out.cell (World.block_lt_of_cell? w _ hw193_2)).trans hw193_2)))).trans (((HB.out.cell (World.block_lt_of_cell? w _ hw193_2)).trans hw193_2)), (World.cell?_alloc_lt _ _ _ (World.block_lt_of_cell? _ _ (((HB.out.cell (World.block_lt_of_cell? w _ hw194_0)).trans hw194_0)))).trans (((HB.out.cell (World.block_lt_of_cell? w _ hw194_0)).trans hw194_0)), (World.cell?_alloc_lt _ _ _ (World.block_lt_of_cell? _ _ (((HB.out.cell (World.block_lt_of_cell? w _ hw195_0)).trans hw195_0)))).trans (((HB.out.cell (World.block_lt_of_cell? w _ hw195_0)).trans hw195_0)), (World.cell?_alloc_lt _ _ _ (World.block_lt_of_cell? _ _ (((HB.out.cell (World.block_lt_of_cell? w _ hw195_1)).trans hw195_1)))).trans (((HB.out.cell (World.block_lt_of_cell? w _ hw195_1)).trans hw195_1)), (World.cell?_alloc_lt _ _ _ (World.block_lt_of_cell? _ _ (((HB.out.cell (World.block_lt_of_cell? w _ hw195_2)).trans hw195_2)))).trans (((HB.out.cell (World.block_lt_of_cell? w _ hw195_2)).trans hw195_2)), (World.cell?_alloc_lt _ _ _ (World.block_lt_of_cell? _ _ (((HB.out.cell (World.block_lt_of_cell? w _ hw196_0)).trans hw196_0)))).trans (((HB.out.cell (World.block_lt_of_cell? w _ hw196_0)).trans hw196_0))⟩ (fun hHeld => ?_)
                                     clear hK K
                                     refine norm_ (a' := ?_) ?_ ?_
                                     rotate_left
                                     ·show Act.put _ (some 157) _ = _
                                      simp only [Act.put, List.setIfInBounds_toArray, List.set_cons_zero, List.set_cons_succ, i64_w, i32_w]
                                      rfl
                                     refine one_ (i := 19) (N := some 158) #[true, true, true, true, true, true, true, true, true, true, true, true, true, true, true, true, true, true, true, true, false] rfl rfl (one_of HT_.out (by kernel_rfl)) (by decide) (fun K hK => ?_)
                                     refine Kd.S_append_step (Kd.slice 3 (Kd.int .i64)) (w0 := w) w.heap.size (by rfl) (.tmp 139) (.tmp 157) 56 24 (.slice none 0 0) 24 rfl Try.underlying56 info24 rfl (by decide) (by omega) u9 x9_5 y197 [.slice Ao71 y197.length co71] (fun _ => True) (fun k_ => some k_ = (.slice Ao71 y197.length co71 : Value).ownBlock) rfl rfl ?aP (fun k_ hk_ => ((Kd.R_mono (ok' := fun k_ => ((fun _ => True)) k_ ∧ some k_ ≠ (u9 : Value).ownBlock) (Kd.R_apart' (HO199.out) (Kd.S_typed HO_9.out) (by decide)) (fun k_ hk => ⟨trivial, hk.2⟩))).1 k_ hk_.symm) ?aF ?aO ?aB ?aS ?aL ?_
                                     (case aP => exact Kd.M_row (Kd.R_mono (Kd.R_tight rfl (Kd.R_mono (ok' := fun k_ => ((fun _ => True)) k_ ∧ some k_ ≠ (u9 : Value).ownBlock) (Kd.R_apart' (HO199.out) (Kd.S_typed HO_9.out) (by decide)) (fun k_ hk => ⟨trivial, hk.2⟩))) (fun _ h_ => h_)))
                                     (case aB => exact (by repeat (first | (with_reducible first | exact HB.out | apply below_alloc | apply pw_below_drewN | apply below_drew1) | exact HB.out)))
                                     (case aF => exact (fun _ _ => trivial))
                                     (case aO => exact (by (with_reducible repeat (first | apply Kd.S_alloc | apply Kd.S_drewN | apply Kd.S_drew)); exact Kd.S_mono HO_9.out (fun k_ hk => ⟨trivial, fun e_ => hk.2 e_⟩)))
                                     (case aS => exact (below_size (by repeat (first | (with_reducible first | exact HB.out | apply below_alloc | apply pw_below_drewN | apply below_drew1) | exact HB.out))))
                                     (case aL => have := LMc66.out; omega)
                                     intro v201 w70 ho hb hg hat
                                     rw [← Ny200.out] at ho
                                     have n0_ := Aside0.mk (Kd.S_over' (by (with_reducible repeat (first | apply Kd.S_alloc | apply Kd.S_drewN | apply Kd.S_drew)); exact HO_8.out) (Kd.S_typed (by (with_reducible repeat (first | apply Kd.S_alloc | apply Kd.S_drewN | apply Kd.S_drew)); exact HO_9.out)) (by decide) hg)
                                     have n1_ := Aside0.mk (hb)
                                     have n2_ := Aside0.mk (ho)
                                     clear HO_8
                                     clear HB
                                     clear HO_9
                                     clear HO199
                                     have HO_8 := n0_
                                     have HB := n1_
                                     have HO202 := n2_
                                     clear n0_ n1_ n2_
                                     clear ho hb hg hat
                                     refine hK.out _ _ ⟨((HB.out.cell (World.block_lt_of_cell? w _ hw193_0)).trans hw193_0), ((HB.out.cell (World.block_lt_of_cell? w _ hw193_1)).trans hw193_1), ((HB.out.cell (World.block_lt_of_cell? w _ hw193_2)).trans hw193_2), ((HB.out.cell (World.block_lt_of_cell? w _ hw194_0)).trans hw194_0), ((HB.out.cell (World.block_lt_of_cell? w _ hw195_0)).trans hw195_0), ((HB.out.cell (World.block_lt_of_cell? w _ hw195_1)).trans hw195_1), ((HB.out.cell (World.block_lt_of_cell? w _ hw195_2)).trans hw195_2), ((HB.out.cell (World.block_lt_of_cell? w _ hw196_0)).trans hw196_0)⟩ (fun hHeld => ?_)
                                     clear hK K
                                     refine norm_ (a' := ?_) ?_ ?_
                                     rotate_left
                                     ·show Act.put _ (some 158) _ = _
                                      simp only [Act.put, List.setIfInBounds_toArray, List.set_cons_zero, List.set_cons_succ, i64_w, i32_w]
                                      rfl
                                     refine pure_ (i := 20) (N := some 9) (v := ?_) (a' := ?_) #[true, true, true, true, true, true, true, true, true, true, true, true, true, true, true, true, true, true, true, true, true] rfl rfl (any_of HT_.out (by kernel_rfl)) (fun _ _ _ h => h) (Or.inl ⟨by rfl, ?_⟩) ?_ ?_
                                     rotate_left
                                     ·intro w'
                                      go_simp
                                      with_reducible rfl
                                     rotate_left
                                     ·simp only [Act.put, List.setIfInBounds_toArray, List.set_cons_zero, List.set_cons_succ, i64_w, i32_w]
                                      rfl
                                     refine done_ (done_of HT_.out (by kernel_rfl)) ?_
                                     try go_wp2
                                     go_roundg k5
                                     case measure => have := HJ3.out; have := HK2.out; have := HJ28.out; have := HJ47.out; have := HK5.out; omega
                                     case rel => exact ⟨(y200), (wrap64 (x12_5 + 1)), (by first | rfl | (simp; done) | (simp [*]; done)), H', ⟨by have := HJ3.out; have := HK2.out; have := HJ28.out; have := HJ47.out; have := HK5.out; omega⟩, ⟨by (try simp only [hl8_28]); (try simp only [hl8_47]); (with_reducible repeat (first | apply Kd.S_alloc | apply Kd.S_drewN | apply Kd.S_drew)); exact HO_8.out⟩, ⟨by (try simp only [hl8_28]); (try simp only [hl8_47]); (with_reducible repeat (first | apply Kd.S_alloc | apply Kd.S_drewN | apply Kd.S_drew)); exact HO202.out⟩, ⟨by repeat (first | (with_reducible first | exact HB.out | apply below_alloc | apply pw_below_drewN | apply below_drew1) | exact HB.out)⟩⟩
                                    ·rw [if_neg c66] at H
                                     exact absurd H (by simp)
                                   ·rw [if_neg c65] at H
                                    exact absurd H (by simp)
                                  ·rw [if_neg c64] at H
                                   exact absurd H (by simp)
                                 ·rw [if_neg c63] at H
                                  exact absurd H (by simp)
                                ·rw [if_neg c62] at H
                                 exact absurd H (by simp)
                               ·rw [if_neg c61] at H
                                have c61b0 : decide (x12_5 < (((rd_T43 l0 (rd (rd_L1 x9_2 (ji21)) 0)).f1).length : Int)) = false := decide_eq_false c61
                                clear c61
                                have H' := Aside0.mk H
                                clear H
                                have p192 : 0 ≤ ((rd (rd_L1 x9_2 (ji21)) 0) : Int) := of_decide_eq_true (by first | (with_reducible assumption) | assumption)
                                have q192 : (rd (rd_L1 x9_2 (ji21)) 0) < (l0.length : Int) := of_decide_eq_true (by first | (with_reducible assumption) | assumption)
                                obtain ⟨ad192, A192_1, c192_1, e192, hx192_0, hx192_1, hx192_2, hl192_1, hi192_1⟩ := at_T43 HR0.out (rd (rd_L1 x9_2 (ji21)) 0) p192 q192
                                (try rw [← Nbq45.out] at hx192_2)
                                cases e192
                                replace hx192_0 := (HB.out.cell (World.block_lt_of_cell? w _ hx192_0)).trans hx192_0
                                replace hx192_1 := (HB.out.cell (World.block_lt_of_cell? w _ hx192_1)).trans hx192_1
                                replace hx192_2 := (HB.out.cell (World.block_lt_of_cell? w _ hx192_2)).trans hx192_2
                                have HR192_1 := Aside0.mk hi192_1
                                have HC192_1 := Aside0.mk hl192_1
                                clear hi192_1 hl192_1
                                replace p192 := eq_true p192
                                replace q192 := eq_true q192
                                go_wp2
                                (try simp only [← hl8_28, ← hl8_47])
                                go_roundg k5
                                case measure => have := HJ3.out; have := HK2.out; have := HJ28.out; have := HJ47.out; have := HK5.out; omega
                                case rel => exact ⟨(y185), (x9_5), H', ⟨by have := HJ3.out; have := HK2.out; have := HJ28.out; have := HJ47.out; have := HK5.out; omega⟩, ⟨by (try simp only [hl8_28]); (try simp only [hl8_47]); (with_reducible repeat (first | apply Kd.S_alloc | apply Kd.S_drewN | apply Kd.S_drew)); exact HO_8.out⟩, ⟨by (try simp only [hl8_28]); (try simp only [hl8_47]); (with_reducible repeat (first | apply Kd.S_alloc | apply Kd.S_drewN | apply Kd.S_drew)); exact HO_9.out⟩, ⟨by repeat (first | (with_reducible first | exact HB.out | apply below_alloc | apply pw_below_drewN | apply below_drew1) | exact HB.out)⟩⟩
                              ·rw [if_neg c60] at H
                               exact absurd H (by simp)
                             ·rw [if_neg c59] at H
                              exact absurd H (by simp)
                      ·rw [if_neg c44] at H
                       exact absurd H (by simp)
                     ·rw [if_neg c43] at H
                      exact absurd H (by simp)
                    ·rw [if_neg c42] at H
                     exact absurd H (by simp)
                   ·rw [if_neg c41] at H
                    exact absurd H (by simp)
                ·rw [if_neg c28] at H
                 exact absurd H (by simp)
               ·rw [if_neg c27] at H
                exact absurd H (by simp)
              ·rw [if_neg c26] at H
               exact absurd H (by simp)
             ·rw [if_neg c25] at H
              exact absurd H (by simp)
            ·rw [if_neg c24] at H
             exact absurd H (by simp)
           ·rw [if_neg c23] at H
            exact absurd H (by simp)
          ·rw [if_neg c22] at H
           exact absurd H (by simp)
         ·rw [if_neg c20] at H
          have c20b0 : decide (0 < (x9_2.length : Int)) = false := decide_eq_false c20
          have c20b1 : decide (0 < x9_2.length) = false := decide_eq_false (by omega)
          clear c20
          obtain rfl := Option.some.inj H
          obtain ⟨Ao72, co72, eo72⟩ := Kd.S_slice HO_9.out
          subst eo72
          go_wp2
          go_ret
          exact ⟨by first | rfl | (simp [errW_none, errW_some] <;> rfl) | (simp [*, errW_none, errW_some] <;> rfl), by repeat (first | (with_reducible first | exact HB.out | apply below_alloc | apply pw_below_drewN | apply below_drew1) | exact HB.out)⟩
      ·rw [if_neg c13] at H
       exact absurd H (by simp)
     ·rw [if_neg c12] at H
      exact absurd H (by simp)
    ·rw [if_neg c11] at H
     exact absurd H (by simp)

end Go.Proofs.Ytapagakfckjhdaa.PKindsSame
