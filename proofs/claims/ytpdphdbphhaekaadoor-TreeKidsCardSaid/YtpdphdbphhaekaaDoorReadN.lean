/-
  What nodes are read as.
-/
import Derived.Test.YtpdphdbphhaekaaDoorProg
import Derived.Test.YtpdphdbphhaekaaDoorVjN
import Derived.KernelRfl
set_option autoImplicit false
set_option linter.unusedVariables false
namespace Go.Proofs.YtpdphdbphhaekaaDoor.Vs
open Go.VI Go.Proofs Go.RowKit
theorem ints_of : ∀ {L : List (List AV)}, (∀ a ∈ L, ∃ x : Int, a = [.int .i64 x]) → ∃ l : List Int, l.length = L.length ∧ L.flatten = l.map (AV.int .i64)
  | [], _ => ⟨[], rfl, rfl⟩
  | a :: L, h => by
    obtain ⟨x, rfl⟩ := h a List.mem_cons_self
    obtain ⟨l, h1, h2⟩ := ints_of (L := L) (fun b hb => h b (List.mem_cons_of_mem _ hb))
    exact ⟨x :: l, by simp [h1], by simp [h2]⟩
theorem by3 : Tryd.prog.bytesOf 3 = 8 := by kernel_rfl
theorem by24 : Tryd.prog.bytesOf 24 = 64 := by kernel_rfl
theorem reach_le : reachBytes ≤ 140737488351232 := by decide
theorem rv22 (n : Nat) : RV Tryd.prog 22 (fun cs => ∃ l s, cs = [s] ∧ ∀ H, SI H l s) n := by
  cases n with
  | zero => exact rv_zero
  | succ n =>
    refine (rv_slice Tryd.underlying22 (s := 1) (by kernel_rfl) (by decide) (rv_int Tryd.underlying3 n)).mono ?_
    rintro cs (rfl | ⟨L, cap, rfl, hc, hb, hL⟩)
    · exact ⟨[], _, rfl, fun H => .nil⟩
    · obtain ⟨l, h1, h2⟩ := ints_of (L := L) (fun a ha => by obtain ⟨_, x, hx, _⟩ := hL a ha; exact ⟨x, hx⟩)
      rw [by3] at hb
      have := reach_le
      refine ⟨l, _, rfl, fun H => ?_⟩
      rw [← h1, h2]
      refine .sl l _ 0 cap ?_ (by omega) (by omega)
      rw [read_im (by simp), List.drop_zero, List.take_of_length_le (by simp)]
theorem rv24 (n : Nat) : RV Tryd.prog 24 (fun cs => ∃ v : ND, (∀ H, NA H v cs) ∧ v.nm.length ≤ 4611686018427387904) n := by
  cases n with
  | zero => exact rv_zero
  | succ n =>
    refine (rv_struct Tryd.underlying24 (s := 5) (by kernel_rfl) (rvF_cons _ _ (s := 1) (len := 4) (by kernel_rfl) (rv_int Tryd.underlying3 n) (rvF_cons _ _ (s := 1) (len := 3) (by kernel_rfl) (rv_int Tryd.underlying3 n) (rvF_cons _ _ (s := 1) (len := 2) (by kernel_rfl) (rv22 n) (rvF_cons _ _ (s := 1) (len := 1) (by kernel_rfl) (rv_string Tryd.underlying9 n) (rvF_one _ (s := 1) (by kernel_rfl) (rv_int Tryd.underlying3 n))))))).mono ?_
    rintro cs ⟨a, b, rfl, ⟨k, rfl, _⟩, a1, b1, rfl, ⟨at_, rfl, _⟩, a2, b2, rfl, ⟨ks, s, rfl, hs⟩, a3, b3, rfl, ⟨nm, rfl, hnm⟩, x, rfl, _⟩
    have := reach_le
    exact ⟨⟨k, at_, ks, nm, x⟩, fun H => .mk _ _ _ _ _ _ (hs H), by simp only; omega⟩
theorem nl_of : ∀ {L : List (List AV)}, (∀ a ∈ L, a.length = 5 ∧ ∃ v : ND, (∀ H, NA H v a) ∧ v.nm.length ≤ 4611686018427387904) → ∃ l : List ND, l.length = L.length ∧ (∀ v ∈ l, v.nm.length ≤ 4611686018427387904) ∧ ∀ H, NL H l L.flatten
  | [], _ => ⟨[], rfl, by simp, fun _ => .nil⟩
  | a :: L, h => by
    obtain ⟨_, v, hv, hn⟩ := h a List.mem_cons_self
    obtain ⟨l, h1, h2, h3⟩ := nl_of (L := L) (fun b hb => h b (List.mem_cons_of_mem _ hb))
    exact ⟨v :: l, by simp [h1], fun w hw => by rcases List.mem_cons.1 hw with rfl | hw; exact hn; exact h2 w hw, fun H => .cons _ _ _ _ (hv H) (h3 H)⟩
theorem flat5 : ∀ {L : List (List AV)}, (∀ a ∈ L, a.length = 5) → L.flatten.length = L.length * 5
  | [], _ => rfl
  | a :: L, h => by simp [h a List.mem_cons_self, flat5 (L := L) (fun b hb => h b (List.mem_cons_of_mem _ hb))]; omega
theorem rv28 (n : Nat) : RV Tryd.prog 28 (fun cs => ∃ l s, cs = [s] ∧ (∀ H, NS H l s) ∧ ∀ j, (h : j < l.length) → l[j].nm.length ≤ 4611686018427387904) n := by
  cases n with
  | zero => exact rv_zero
  | succ n =>
    refine (rv_slice Tryd.underlying28 (s := 5) (by kernel_rfl) (by decide) (rv24 n)).mono ?_
    rintro cs (rfl | ⟨L, cap, rfl, hc, hb, hL⟩)
    · exact ⟨[], _, rfl, fun H => .nil, by simp⟩
    · obtain ⟨l, h1, h2, h3⟩ := nl_of hL
      refine ⟨l, _, rfl, fun H => ?_, fun j h => h2 _ (List.getElem_mem h)⟩
      have hf := flat5 (fun a ha => (hL a ha).1)
      rw [by24] at hb
      have := reach_le
      rw [← h1]
      refine .sl l _ 0 cap L.flatten ?_ (by omega) (by omega) (h3 H)
      rw [read_im (by omega), List.drop_zero, List.take_of_length_le (by omega)]
end Go.Proofs.YtpdphdbphhaekaaDoor.Vs
