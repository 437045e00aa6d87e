/-
  What bytes are read as.
-/
import Derived.Test.YtehmhhlhlipbnaaProg
import Derived.Test.YtehmhhlhlipbnaaVjT
import Derived.Test.YtehmhhlhlipbnaaVjM
import Derived.KernelRfl
set_option autoImplicit false
set_option linter.unusedVariables false
namespace Go.Proofs.Ytehmhhlhlipbnaa.Vs
open Go.VI Go.Proofs Go.RowKit
theorem by5 : Try.prog.bytesOf 5 = 1 := by kernel_rfl
theorem reach_le : reachBytes ≤ 140737488351232 := by decide
theorem bytes_of : ∀ {L : List (List AV)}, (∀ a ∈ L, ∃ x : Int, a = [.int .u8 x] ∧ (Lit.int .u8 x).wf = true) → ∃ l : List UInt8, l.length = L.length ∧ L.flatten = bytesA l
  | [], _ => ⟨[], rfl, rfl⟩
  | a :: L, h => by
    obtain ⟨x, rfl, hx⟩ := h a List.mem_cons_self
    obtain ⟨l, h1, h2⟩ := bytes_of (L := L) (fun b hb => h b (List.mem_cons_of_mem _ hb))
    have hr : 0 ≤ x ∧ x < 256 := by
      revert hx
      simp only [Lit.wf, Bool.and_eq_true, decide_eq_true_eq]
      have e1 : IntKind.u8.min = 0 := by decide
      have e2 : IntKind.u8.max = 255 := by decide
      rw [e1, e2]; omega
    refine ⟨UInt8.ofNat x.toNat :: l, by simp [h1], ?_⟩
    have : ((UInt8.ofNat x.toNat).toNat : Int) = x := by
      rw [UInt8.toNat_ofNat', Nat.mod_eq_of_lt (by omega)]; omega
    simp only [List.flatten_cons, h2, bytesA, List.map_cons, this]; rfl
theorem rv22 (n : Nat) : RV Try.prog 22 (fun cs => ∃ l s, cs = [s] ∧ (∀ H, SB H 5 l s) ∧ l.length ≤ 140737488351232) n := by
  cases n with
  | zero => exact rv_zero
  | succ n =>
    refine (rv_slice Try.underlying22 (s := 1) (by kernel_rfl) (by decide) (rv_int Try.underlying5 n)).mono ?_
    rintro cs (rfl | ⟨L, cap, rfl, hc, hb, hL⟩)
    · exact ⟨[], _, rfl, fun H => .nil, by simp⟩
    · obtain ⟨l, h1, h2⟩ := bytes_of (L := L) (fun a ha => (hL a ha).2)
      rw [by5] at hb
      have := reach_le
      refine ⟨l, _, rfl, fun H => ?_, by omega⟩
      rw [← h1, h2]
      refine .sl l _ 0 cap ?_ (by omega) (by omega) rfl
      rw [read_im (by simp [bytesA]), List.drop_zero, List.take_of_length_le (by simp [bytesA])]
theorem by9 : Try.prog.bytesOf 9 = 16 := by kernel_rfl
theorem strs_of : ∀ {L : List (List AV)}, (∀ a ∈ L, ∃ x : List UInt8, a = [.str x] ∧ x.length ≤ reachBytes) → ∃ l : List (List UInt8), l.length = L.length ∧ L.flatten = l.map AV.str ∧ ∀ x ∈ l, x.length ≤ reachBytes
  | [], _ => ⟨[], rfl, rfl, by simp⟩
  | a :: L, h => by
    obtain ⟨x, rfl, hx⟩ := h a List.mem_cons_self
    obtain ⟨l, h1, h2, h3⟩ := strs_of (L := L) (fun b hb => h b (List.mem_cons_of_mem _ hb))
    refine ⟨x :: l, by simp [h1], by simp [h2], fun y hy => ?_⟩
    rcases List.mem_cons.1 hy with rfl | hy
    · exact hx
    · exact h3 y hy
theorem rv30 (n : Nat) : RV Try.prog 30 (fun cs => ∃ bs s, cs = [s] ∧ (∀ H, SW H bs s) ∧ ∀ i, (h : i < bs.length) → bs[i].length ≤ 140737488355328) n := by
  cases n with
  | zero => exact rv_zero
  | succ n =>
    refine (rv_slice Try.underlying30 (s := 1) (by kernel_rfl) (by decide) (rv_string Try.underlying9 n)).mono ?_
    rintro cs (rfl | ⟨L, cap, rfl, hc, hb, hL⟩)
    · exact ⟨[], _, rfl, fun H => .nil, by simp⟩
    · obtain ⟨l, h1, h2, h3⟩ := strs_of (L := L) (fun a ha => (hL a ha).2)
      rw [by9] at hb
      have := reach_le
      refine ⟨l, _, rfl, fun H => ?_, fun i hi => by have := h3 _ (List.getElem_mem hi); omega⟩
      rw [← h1, h2]
      refine .sl l _ 0 cap ?_ (by omega) (by omega)
      rw [read_im (by simp), List.drop_zero, List.take_of_length_le (by simp)]
end Go.Proofs.Ytehmhhlhlipbnaa.Vs
