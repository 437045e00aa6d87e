/-
  What a list of numbers reads as, of which parts may be taken.
-/
import Derived.Test.YtenfjdkeikjhlaaReadV
import Derived.Test.YtenfjdkeikjhlaaPartR
set_option autoImplicit false
set_option linter.unusedVariables false
namespace Go.Proofs.Ytenfjdkeikjhlaa.Vs
open Go.VI Go.Proofs Go.RowKit
theorem ints_of : ∀ {L : List (List AV)}, (∀ a ∈ L, ∃ x : Int, a = [.int .i64 x]) → ∃ l : List Int, l.length = L.length ∧ L.flatten = l.map (AV.int .i64)
  | [], _ => ⟨[], rfl, rfl⟩
  | a :: L, h => by
    obtain ⟨x, rfl⟩ := h a List.mem_cons_self
    obtain ⟨l, h1, h2⟩ := ints_of (L := L) (fun b hb => h b (List.mem_cons_of_mem _ hb))
    exact ⟨x :: l, by simp [h1], by simp [h2]⟩
theorem by3 : Try.prog.bytesOf 3 = 8 := by kernel_rfl
theorem rv28c (n : Nat) : RV Try.prog 28 (fun cs => ∃ l s, cs = [s] ∧ (∀ H, SIc H l s) ∧ l.length ≤ 17592186044415) n := by
  cases n with
  | zero => exact rv_zero
  | succ n =>
    refine (rv_slice Try.underlying28 (s := 1) (by kernel_rfl) (by decide) (rv_int Try.underlying3 n)).mono ?_
    rintro cs (rfl | ⟨L, cap, rfl, hc, hb, hL⟩)
    · exact ⟨[], _, rfl, fun H => ⟨.nil, fun _ _ _ _ e => by cases e⟩, by simp⟩
    · obtain ⟨l, h1, h2⟩ := ints_of (L := L) (fun a ha => by obtain ⟨_, x, hx, _⟩ := hL a ha; exact ⟨x, hx⟩)
      rw [by3] at hb
      have hrb : reachBytes ≤ 140737488351232 := by decide
      refine ⟨l, _, rfl, fun H => ⟨?_, fun _ _ _ _ e => by injection e with e; subst e; rfl⟩, by omega⟩
      rw [← h1, h2]
      refine .sl l _ 0 cap ?_ (by omega) (by omega)
      rw [read_im (by simp), List.drop_zero, List.take_of_length_le (by simp)]
end Go.Proofs.Ytenfjdkeikjhlaa.Vs
