/-
  What a value of layer 7 is read as.
-/
import Derived.Test.YtenfjdkeikjhlaaProg
import Derived.Test.YtenfjdkeikjhlaaVj
import Derived.Test.YtenfjdkeikjhlaaVjV
import Derived.KernelRfl
set_option autoImplicit false
set_option linter.unusedVariables false
namespace Go.Proofs.Ytenfjdkeikjhlaa.Vs
open Go.VI Go.Proofs
theorem la_of : ∀ {L : List (List AV)}, (∀ a ∈ L, a.length = 3 ∧ ∃ v, ∀ H, VA H v a) → ∃ l : List V, l.length = L.length ∧ ∀ H, LA H l L.flatten
  | [], _ => ⟨[], rfl, fun _ => .nil⟩
  | a :: L, h => by
    obtain ⟨_, v, hv⟩ := h a List.mem_cons_self
    obtain ⟨l, h1, h2⟩ := la_of (L := L) (fun b hb => h b (List.mem_cons_of_mem _ hb))
    exact ⟨v :: l, by simp [h1], fun H => .cons _ _ _ _ (hv H) (h2 H)⟩
theorem flat3 : ∀ {L : List (List AV)}, (∀ a ∈ L, a.length = 3) → L.flatten.length = L.length * 3
  | [], _ => rfl
  | a :: L, h => by simp [h a List.mem_cons_self, flat3 (L := L) (fun b hb => h b (List.mem_cons_of_mem _ hb))]; omega
theorem by24 : Try.prog.bytesOf 24 = 40 := by kernel_rfl
theorem rvV : ∀ n, RV Try.prog 24 (fun cs => ∃ v, ∀ H, VA H v cs) n ∧ RV Try.prog 22 (fun cs => ∃ l s, cs = [s] ∧ ∀ H, SA H l s) n
  | 0 => ⟨rv_zero, rv_zero⟩
  | n + 1 => by
    obtain ⟨i1, i2⟩ := rvV n
    constructor
    · refine (rv_struct Try.underlying24 (s := 3) (by kernel_rfl) (rvF_cons _ _ (s := 1) (len := 2) (by kernel_rfl) (rv_int Try.underlying3 n) (rvF_cons _ _ (s := 1) (len := 1) (by kernel_rfl) (rv_int Try.underlying3 n) (rvF_one _ (s := 1) (by kernel_rfl) i2)))).mono ?_
      rintro cs ⟨a, b, rfl, ⟨x, rfl, _⟩, a', b', rfl, ⟨y, rfl, _⟩, l, s, rfl, h⟩
      exact ⟨.mk x y l, fun H => .mk _ _ _ _ (h H)⟩
    · refine (rv_slice Try.underlying22 (s := 3) (by kernel_rfl) (by decide) i1).mono ?_
      rintro cs (rfl | ⟨L, cap, rfl, hc, hb, hL⟩)
      · exact ⟨[], _, rfl, fun H => .nil⟩
      · obtain ⟨l, h1, h2⟩ := la_of hL
        refine ⟨l, _, rfl, fun H => ?_⟩
        have hf := flat3 (fun a ha => (hL a ha).1)
        rw [by24] at hb
        have := reachBytes_lt
        rw [← h1]
        refine .sl l _ 0 cap L.flatten ?_ (by omega) (by omega) (h2 H)
        rw [read_im (by omega), List.drop_zero, List.take_of_length_le (by omega)]
theorem rv24 (n : Nat) : RV Try.prog 24 (fun cs => ∃ v, ∀ H, VA H v cs) n := (rvV n).1
end Go.Proofs.Ytenfjdkeikjhlaa.Vs
