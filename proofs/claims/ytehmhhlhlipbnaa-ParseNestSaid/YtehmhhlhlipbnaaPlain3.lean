/-
  ParseNest: the plain law.
-/
import Derived.Test.YtehmhhlhlipbnaaLaw2
set_option autoImplicit false
set_option linter.unusedVariables false
set_option linter.unusedSimpArgs false
namespace Go.Proofs.Ytehmhhlhlipbnaa.Vs
open Go.VI Go.Proofs
section
variable {tx : Nat → List UInt8} {src : List UInt8}
/-- what Parse comes to: what the scanner says; a fault at a token; a tree -/
theorem parse_cases (tx : Nat → List UInt8) (src : List UInt8) :
    ((scanF tx src).2.2 ≠ 0 ∧ ∀ nest, parseF tx src nest = ([], (scanF tx src).2.1, (scanF tx src).2.2)) ∨
    ((scanF tx src).2.2 = 0 ∧ ∃ i, i ≤ (scanF tx src).1.length ∧ pProgram tx src (scanF tx src).1 (fuelP (scanF tx src).1) ⟨0, []⟩ = some (.error (plF src (scanF tx src).1 i)) ∧ ∀ nest, parseF tx src nest = ([], plF src (scanF tx src).1 i, 30)) ∨
    ((scanF tx src).2.2 = 0 ∧ ∃ v s n ts, s.ns = (TR.mk 46 0 [] n ts).flat 0 ∧ szL ts ≤ (scanF tx src).1.length ∧ pProgram tx src (scanF tx src).1 (fuelP (scanF tx src).1) ⟨0, []⟩ = some (.ok (v, s)) ∧
      ∀ nest, parseF tx src nest = match deepF nest (TR.mk 46 0 [] n ts).hs s.ns with | some a => ([], a, 31) | none => (s.ns, 0, 0)) := by
  by_cases c : (scanF tx src).2.2 = 0
  · have hT := tok_ok c
    obtain ⟨h1, h2, h3⟩ := program_tree (tx := tx) (src := src) hT.len
    cases hp : pProgram tx src (scanF tx src).1 (fuelP (scanF tx src).1) ⟨0, []⟩ with
    | none => exact absurd hp h1
    | some r =>
      cases r with
      | error e =>
        obtain ⟨i, q1, q2⟩ := h3 e hp
        subst q2
        exact .inr (.inl ⟨c, i, q1, rfl, fun nest => parseF_bad c hp⟩)
      | ok r =>
        obtain ⟨v, s⟩ := r
        obtain ⟨n, ts, q1, q2, q3⟩ := h2 v s hp
        refine .inr (.inr ⟨c, v, s, n, ts, q2, q3, rfl, fun nest => ?_⟩)
        have hh : hts s.ns s.ns.length = (TR.mk 46 0 [] n ts).hs := by rw [q2]; exact hts_tree _
        cases hd : deepF nest (TR.mk 46 0 [] n ts).hs s.ns with
        | none => rw [← hh] at hd; exact parseF_ok c hp hd
        | some a => rw [← hh] at hd; exact parseF_deep c hp hd
  · exact .inl ⟨c, fun nest => parseF_scan c⟩
theorem deepF_first {nest : Int} : ∀ {hs : List Int} {ns : List ND}, hs.length = ns.length → (∃ x ∈ hs, nest < x) → ∃ i v y, i < ns.length ∧ ns[i]? = some v ∧ hs[i]? = some y ∧ nest < y ∧ (∀ j z, j < i → hs[j]? = some z → z ≤ nest) ∧ deepF nest hs ns = some v.at_
  | [], _, _, h => by obtain ⟨x, hx, _⟩ := h; cases hx
  | _ :: _, [], h, _ => by simp at h
  | x :: hs, v :: ns, h, hx => by
    by_cases c : nest < x
    · exact ⟨0, v, x, by simp, rfl, rfl, c, fun j z hj => by omega, by simp only [deepF, if_pos c]⟩
    · obtain ⟨y, hy, hlt⟩ := hx
      rcases List.mem_cons.1 hy with rfl | hy
      · exact absurd hlt c
      · obtain ⟨i, w, z, a1, a2, a3, a4, a5, a6⟩ := deepF_first (hs := hs) (ns := ns) (by simpa using h) ⟨y, hy, hlt⟩
        refine ⟨i + 1, w, z, by simpa using a1, by simpa using a2, by simpa using a3, a4, ?_, by simp only [deepF, if_neg c]; exact a6⟩
        intro j q hj hq
        cases j with
        | zero => simp only [List.getElem?_cons_zero, Option.some.injEq] at hq; omega
        | succ j => exact a5 j q (by omega) (by simpa using hq)
theorem nest_ok (tx : Nat → List UInt8) (src : List UInt8) (nest : Int) : NestOk (parseF tx src 65536) (parseF tx src nest) nest := by
  rcases parse_cases tx src with ⟨h1, h2⟩ | ⟨h1, i, h2, h3, h4⟩ | ⟨h1, v, s, n, ts, h2, h3, h4, h5⟩
  · rw [h2, h2]
    exact ⟨fun h => .inr h, fun _ _ => ⟨rfl, rfl⟩, fun h => absurd h h1, fun h => absurd h h1, fun h => absurd h h1⟩
  · rw [h4, h4]
    exact ⟨fun h => .inr h, fun _ _ => ⟨rfl, rfl⟩, fun h => by simp at h, fun h => by simp at h, fun h => by simp at h⟩
  · have hlen : (TR.mk 46 0 [] n ts).hs.length = s.ns.length := by rw [h2, TR.hs_len, TR.flat_len]
    have hT := (tok_ok h1).len
    have hsz : s.ns.length = szL ts + 1 := by rw [h2, TR.flat_len]; rfl
    have hh : hts s.ns s.ns.length = (TR.mk 46 0 [] n ts).hs := by rw [h2]; exact hts_tree _
    have key : ∀ m : Int, (deepF m (TR.mk 46 0 [] n ts).hs s.ns = none) ↔ ∀ x ∈ (TR.mk 46 0 [] n ts).hs, x ≤ m := fun m => deepF_none hlen
    have hlast : ∀ x, (TR.mk 46 0 [] n ts).hs[s.ns.length - 1]? = some x → x = (TR.mk 46 0 [] n ts).ht := by
      intro x hx
      obtain ⟨p, q1, q2⟩ := (TR.mk 46 0 [] n ts).hs_last
      rw [q1] at hx
      simp only [TR.sz] at q2
      rw [List.getElem?_append_right (by omega), show s.ns.length - 1 - p.length = 0 by omega] at hx
      simpa using hx.symm
    have hle := TR.hs_le (TR.mk 46 0 [] n ts)
    have hmem : (TR.mk 46 0 [] n ts).ht ∈ (TR.mk 46 0 [] n ts).hs := by
      obtain ⟨p, q1, q2⟩ := (TR.mk 46 0 [] n ts).hs_last
      rw [q1]; simp
    rw [h5, h5]
    cases hp : deepF 65536 (TR.mk 46 0 [] n ts).hs s.ns with
    | some a =>
      simp only
      refine ⟨fun _ => ?_, fun h => absurd rfl h, fun h => by simp at h, fun h => by simp at h, fun h => by simp at h⟩
      by_cases c : 65536 < nest
      · exact .inl c
      · cases hq : deepF nest (TR.mk 46 0 [] n ts).hs s.ns with
        | some b => exact .inr rfl
        | none =>
          have := (key nest).1 hq
          have := (key 65536).2 (fun x hx => by have := this x hx; omega)
          rw [this] at hp; cases hp
    | none =>
      simp only
      refine ⟨fun h => by simp at h, fun _ h => absurd rfl h, fun _ => ⟨show 0 < s.ns.length by omega, show s.ns.length ≤ 70000 by omega⟩, fun _ x hx hn => ?_, fun _ x hx hn => ?_⟩
      · rw [hh] at hx
        have hx := hlast x hx
        rw [(key nest).2 (fun y hy => by have := hle y hy; omega)]
      · rw [hh] at hx
        have hx := hlast x hx
        subst hx
        obtain ⟨i, w, y, a1, a2, a3, a4, a5, a6⟩ := deepF_first hlen ⟨_, hmem, hn⟩
        exact ⟨i, w, y, a1, a2, by rw [hh]; exact a3, a4, fun j z hj hz => a5 j z hj (by rw [← hh]; exact hz), by rw [a6]⟩
end
end Go.Proofs.Ytehmhhlhlipbnaa.Vs
