/-
  What is answered at once: the examples, slices.Sort, slices.Compact.
-/
import Derived.Test.YtenfjdkeikjhlaaLay
import Derived.Test.YtenfjdkeikjhlaaVjU
import Derived.Test.YtenfjdkeikjhlaaShownT
set_option autoImplicit false
namespace Go.Proofs.Ytenfjdkeikjhlaa.Vs
open Go.VI Go.Proofs Go.Sort
theorem enters35 : VI.Enters Try.prog 35 := ⟨Try.f35, Try.func35, by kernel_rfl, by kernel_rfl⟩
theorem enters36 : VI.Enters Try.prog 36 := ⟨Try.f36, Try.func36, by kernel_rfl, by kernel_rfl⟩
theorem ok35 : PlaceOk Try.prog 35 srt (fun _ _ _ _ => .tuple #[]) (.tuple #[]) where
  len := srt_len
  some := fun blk off cap zs w h1 h2 h3 _ => calls_of_every_depth fun D => AnyS.slices_Sort_int_alone lays189 D blk off cap zs w h1 h2 h3
  none := fun w => Any.slices_Sort_int_none lays189 none 0 w
theorem ok36 : PlaceOk Try.prog 36 cmpz (fun blk off cap zs => .slice (some ⟨blk, off, none⟩) (cmp zs).length cap) (.slice none 0 0) where
  len := cmpz_len
  some := fun blk off cap zs w h1 _ h3 h4 => (Any.slices_Compact_int lays20 blk off cap zs w h1 (by omega) h4).mono fun e w' ⟨he, q, hw⟩ => ⟨he, q, #[], by rw [hw, grow_empty]; rfl⟩
  none := fun w => Any.slices_Compact_int_empty lays20 none 0 w
def bothB (a b : CallF) : CallF := fun f args H => orElseA (a f args H) (b f args H)
theorem bothB_sound {P : Program} {w0 : World} {a b : CallF} (A : CallSound P w0 a) (B : CallSound P w0 b) : CallSound P w0 (bothB a b) := by
  intro f args H r H' h
  unfold bothB at h
  cases ha : a f args H with
  | some x => rw [ha] at h; exact A f args H r H' (by rw [ha]; exact h)
  | none => rw [ha] at h; exact B f args H r H' h
def orcT : CallF := bothB (table tabShown) (bothB (sortA 35) (compactA 36))
theorem orcT_sound (w0 : World) : CallSound Try.prog w0 orcT := bothB_sound (table_sound shownOk) (bothB_sound (sortA_sound enters35 ok35) (compactA_sound enters36 ok36))
theorem place_no {fs f : Nat} {tr : List Int → List Int} {out : VI.Loc → Nat → Nat → List Int → AV} {no : AV} (h : Nat.beq f fs = false) (a : List AV) (H : AH) : placeA fs tr out no f a H = none := by
  simp only [placeA, h]
theorem butT : NoOrcBut [9, 35, 36] orcT := fun f hf a H => by
  have h1 := butShown3 f hf a H
  simp only [List.contains_cons, List.contains_nil, Bool.or_false, Bool.or_eq_false_iff] at hf
  have e1 : Nat.beq f 35 = false := by rw [beq_iff]; exact decide_eq_false (by simpa using hf.2.1)
  have e2 : Nat.beq f 36 = false := by rw [beq_iff]; exact decide_eq_false (by simpa using hf.2.2)
  simp only [orcT, bothB, h1, sortA, compactA, place_no e1, place_no e2, orElseA]
theorem shown_other {f : Nat} (hf : ¬ f = 9) (a : List AV) (H : AH) : table tabShown f a H = none := by
  have h9 : Nat.beq 9 f = false := by rw [beq_iff]; exact decide_eq_false (fun h => hf h.symm)
  simp only [table, tabShown, lookT, h9, Bool.false_and]
theorem orcT35 (a : List AV) (H : AH) : orcT 35 a H = sortA 35 35 a H := by
  have h2 : compactA 36 35 a H = none := place_no rfl a H
  simp only [orcT, bothB, shown_other (f := 35) (by decide), orElseA, h2]
  cases sortA 35 35 a H <;> rfl
theorem orcT36 (a : List AV) (H : AH) : orcT 36 a H = compactA 36 36 a H := by
  have h2 : sortA 35 36 a H = none := place_no rfl a H
  simp only [orcT, bothB, shown_other (f := 36) (by decide), orElseA, h2]
theorem orcT9 (H : AH) : orcT 9 [] H = some (.ret (.bool true), H) := rfl
end Go.Proofs.Ytenfjdkeikjhlaa.Vs
