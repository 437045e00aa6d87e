/-
  ValueTells: helpers.
-/
import Derived.Test.YtenfjdkeikjhlaaChans
import Derived.Test.YtenfjdkeikjhlaaValidR
import Derived.Test.YtenfjdkeikjhlaaSame
import Derived.Test.YtenfjdkeikjhlaaSameR
import Derived.Test.YtenfjdkeikjhlaaEqf
import Derived.Test.YtenfjdkeikjhlaaGreat
import Derived.Test.YtenfjdkeikjhlaaOwnL
set_option autoImplicit false
set_option linter.unusedVariables false
set_option linter.unusedSimpArgs false
namespace Go.VI
section
variable {P : Program} {e : Env} {h : AH} {t t' : TypeId} {x y : Operand}
theorem r_neqB {b : Bool} {d : TypeDesc} (ht : P.underlying t = some d) (hx : ev e x = some (.bool b)) (hy : ev e y = some (.bool b)) (hd : readOp P e h (.binOp .neq t x y t') = some (.bool (!(b == b)))) : readOp P e h (.binOp .neq t x y t') = some (.bool false) := hd.trans (by simp)
theorem r_neqI {a : Int} (hd : readOp P e h (.binOp .neq t x y t') = some (.bool (decide (a ≠ a)))) : readOp P e h (.binOp .neq t x y t') = some (.bool false) := hd.trans (by simp)
theorem a_build2 {el : TypeId} {z v w : AV} (ht : P.underlying t = some (.slice el)) (hs : csz P el = some 1) (hz : zeroOf P el = some z) (hzl : z.cells.length = 1) (hx : ev e x = some v) (hv : v.cells.length = 1) (hy : ev e y = some w) (hw : w.cells.length = 1) :
    allocOp P e (.buildSlice t 2 #[(0, x), (1, y)]) = some (.row (v.cells ++ w.cells) el false none, fun b => freshSl b 2 2) := by
  have h1 : Nat.ble (2 * (0 + 1)) 16777216 = true := bleT (by omega)
  have h2 : Nat.beq z.cells.length (0 + 1) = true := by rw [hzl]; rfl
  have h3 : reps 2 z.cells = z.cells ++ z.cells := by simp [reps]
  obtain ⟨z1, hz1⟩ : ∃ q, z.cells = [q] := List.length_eq_one_iff.1 hzl
  obtain ⟨v1, hv1⟩ : ∃ q, v.cells = [q] := List.length_eq_one_iff.1 hv
  obtain ⟨w1, hw1⟩ : ∃ q, w.cells = [q] := List.length_eq_one_iff.1 hw
  simp only [allocOp, doBuildSlice, ht, evParts, hx, hy, buildSl1, hs, hz, buildSl, h1, h2, h3, fillA, hv1, hw1, hz1]
  rfl
end
section
variable {P : Program} {orc : CallF} {nt : Nat} {all l : List Oper} {K : St → Prop} {e : Env} {h : AH} {ds : List ADef}
variable {ty : TypeId} {pos : String} {aft : Array Edge} {g : Option (Nat × Bool)}
/-- a store into a list of one's own -/
theorem o_stO {x y : Operand} {t el : TypeId} {b off cap n i : Nat} {v : AV} {cs : List AV} {fm : Option Nat} (W : Wf h) (O : Own h el 1 (.sl (.mt b) off n cap) n cs b fm) (hi : i < n)
    (hx : ev e x = some (.ptr (.mt b) (off + i * 1))) (hy : ev e y = some v) (hc : csz P t = some v.cells.length) (hv : v.cells.length = 1) (h1 : ones v.cells = true)
    (hs : loudK P nt ⟨none, .store t x y, ty, pos, aft, g⟩ = true) (hw : wantedA all e ⟨none, .store t x y, ty, pos, aft, g⟩ = true)
    (k : ∀ H' cs', H'.n = h.n → Wf H' → Own H' el 1 (.sl (.mt b) off n cap) n cs' b fm → Keeps h H' b fm → WO P orc nt all l K ⟨e, H', ds⟩) :
    WO P orc nt all (⟨none, .store t x y, ty, pos, aft, g⟩ :: l) K ⟨e, h, ds⟩ := by
  obtain ⟨off2, cap2, cells, op, fam, h0, ha, hf, hle, hcs, hcap, hroom⟩ := O
  injection h0 with q1 q2 q3 q4; subst q2; subst q4
  refine o_store (o := ⟨none, .store t x y, ty, pos, aft, g⟩) W rfl hs hw hx hy hc ha (by omega) h1 fun H' k1 k2 k3 k4 => k H' _ k1 k2 ⟨off, cap, _, op, fam, rfl, k3, hf, ?_, rfl, hcap, ?_⟩ (hf ▸ k4)
  · rw [splice_length (by omega)]; exact hle
  · rw [splice_length (by omega)]; exact hroom
end
end Go.VI
namespace Go.Proofs.Ytenfjdkeikjhlaa.Vs
open Go.VI Go.Proofs
variable {orc : CallF}
def sumc : List (V × Nat) → Nat
  | [] => 0
  | p :: r => p.1.cnt + sumc r
theorem sumc_append : ∀ a b : List (V × Nat), sumc (a ++ b) = sumc a + sumc b
  | [], b => by simp [sumc]
  | x :: a, b => by simp only [List.cons_append, sumc, sumc_append a b]; omega
theorem sumc_rev (d : Nat) : ∀ l : List V, sumc (l.map fun y => (y, d)).reverse = V.cnts l
  | [] => rfl
  | x :: l => by simp only [List.map_cons, List.reverse_cons, sumc_append, sumc_rev d l, sumc, V.cnts]; omega
theorem gr_cnt : ∀ (f n : Nat) (st : List (V × Nat)), gr f n st = false → n + f = 65537 → n + sumc st ≤ 65536
  | 0, n, st, h, _ => by simp [gr] at h
  | f + 1, n, [], _, hn => by simp only [sumc]; omega
  | f + 1, n, (x, d) :: r, h, hn => by
    simp only [gr] at h
    split at h
    · cases h
    · split at h
      · cases h
      · have := gr_cnt f (n + 1) _ h (by omega)
        rw [sumc_append, sumc_rev] at this
        cases x with | mk k m l => simp only [sumc, V.cnt, V.l] at this ⊢; omega
theorem great_cnt {v : V} (h : gr 65537 0 [(v, 1)] = false) : v.cnt ≤ 65536 := by
  have := gr_cnt _ _ _ h rfl
  simp only [sumc] at this; omega
theorem pa_sa {H : AH} {lo hi : Nat} {k n : Int} {l : List V} {s : AV} (h : PA H lo hi (.mk k n l) [.int .i64 k, .int .i64 n, s]) : SA H l s := by
  cases h with | mk _ _ _ _ _ _ h => exact h.va
theorem si_own {H : AH} {l : List Int} {s : AV} {b : Nat} {f : Option Nat} (O : Own H 3 1 s l.length (l.map (AV.int .i64)) b f) (hl : l.length ≤ 4611686018427387904) : SI H l s := by
  obtain ⟨off, cap, rfl, hc, hr⟩ := O.read
  rw [Nat.mul_one] at hr
  exact .sl l _ off cap hr hc hl
theorem numbers_same (ho : NoOrcBut [9, 35, 36] orc) {H : AH} (W : Wf H) {l l' : List Int} {a b : AV} (ha : SI H l a) (hb : SI H l' b) (e : l = l') : VI.Fin Try.prog orc 19 [a, b] H (fun r H' => r = .bool true ∧ Ext H H') :=
  (numbers_fin ho W l l' a b ha hb).mono fun r H' h => ⟨h.1.trans (congrArg AV.bool (decide_eq_true e)), h.2⟩
theorem sameX (ho : NoOrcBut [9, 35, 36] orc) {H : AH} (W : Wf H) {x : V} {a b : List AV} (ha : VA H x a) (hb : VA H x b) : VI.Fin Try.prog orc 21 [.agg a, .agg b] H (fun r H' => r = .bool true ∧ Ext H H') :=
  (same_fin ho x H W x a b ha hb).mono fun r H' h => ⟨h.1.trans (congrArg AV.bool (eqV_t.2 rfl)), h.2⟩
theorem sameV_self (ho : NoOrcBut [9, 35, 36] orc) {H : AH} (W : Wf H) {x : V} {a b : List AV} (ha : VA H x a) (hb : VA H x b) : VI.Fin Try.prog orc 17 [.agg a, .agg b] H (fun r H' => r = .bool true ∧ Ext H H') :=
  (sameV_fin ho x H W x a b ha hb).mono fun r H' h => ⟨h.1.trans (congrArg AV.bool (eqV_t.2 rfl)), h.2⟩
theorem ownL_at (ho : NoOrcBut [9, 35, 36] orc) {H : AH} (W : Wf H) {k n : Int} {l : List V} {a : List AV} (hc : (V.mk k n l).cnt ≤ 1000000) (ha : VA H (.mk k n l) a) :
    VI.Fin Try.prog orc 11 [.agg a] H (fun r H' => ∃ s, r = .agg [.int .i64 k, .int .i64 n, s] ∧ PA H' H.n H'.n (.mk k n l) [.int .i64 k, .int .i64 n, s] ∧ Ext H H') :=
  (ownL_fin ho (.mk k n l) hc H W a ha).mono fun r H' ⟨a', h1, h2, h3⟩ => by
    cases h2 with | mk _ _ _ _ _ s h => exact ⟨s, h1, .mk _ _ _ _ _ _ h, h3⟩
end Go.Proofs.Ytenfjdkeikjhlaa.Vs
