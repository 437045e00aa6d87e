/-
 The reader's try: its body, its closure, what it answers.
-/
import Derived.Test.YtehmhhlhlipbnaaParse10
import Derived.Test.YtehmhhlhlipbnaaVjZ
set_option autoImplicit false
set_option linter.unusedVariables false
set_option linter.unusedSimpArgs false
namespace Go.Proofs.Ytehmhhlhlipbnaa.Vs
open Go.VI Go.Proofs
variable {orc : CallF}
def bodyOf (fn : Func) : Code := match fn.body with | some c => c | none => .skip
theorem RS.put {H0 H H' : AH} {sv tv : AV} {tn rb b : Nat} {G : LK → Prop} {st : PS} {x : LK} (R : RS H0 sv tv tn rb (fun z => G z ∨ z = (b, none)) H st x) (W : Wf H') (hn : H'.n = H.n) (E : Ext H0 H') (K : Keeps H H' b none) (hb : b < H.n) (hG : ∀ z, G z → z.1 ≠ b) : RS H0 sv tv tn rb (fun z => G z ∨ z = (b, none)) H' st x :=
 (RS.app (y := (b, none)) (y' := (b, none)) R W (by omega) (by omega) E K (.inl rfl) (.inl rfl) (by show b < H'.n; omega) (fun g hg => by cases hg) (fun z hz => ⟨hG z hz, by cases hq : z.2 with | none => exact .inl rfl | some q => exact .inr (by simp)⟩)).1
theorem RS.swap {H0 H : AH} {sv tv : AV} {tn rb : Nat} {G : LK → Prop} {st : PS} {x p q : LK} (R : RS H0 sv tv tn rb (fun z => (G z ∨ z = p) ∨ z = q) H st x) : RS H0 sv tv tn rb (fun z => (G z ∨ z = q) ∨ z = p) H st x :=
 R.anti (fun z hz => hz.elim (fun h => h.elim (fun h => .inl (.inl h)) (fun h => .inr h)) (fun h => .inl (.inr h)))
/-- how the body of try ends -/
def TryQ (H0 HS : AH) (sv tv : AV) (tn rb : Nat) (G : LK → Prop) (x : LK) (res : Option (Except Int (Int × PS))) (e : AExit) (t : St) : Prop :=
 ∃ b1 b2, t.e.val 2 = .ptr (.mt b1) 0 ∧ t.e.val 3 = .ptr (.mt b2) 0 ∧ t.d = [.fn 29 [.ptr (.mt b1) 0, .ptr (.mt b2) 0] []] ∧ b1 ≠ b2 ∧ HS.n ≤ b1 ∧ HS.n ≤ b2 ∧ Wf t.h ∧ Ext H0 t.h ∧
  ((e = .ret ∧ ∃ v st' x', res = some (.ok (v, st')) ∧ RS H0 sv tv tn rb G t.h st' x' ∧ Fr2 rb HS x t.h x' ∧ t.h.at b1 = some (.row [.int .i64 0] 3 false none) ∧ t.h.at b2 = some (.row [.bool true] 4 false none)) ∨
   (∃ a x', e = .pan (panA a) ∧ res = some (.error a) ∧ Fr2 rb HS x t.h x' ∧ t.h.at b1 = some (.row [.int .i64 0] 3 false none) ∧ t.h.at b2 = some (.row [.bool false] 4 false none)))
set_option maxRecDepth 100000 in
set_option maxHeartbeats 4000000 in
theorem try_wp (ho : NoOrcBut [7, 21, 69, 81] orc) {H0 HS : AH} (W0 : Wf H0) (WS : Wf HS) (ES : Ext H0 HS) (ho81 : ∃ sg, ∀ H, orc 81 [] H = some (.ret sg, H)) (tx : Nat → List UInt8) (ho69 : ∀ k : Nat, k < 67 → ∀ H, orc 69 [.int .i64 (k : Int)] H = some (.ret (.str (tx k)), H)) (src : List UInt8) (sv : AV) (T : List TK) (tv : AV) (rb : Nat) (G : LK → Prop) (st : PS) (x : LK) (hS : SB H0 5 src sv) (hT : TS H0 T tv) (hO : TOk src T) (hR : RS H0 sv tv T.length rb G HS st x) (f : Nat) (ih : ∀ g, g ≤ f → IH orc H0 sv tv rb tx src T g) (hm : pProgram tx src T f st ≠ none) : WP Try.prog orc Try.f21.ntmps (bodyOf Try.f21) (TryQ H0 HS sv tv T.length rb G x (pProgram tx src T f st)) ⟨envOf 0 [.ptr (.mt rb) 0] .lf, HS, []⟩ := by
 have E0 := ES
 obtain ⟨nv, hA, hN⟩ := hR.at_; have hr0 := hR.r0; have hTl := hO.len; have hal := hR.al; have hSb := hS.bound; have hrbl := WS.lt hA
 have hxl := hR.xlt
 rw [Try.ntmps21]
 refine w_srP ?_
 refine o_stepP ?_
 refine o_nw WS (a_alloc Ty.zero3) rfl rfl rfl (by simp) ?_; intro H1 n1 W1 X1 A1
 have A1 : H1.at HS.n = some (.row [.int .i64 (0)] 3 false none) := A1
 have E1 := E0.trans X1
 have g1 : H0.n ≤ HS.n := E0.n
 have hA := X1.keep _ _ hA
 refine o_nil ?_
 refine o_stepP ?_
 refine o_nw W1 (a_alloc Ty.zero4) rfl rfl rfl (by simp) ?_; intro H2 n2 W2 X2 A2
 have A2 : H2.at H1.n = some (.row [.bool (false)] 4 false none) := A2
 have E2 := E1.trans X2
 have g2 : H0.n ≤ H1.n := E1.n
 have hA := X2.keep _ _ hA
 have A1 := X2.keep _ _ A1
 refine o_nil ?_
 refine o_nilP ?_
 refine w_srP ?_
 refine o_rdP (r_makeFunc tS tS) rfl rfl ?_
 refine o_stepP ?_
 refine o_df (f := 29) (first := []) (cap := [.ptr (.mt (HS.n)) (0), .ptr (.mt (H1.n)) (0)]) tE rfl ?_
 refine o_nil ?_
 refine o_nilP ?_
 refine w_srP ?_
 refine o_mvP ?_
 have hgr : RS H0 sv tv T.length rb (fun z => (G z ∨ z = (HS.n, none)) ∨ z = (H1.n, none)) H2 st x := (hR.add (y := (HS.n, none)) X1 (Nat.le_refl _) (by show HS.n < _; omega) (fun g hg => by cases hg)).add (y := (H1.n, none)) X2 (Nat.le_refl _) (by show H1.n < _; omega) (fun g hg => by cases hg)
 have hx1 : ∀ {x9 : LK} {H9 : AH}, Fr2 rb H2 x H9 x9 → H9.at (HS.n) = some (.row [.int .i64 (0)] 3 false none) ∧ H9.at (H1.n) = some (.row [.bool (false)] 4 false none) := fun F => ⟨F.keep _ _ A1 (by omega) (by omega) (.inl rfl), F.keep _ _ A2 (by omega) (by omega) (.inl rfl)⟩
 refine o_clP rfl rfl tS rfl (program_fin ho W0 W2 E2 ho81 tx ho69 src sv T tv rb _ st x hS hT hO hgr f ih hm) rfl rfl (by rintro p H' ⟨ae, hbad, rfl, Wb, Eb, xb, Fb⟩; exact ⟨HS.n, H1.n, by simp only [envOf, val_set, ↓reduceIte, Nat.reduceEqDiff], by simp only [envOf, val_set, ↓reduceIte, Nat.reduceEqDiff], rfl, by omega, by omega, by omega, Wb, Eb, Or.inr ⟨ae, xb, rfl, hbad, (Fr2.ofExt (X1.trans X2)).trans WS Fb, hx1 Fb⟩⟩) ?_; rintro _ H3 ⟨v3, st3, x3, hres3, rfl, R3, F3⟩
 obtain ⟨nv3, hA3, hN3⟩ := R3.at_
 have W3 := R3.w; have E3 := R3.e; obtain ⟨A1, A2⟩ := hx1 F3; have hFn3 := F3.n
 refine o_nilP ?_
 refine w_srP ?_
 refine o_stepP ?_
 refine o_st W3 tE tE A1 Ty.csz3 rfl (Nat.le_of_ble_eq_true rfl) (by rfl) rfl rfl ?_; intro H4 n4 W4 A4 K4
 have A4 : H4.at HS.n = some (.row [.int .i64 (0)] 3 false none) := A4
 have E4 := Ext.put W0 E3 (by have := E3.n; omega) K4 n4 W4
 have hA3 := K4.own hA3 (by omega)
 have A2 := K4.own A2 (by omega)
 refine o_nil ?_
 refine o_stepP ?_
 refine o_st W4 tE tE A2 Ty.csz4 rfl (Nat.le_of_ble_eq_true rfl) (by rfl) rfl rfl ?_; intro H5 n5 W5 A5 K5
 have A5 : H5.at H1.n = some (.row [.bool (true)] 4 false none) := A5
 have E5 := Ext.put W0 E4 (by have := E4.n; omega) K5 n5 W5
 have hA3 := K5.own hA3 (by omega)
 have A4 := K5.own A4 (by omega)
 refine o_nil ?_
 refine o_nilP ?_
 refine w_ret ?_
 have R1 : RS H0 sv tv T.length rb (fun z => (G z ∨ z = (H1.n, none)) ∨ z = (HS.n, none)) H4 st3 x3 := RS.put (G := fun z => G z ∨ z = (H1.n, none)) (b := HS.n) R3.swap W4 n4 E4 K4 (by omega) (fun z hz => hz.elim (fun h => by have := (hR.g z h).2.1; omega) (fun h => by rw [h]; show (H1.n : Nat) ≠ HS.n; omega))
 have R2 : RS H0 sv tv T.length rb (fun z => (G z ∨ z = (HS.n, none)) ∨ z = (H1.n, none)) H5 st3 x3 := RS.put (G := fun z => G z ∨ z = (HS.n, none)) (b := H1.n) R1.swap W5 n5 E5 K5 (by omega) (fun z hz => hz.elim (fun h => by have := (hR.g z h).2.1; omega) (fun h => by rw [h]; show (HS.n : Nat) ≠ H1.n; omega))
 have F2 : Fr2 rb HS x H5 x3 := by
  have F := ((Fr2.ofExt (X1.trans X2)).trans WS F3 : Fr2 rb HS x H3 x3)
  exact ⟨by have := F.n; omega, fun c o h h1 h2 h3 => K5.own (K4.own (F.keep c o h h1 h2 h3) (by have := WS.lt h; omega)) (by have := WS.lt h; omega), F.b', F.f'⟩
 exact ⟨HS.n, H1.n, by simp only [envOf, val_set, ↓reduceIte, Nat.reduceEqDiff], by simp only [envOf, val_set, ↓reduceIte, Nat.reduceEqDiff], rfl, by omega, by omega, by omega, W5, E5, Or.inl ⟨rfl, v3, st3, x3, hres3, R2.anti (fun z hz => .inl (.inl hz)), F2, A4, A5⟩⟩
end Go.Proofs.Ytehmhhlhlipbnaa.Vs
