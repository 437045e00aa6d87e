/-
 The closure of try; what try answers.
-/
import Derived.Test.YtehmhhlhlipbnaaParse11
set_option autoImplicit false
set_option linter.unusedVariables false
set_option linter.unusedSimpArgs false
set_option maxRecDepth 100000
set_option maxHeartbeats 4000000
namespace Go.Proofs.Ytehmhhlhlipbnaa.Vs
open Go.VI Go.Proofs
variable {orc : CallF}
theorem eq_nil1 {e : Env} {H : AH} {x : Operand} (hx : ev e x = some .nili) (hc : isConstO x = false) : readOp Try.prog e H (.binOp .eql 20 x (.const .nilIface) 20) = some (.bool true) := by
 have h : readOp Try.prog e H (.binOp .eql 20 x (.const .nilIface) 20) = binA Try.prog .eql 20 .nili .nili (isConstO x) true := by
  show doBin Try.prog e .eql 20 x (.const .nilIface) = _
  unfold doBin
  rw [hx]; rfl
 rw [h, hc]; rfl
theorem eq_nil2 {e : Env} {H : AH} {x : Operand} {a : Int} (hx : ev e x = some (panA a)) (hc : isConstO x = false) : readOp Try.prog e H (.binOp .eql 20 x (.const .nilIface) 20) = some (.bool false) := by
 have h : readOp Try.prog e H (.binOp .eql 20 x (.const .nilIface) 20) = binA Try.prog .eql 20 (panA a) .nili (isConstO x) true := by
  show doBin Try.prog e .eql 20 x (.const .nilIface) = _
  unfold doBin
  rw [hx]; rfl
 rw [h, hc]; rfl
theorem as_69 {e : Env} {H : AH} {x : Operand} {a : Int} (hx : ev e x = some (panA a)) : readOp Try.prog e H (.typeAssert x 20 69 true) = some (.tup [.agg [.int .i64 a], .bool true]) := by
 simp only [readOp, doAssert, hx, panA, Try.underlying69]
 rfl
/-- how the closure ends -/
def ClQ (H0 : AH) (b1 b2 : Nat) (a : Int) (c : Bool) (H : AH) (y : AExit) (t : St) : Prop :=
 isRest y = true ∧ t.d.isEmpty = true ∧ (resultA Try.prog Try.f29.results.toList t).isSome = true ∧ (c = true → t.h = H) ∧ (c = false → Wf t.h ∧ Ext H0 t.h ∧ H.n ≤ t.h.n ∧ (∀ c o, H.at c = some o → c ≠ b1 → c ≠ b2 → t.h.at c = some o) ∧ t.h.at b1 = some (.row [.int .i64 a] 3 false none) ∧ t.h.at b2 = some (.row [.bool false] 4 false none))
theorem cl_idle {H0 HS : AH} (W0 : Wf H0) (WS : Wf HS) (ES : Ext H0 HS) (b1 b2 : Nat) (a : Int) (x0 : Int) (y0 : Bool) (hb : b1 ≠ b2) (h1 : H0.n ≤ b1) (h2 : H0.n ≤ b2) (hA1 : HS.at b1 = some (.row [.int .i64 x0] 3 false none)) (hA2 : HS.at b2 = some (.row [.bool y0] 4 false none)) : WP Try.prog orc Try.f29.ntmps (restOf (bodyOf Try.f29)) (ClQ H0 b1 b2 a true HS) ⟨(envOf 0 [.ptr (.mt b1) 0, .ptr (.mt b2) 0] .lf).set 5 .nili, HS, []⟩ := by
 have l1 := WS.lt hA1
 have l2 := WS.lt hA2
 rw [Try.ntmps29]
 refine w_block ?_
 refine w_srP ?_
 refine o_rdP (eq_nil1 tE rfl) rfl rfl ?_
 refine o_nilP ?_
 refine w_cond (t := true) tE (fun _ => ?_) (fun h => by cases h)
 refine w_regionP ?_
 refine o_asP ?_
 refine o_nilP ?_
 exact ⟨rfl, rfl, rfl, fun _ => rfl, fun h => by cases h⟩
theorem cl_pan {H0 HS : AH} (W0 : Wf H0) (WS : Wf HS) (ES : Ext H0 HS) (b1 b2 : Nat) (a : Int) (x0 : Int) (y0 : Bool) (hb : b1 ≠ b2) (h1 : H0.n ≤ b1) (h2 : H0.n ≤ b2) (hA1 : HS.at b1 = some (.row [.int .i64 x0] 3 false none)) (hA2 : HS.at b2 = some (.row [.bool y0] 4 false none)) : WP Try.prog orc Try.f29.ntmps (restOf (bodyOf Try.f29)) (ClQ H0 b1 b2 a false HS) ⟨(envOf 0 [.ptr (.mt b1) 0, .ptr (.mt b2) 0] .lf).set 5 (panA a), HS, []⟩ := by
 have l1 := WS.lt hA1
 have l2 := WS.lt hA2
 rw [Try.ntmps29]
 refine w_block ?_
 refine w_srP ?_
 refine o_rdP (eq_nil2 tE rfl) rfl rfl ?_
 refine o_nilP ?_
 refine w_cond (t := false) tE (fun h => by cases h) (fun _ => ?_)
 refine w_srP ?_
 refine o_rdP (as_69 tE) rfl rfl ?_
 refine o_rdP (r_extract tE rfl) rfl rfl ?_
 refine o_rdP (r_extract tE rfl) rfl rfl ?_
 refine o_nilP ?_
 refine w_cond (t := true) tE (fun _ => ?_) (fun h => by cases h)
 refine w_srP ?_
 refine o_stepP ?_
 refine o_nw WS (a_alloc Ty.zero69) rfl rfl rfl (by simp) ?_; intro H1 n1 W1 X1 A1
 have A1 : H1.at HS.n = some (.row [.int .i64 (0)] 69 false none) := A1
 have E1 := ES.trans X1
 have g1 : H0.n ≤ HS.n := ES.n
 have hA1 := X1.keep _ _ hA1
 have hA2 := X1.keep _ _ hA2
 refine o_nil ?_
 refine o_stepP ?_
 refine o_st W1 tE tE A1 Ty.csz69 rfl (Nat.le_of_ble_eq_true rfl) (by rfl) rfl rfl ?_; intro H2 n2 W2 A2 K2
 have A2 : H2.at HS.n = some (.row [.int .i64 (a)] 69 false none) := A2
 have E2 := Ext.put W0 E1 (by have := E1.n; omega) K2 n2 W2
 have hA1 := K2.own hA1 (by omega)
 have hA2 := K2.own hA2 (by omega)
 refine o_nil ?_
 refine o_nilP ?_
 refine w_regionP ?_
 refine o_rdP (r_fieldAddr Ty.fo69_0 tE) rfl rfl ?_
 refine o_rdP (r_load1 (v := .int .i64 (a)) Ty.agg3 tE (read_mt A2 (Nat.le_of_ble_eq_true rfl))) rfl rfl ?_
 refine o_stepP ?_
 refine o_st W2 tE tE hA1 Ty.csz3 rfl (Nat.le_of_ble_eq_true rfl) (by rfl) rfl rfl ?_; intro H3 n3 W3 A3 K3
 have A3 : H3.at b1 = some (.row [.int .i64 (a)] 3 false none) := A3
 have E3 := Ext.put W0 E2 (by have := E2.n; omega) K3 n3 W3
 have hA2 := K3.own hA2 (by omega)
 have A2 := K3.own A2 (by omega)
 refine o_nil ?_
 refine o_stepP ?_
 refine o_st W3 tE tE hA2 Ty.csz4 rfl (Nat.le_of_ble_eq_true rfl) (by rfl) rfl rfl ?_; intro H4 n4 W4 A4 K4
 have A4 : H4.at b2 = some (.row [.bool (false)] 4 false none) := A4
 have E4 := Ext.put W0 E3 (by have := E3.n; omega) K4 n4 W4
 have A3 := K4.own A3 (by omega)
 have A2 := K4.own A2 (by omega)
 refine o_nil ?_
 refine o_nilP ?_
 exact ⟨rfl, rfl, rfl, (fun h => by cases h), fun _ => ⟨W4, E4, by show HS.n ≤ H4.n; omega, fun c o h h1 h2 => K4.own (K3.own (K2.own (X1.keep _ _ h) (by have := WS.lt h; omega)) h1) h2, A3, A4⟩⟩
theorem rec29 : bodyOf Try.f29 = .seq (recOp 5 "parse.go:42") (restOf (bodyOf Try.f29)) := rfl
noncomputable def orcT (orc : CallF) : CallF := bothA orc (tryA Try.prog Try.f21 Try.f29 (bodyOf Try.f21) (bodyOf Try.f29) 5 orc 21 29)
/-- what try answers -/
def TryR (H0 HS : AH) (sv tv : AV) (tn rb : Nat) (G : LK → Prop) (x : LK) (res : Option (Except Int (Int × PS))) (r : AV) (H' : AH) : Prop :=
 Wf H' ∧ Ext H0 H' ∧ ((∃ v st' x', res = some (.ok (v, st')) ∧ r = .tup [.int .i64 0, .bool true] ∧ RS H0 sv tv tn rb G H' st' x' ∧ Fr2 rb HS x H' x') ∨ (∃ a x', res = some (.error a) ∧ r = .tup [.int .i64 a, .bool false] ∧ Fr2 rb HS x H' x'))
theorem try_fin (ho : NoOrcBut [7, 21, 69, 81] orc) {H0 HS : AH} (W0 : Wf H0) (WS : Wf HS) (ES : Ext H0 HS) (ho81 : ∃ sg, ∀ H, orc 81 [] H = some (.ret sg, H)) (tx : Nat → List UInt8) (ho69 : ∀ k : Nat, k < 67 → ∀ H, orc 69 [.int .i64 (k : Int)] H = some (.ret (.str (tx k)), H)) (src : List UInt8) (sv : AV) (T : List TK) (tv : AV) (rb : Nat) (G : LK → Prop) (st : PS) (x : LK) (hS : SB H0 5 src sv) (hT : TS H0 T tv) (hO : TOk src T) (hR : RS H0 sv tv T.length rb G HS st x) (f : Nat) (hm : pProgram tx src T f st ≠ none) :
  ∃ r H', tryA Try.prog Try.f21 Try.f29 (bodyOf Try.f21) (bodyOf Try.f29) 5 orc 21 29 21 [.ptr (.mt rb) 0] HS = some (.ret r, H') ∧ TryR H0 HS sv tv T.length rb G x (pProgram tx src T f st) r H' := by
 obtain ⟨e, t, ⟨n1, d1⟩, b1, b2, v2, v3, hd, hb, hb1, hb2, Wt, Et, hq⟩ := try_wp ho W0 WS ES ho81 tx ho69 src sv T tv rb G st x hS hT hO hR f (ih_all ho W0 ho81 tx ho69 src sv T tv rb hS hT hO f) hm
 have key : ∀ (v : AV) (y : AExit) (t2 : St) (n2 : Nat) (r1 : Int) (r2 : Bool), found e = some v → aexec Try.prog Try.f29.ntmps (acall Try.prog orc n2) n2 (restOf (bodyOf Try.f29)) ⟨(envOf 0 [.ptr (.mt b1) 0, .ptr (.mt b2) 0] .lf).set 5 v, t.h, []⟩ = some (y, t2) → isRest y = true → t2.d.isEmpty = true → (resultA Try.prog Try.f29.results.toList t2).isSome = true →
   t2.h.at b1 = some (.row [.int .i64 r1] 3 false none) → t2.h.at b2 = some (.row [.bool r2] 4 false none) → tryA Try.prog Try.f21 Try.f29 (bodyOf Try.f21) (bodyOf Try.f29) 5 orc 21 29 21 [.ptr (.mt rb) 0] HS = some (.ret (.tup [.int .i64 r1, .bool r2]), t2.h) := by
  intro v y t2 n2 r1 r2 hf d2 hy hd2 hr2 A1 A2
  refine tryA_of (n := max n1 n2) ?_
  have e1 := aexec_mono (acall_le (P := Try.prog) (orc := orc) (Nat.le_max_left n1 n2)) (Nat.le_max_left n1 n2) _ _ _ d1
  have e2 := aexec_mono (acall_le (P := Try.prog) (orc := orc) (Nat.le_max_right n1 n2)) (Nat.le_max_right n1 n2) _ _ _ d2
  unfold tryN
  rw [if_pos rfl, if_pos (show [AV.ptr (.mt rb) 0].length ≤ Try.f21.ntmps by rw [Try.ntmps21]; simp), e1]
  simp only [hf]
  unfold tryEnd
  rw [hd]
  simp only [if_pos (show (29 : Nat) = 29 ∧ [AV.ptr (.mt b1) 0, AV.ptr (.mt b2) 0].length ≤ Try.f29.ntmps ∧ 5 < Try.f29.ntmps from ⟨rfl, by rw [Try.ntmps29]; simp, by rw [Try.ntmps29]; simp⟩), e2, hy, hd2, hr2, and_self, if_true]
  have h1 : t2.h.read (.mt b1) 0 1 = some [.int .i64 r1] := read_mt A1 (Nat.le_of_ble_eq_true rfl)
  have h2 : t2.h.read (.mt b2) 0 1 = some [.bool r2] := read_mt A2 (Nat.le_of_ble_eq_true rfl)
  have h3 : resultA Try.prog Try.f21.results.toList ⟨t.e, t2.h, []⟩ = some (.tup [.int .i64 r1, .bool r2]) := by
   show resultA Try.prog [.cell 2 3, .cell 3 4] _ = _
   simp only [resultA, resultsA, v2, v3, h1, h2, Ty.agg3, Ty.agg4, Ty.csz3, Ty.csz4]
  rw [h3]; rfl
 rcases hq with ⟨rfl, v, st', x', hres, R, F, A1, A2⟩ | ⟨a, xb, rfl, hres, Fb, A1, A2⟩
 ·obtain ⟨y, t2, ⟨n2, d2⟩, hy, hd2, hr2, hc, _⟩ := cl_idle (orc := orc) W0 Wt Et b1 b2 0 0 true hb (by have := ES.n; omega) (by have := ES.n; omega) A1 A2
  obtain hc := hc rfl
  exact ⟨_, _, key .nili y t2 n2 0 true rfl d2 hy hd2 hr2 (by rw [hc]; exact A1) (by rw [hc]; exact A2), by rw [hc]; exact ⟨Wt, Et, .inl ⟨v, st', x', hres, rfl, R, F⟩⟩⟩
 ·obtain ⟨y, t2, ⟨n2, d2⟩, hy, hd2, hr2, _, hc⟩ := cl_pan (orc := orc) W0 Wt Et b1 b2 a 0 false hb (by have := ES.n; omega) (by have := ES.n; omega) A1 A2
  obtain ⟨W2, E2, hn2, hk2, B1, B2⟩ := hc rfl
  exact ⟨_, _, key (panA a) y t2 n2 a false rfl d2 hy hd2 hr2 B1 B2, W2, E2, .inr ⟨a, xb, hres, rfl, by have := Fb.n; omega, fun c o h h1 h2 h3 => hk2 c o (Fb.keep c o h h1 h2 h3) (by have := WS.lt h; omega) (by have := WS.lt h; omega), Fb.b', Fb.f'⟩⟩
/-- what is asked of an oracle for try -/
def TryOk (orc : CallF) (tx : Nat → List UInt8) : Prop := ∀ {H0 HS : AH}, Wf H0 → Wf HS → Ext H0 HS → ∀ (src : List UInt8) (sv : AV) (T : List TK) (tv : AV) (rb : Nat) (G : LK → Prop) (st : PS) (x : LK), SB H0 5 src sv → TS H0 T tv → TOk src T → RS H0 sv tv T.length rb G HS st x → ∀ f, pProgram tx src T f st ≠ none →
 Fin Try.prog orc 21 [.ptr (.mt rb) 0] HS (fun r H' => TryR H0 HS sv tv T.length rb G x (pProgram tx src T f st) r H')
theorem tryA_other {P : Program} {fn gn : Func} {c d : Code} {t : Nat} {orc : CallF} {f g f' : FuncId} (h : f' ≠ f) (a : List AV) (H : AH) : tryA P fn gn c d t orc f g f' a H = none := by
 unfold tryA
 rw [dif_neg]
 rintro ⟨n, r, hr⟩
 unfold tryN at hr
 rw [if_neg h] at hr
 cases hr
theorem orcT_l {orc : CallF} {f : FuncId} {a : List AV} {H : AH} {r : Out × AH} (h : orc f a H = some r) : orcT orc f a H = some r := by simp only [orcT, bothA, h, orElseA]
theorem orcT_no {orc : CallF} (ho : NoOrcBut [7, 21, 69, 81] orc) : NoOrcBut [7, 21, 69, 81] (orcT orc) := by
 intro f hf a H
 have h := ho f hf a H
 have h21 : f ≠ 21 := by rintro rfl; revert hf; decide
 simp only [orcT, bothA, h, tryA_other h21, orElseA]
theorem orcT_try (ho : NoOrcBut [7, 21, 69, 81] orc) (h21 : ∀ a H, orc 21 a H = none) (ho81 : ∃ sg, ∀ H, orc 81 [] H = some (.ret sg, H)) (tx : Nat → List UInt8) (ho69 : ∀ k : Nat, k < 67 → ∀ H, orc 69 [.int .i64 (k : Int)] H = some (.ret (.str (tx k)), H)) : TryOk (orcT orc) tx := by
 intro H0 HS W0 WS ES src sv T tv rb G st x hS hT hO hR f hm
 obtain ⟨r, H', h1, h2⟩ := try_fin ho W0 WS ES ho81 tx ho69 src sv T tv rb G st x hS hT hO hR f hm
 exact ⟨r, H', ⟨0, by simp only [acall, orcT, bothA, h21, orElseA]; exact h1⟩, h2⟩
end Go.Proofs.Ytehmhhlhlipbnaa.Vs
