/-
  With of the reference.
-/
import Derived.Test.YtenfjdkeikjhlaaPartR
set_option autoImplicit false
set_option linter.unusedVariables false
set_option linter.unusedSimpArgs false
namespace Go.VI
theorem splice_window {cells vs : List AV} {off k N : Nat} (hl : off + N ≤ cells.length) (hk : k + vs.length ≤ N) : ((splice cells (off + k) vs).drop off).take N = splice ((cells.drop off).take N) k vs := by
  obtain ⟨p, w, q, rfl, hp, hw⟩ : ∃ p w q, cells = p ++ (w ++ q) ∧ p.length = off ∧ w.length = N := ⟨cells.take off, (cells.drop off).take N, (cells.drop off).drop N, by rw [List.take_append_drop, List.take_append_drop], by simp; omega, by simp; omega⟩
  obtain ⟨w1, a, w2, rfl, h1, h2⟩ : ∃ w1 a w2, w = w1 ++ (a ++ w2) ∧ w1.length = k ∧ vs.length = a.length := ⟨w.take k, (w.drop k).take vs.length, (w.drop k).drop vs.length, by rw [List.take_append_drop, List.take_append_drop], by simp; omega, by simp; omega⟩
  subst hp; subst hw
  rw [List.drop_left, List.take_left, splice_mid h1 h2, show p ++ (w1 ++ (a ++ w2) ++ q) = (p ++ w1) ++ (a ++ (w2 ++ q)) by simp [List.append_assoc], splice_mid (by simp; omega) h2]
  rw [List.append_assoc, List.drop_left, show w1 ++ (vs ++ (w2 ++ q)) = (w1 ++ (vs ++ w2)) ++ q by simp [List.append_assoc], List.take_append_of_le_length (by simp; omega), List.take_of_length_le (by simp; omega)]
section
variable {P : Program} {orc : CallF} {nt : Nat} {all l : List Oper} {K : St → Prop} {e : Env} {h : AH} {ds : List ADef}
variable {d : Nat} {op : Op} {ty : TypeId} {pos : String} {aft : Array Edge} {g : Option (Nat × Bool)}
variable {ms : List Nat} {ls : List Look} {il : List Nat} {i : Nat}
theorem own_parts {H : AH} {el : TypeId} {e' n off cap : Nat} {cs : List AV} {b b' : Nat} {fm : Option Nat} (O : Own H el e' (.sl (.mt b') off n cap) n cs b fm) :
    b' = b ∧ ∃ cells op fam, H.at b = some (.row cells el op fam) ∧ fam.map (·.1) = fm ∧ off + n * e' ≤ cells.length ∧ (cells.drop off).take (n * e') = cs ∧ n ≤ cap ∧ off + cap * e' ≤ cells.length := by
  obtain ⟨o2, c2, cells, opn, fam, h0, h2⟩ := O
  injection h0 with q1 q2 q3 q4; injection q1 with q1; subst q1; subst q2; subst q4; exact ⟨rfl, cells, opn, fam, h2⟩
theorem own_splice {H' : AH} {el : TypeId} {e' n off cap j : Nat} {cells vs : List AV} {b : Nat} {opn : Bool} {fam : Option (Nat × Nat)} (hr : H'.at b = some (.row (splice cells (off + j * e') vs) el opn fam)) (hj : j < n) (hv : vs.length = e') (h3 : off + n * e' ≤ cells.length) (h5 : n ≤ cap) (h6 : off + cap * e' ≤ cells.length) :
    Own H' el e' (.sl (.mt b) off n cap) n (splice ((cells.drop off).take (n * e')) (j * e') vs) b (fam.map (·.1)) := by
  have hje : j * e' + e' ≤ n * e' := by rw [← Nat.succ_mul]; exact Nat.mul_le_mul_right _ hj
  exact ⟨off, cap, _, opn, fam, rfl, hr, rfl, by rw [splice_length (by omega)]; exact h3, splice_window h3 (by omega), h5, by rw [splice_length (by omega)]; exact h6⟩
/-- An element of a slice of one's own is written. -/
theorem d_stO {x y : Operand} {t : TypeId} {b b' off n cap j e' : Nat} {v : AV} {cs : List AV} {el : TypeId} {fm : Option Nat} (hi : all[i]? = some ⟨none, .store t x y, ty, pos, aft, g⟩) (W : Wf h) (O : Own h el e' (.sl (.mt b') off n cap) n cs b fm) (hj : j < n)
    (hx : ev e x = some (.ptr (.mt b') (off + j * e'))) (hy : ev e y = some v) (hc : csz P t = some e') (hm : v.cells.length = e') (h1 : ones v.cells = true)
    (hs : loudK P nt ⟨none, .store t x y, ty, pos, aft, g⟩ = true) (hw : wantedA all e ⟨none, .store t x y, ty, pos, aft, g⟩ = true)
    (k : ∀ H', H'.n = h.n → Wf H' → Own H' el e' (.sl (.mt b') off n cap) n (splice cs (j * e') v.cells) b fm → Keeps h H' b fm → recheck P (ms.getD i 0) H' ls = true ∧ WD P orc nt all ms il ls K ⟨e, H', ds⟩) : WD P orc nt all ms (i :: il) ls K ⟨e, h, ds⟩ := by
  obtain ⟨rfl, cells, opn, fam, ha, rfl, h3, rfl, h5, h6⟩ := own_parts O
  have hje : j * e' + e' ≤ n * e' := by rw [← Nat.succ_mul]; exact Nat.mul_le_mul_right _ hj
  exact d_st hi W hx hy ha hc hm (by omega) h1 hs hw fun H' k1 k2 k3 k4 => k H' k1 k2 (own_splice k3 hj hm h3 h5 h6) k4
theorem o_stO {x y : Operand} {t : TypeId} {b b' off n cap j e' : Nat} {v : AV} {cs : List AV} {el : TypeId} {fm : Option Nat} (W : Wf h) (O : Own h el e' (.sl (.mt b') off n cap) n cs b fm) (hj : j < n)
    (hx : ev e x = some (.ptr (.mt b') (off + j * e'))) (hy : ev e y = some v) (hc : csz P t = some e') (hm : v.cells.length = e') (h1 : ones v.cells = true)
    (hs : loudK P nt ⟨none, .store t x y, ty, pos, aft, g⟩ = true) (hw : wantedA all e ⟨none, .store t x y, ty, pos, aft, g⟩ = true)
    (k : ∀ H', H'.n = h.n → Wf H' → Own H' el e' (.sl (.mt b') off n cap) n (splice cs (j * e') v.cells) b fm → Keeps h H' b fm → WO P orc nt all l K ⟨e, H', ds⟩) : WO P orc nt all (⟨none, .store t x y, ty, pos, aft, g⟩ :: l) K ⟨e, h, ds⟩ := by
  obtain ⟨rfl, cells, opn, fam, ha, rfl, h3, rfl, h5, h6⟩ := own_parts O
  have hje : j * e' + e' ≤ n * e' := by rw [← Nat.succ_mul]; exact Nat.mul_le_mul_right _ hj
  exact o_st W hx hy ha hc hm (by omega) h1 hs hw fun H' k1 k2 k3 k4 => k H' k1 k2 (own_splice k3 hj hm h3 h5 h6) k4
end
theorem LA.set {H : AH} {l : List V} {cs a : List AV} {v : V} {j : Nat} (h : LA H l cs) (hv : VA H v a) (hj : j < l.length) : LA H (l.set j v) (splice cs (j * 3) a) := by
  have hl := h.len
  have h4 : l = l.take j ++ ([l[j]] ++ l.drop (j + 1)) := by rw [List.singleton_append, List.getElem_cons_drop, List.take_append_drop]
  have hlj : (l.take j).length = j := by simp; omega
  rw [set_parts hj]
  rw [h4] at h
  obtain ⟨c1, c2, rfl, h1, h2⟩ := h.append_inv
  obtain ⟨c3, c4, rfl, h3, h5⟩ := h2.append_inv
  have e1 := h1.len; have e3 := h3.len; have ea := hv.len
  rw [hlj] at e1
  simp only [List.length_cons, List.length_nil] at e3
  rw [splice_mid (by omega) (by omega)]
  exact h1.append (.cons _ _ _ _ hv h5)
theorem QL.set {n b j : Nat} {f : Option Nat} {H : AH} {l : List V} {cs a : List AV} {v : V} (h : QL n b f H l cs) (hv : ∀ H2, KeepsN n (some b) f H H2 → VA H2 v a) (hj : j < l.length) : QL n b f H (l.set j v) (splice cs (j * 3) a) := fun H2 k => (h H2 k).set (hv H2 k) hj
/-- a tree from before, when a slice of one's own that is newer has been written -/
theorem FS.past {m m' b : Nat} {f : Option Nat} {H Hs H' : AH} {v : V} {a : List AV} (h : FS m' H v a) (W : Wf H) (E : ∀ c x, m' ≤ c → c < H.n → H.at c = some x → Hs.at c = some x) (K : Keeps Hs H' b f) (hb : H.n ≤ b) (hf : ∀ g, f = some g → H.n ≤ g) (hm : m ≤ m') : ∀ H2, KeepsN m (some b) f H' H2 → VA H2 v a := fun H2 k =>
  h H2 fun c x h1 h2 h3 h4 h5 => by
    have hc := W.lt h3
    have hfx : famid x = none ∨ famid x ≠ f := by
      cases hx : famid x with
      | none => exact .inl rfl
      | some g =>
        refine .inr fun e => ?_
        have := W.famlt h3 hx
        have := hf g e.symm
        omega
    exact k c x (by omega) (fun q hq => by injection hq with hq; omega) (K c x (E _ _ h1 hc h3) (by omega) hfx) (fun g hg => by have := h4 g hg; omega) hfx
end Go.VI
namespace Go.Proofs.Ytenfjdkeikjhlaa.Vs
open Go.VI Go.Proofs
variable {orc : CallF}
set_option maxRecDepth 100000 in
set_option maxHeartbeats 4000000 in
theorem withR_step (ho : NoOrcBut [9, 35, 36] orc) {H0 : AH} (W0 : Wf H0) (ka na kb nb : Int) (la lb : List V) (sa sp sb : AV) (ps : List Int) (hS : SA H0 la sa) (hP : SIc H0 ps sp) (hB : SA H0 lb sb) (hN : (V.mk ka na la).cnt ≤ 1000000) (hM : (V.mk kb nb lb).cnt ≤ 1000000) (ih : ∀ q : List Int, q.length < ps.length → ∀ (H : AH), Wf H → ∀ (ka na : Int) (la : List V) (sa sq sb : AV), SA H la sa → SIc H q sq → SA H lb sb → (V.mk ka na la).cnt ≤ 1000000 → Fin Try.prog orc 30 [.agg [.int .i64 ka, .int .i64 na, sa], sq, .agg [.int .i64 kb, .int .i64 nb, sb]] H (fun r H' => ∃ k n l s, r = .tup [.agg [.int .i64 k, .int .i64 n, s], .bool (putV (.mk ka na la) q (.mk kb nb lb)).isSome] ∧ pz (putV (.mk ka na la) q (.mk kb nb lb)) = .mk k n l ∧ FS H.n H' (.mk k n l) [.int .i64 k, .int .i64 n, s] ∧ Ext H H')) : Fin Try.prog orc 30 [.agg [.int .i64 (ka), .int .i64 (na), sa], sp, .agg [.int .i64 (kb), .int .i64 (nb), sb]] H0 (fun r H' => ∃ k n l s, r = .tup [.agg [.int .i64 k, .int .i64 n, s], .bool (putV (.mk ka na la) ps (.mk kb nb lb)).isSome] ∧ pz (putV (.mk ka na la) ps (.mk kb nb lb)) = .mk k n l ∧ FS H0.n H' (.mk k n l) [.int .i64 k, .int .i64 n, s] ∧ Ext H0 H') := by
  have E0 := Ext.refl W0
  refine fin_of Try.func30 rfl (by rw [Try.ntmps30]; simp) (ho _ rfl _ _) ?_
  rw [Try.ntmps30]
  refine w_seq ?_
  refine w_region ?_
  refine o_nw W0 (a_box (by simp only [ev, envOf, val_set, ofValue, ofCell, ↓reduceIte, Nat.reduceEqDiff] <;> rfl)) rfl rfl rfl (by simp) ?_; intro H1 n1 W1 X1 A1
  have A1 : H1.at H0.n = some (.row [.int .i64 (ka), .int .i64 (na), sa] 24 false none) := A1
  have E1 := E0.trans X1
  have g1 : H0.n ≤ H0.n := E0.n
  refine o_nw W1 (a_box (by simp only [ev, envOf, val_set, ofValue, ofCell, ↓reduceIte, Nat.reduceEqDiff] <;> rfl)) rfl rfl rfl (by simp) ?_; intro H2 n2 W2 X2 A2
  have A2 : H2.at H1.n = some (.row [.int .i64 (kb), .int .i64 (nb), sb] 24 false none) := A2
  have E2 := E1.trans X2
  have g2 : H0.n ≤ H1.n := E1.n
  have A1 := X2.keep _ _ A1
  refine o_nw W2 (a_alloc Ty.zero24) rfl rfl rfl (by simp) ?_; intro H3 n3 W3 X3 A3
  have A3 : H3.at H2.n = some (.row [.int .i64 (0), .int .i64 (0), .nils] 24 false none) := A3
  have E3 := E2.trans X3
  have g3 : H0.n ≤ H2.n := E2.n
  have A1 := X3.keep _ _ A1
  have A2 := X3.keep _ _ A2
  refine o_rd (r_assign (by simp only [ev, envOf, val_set, ofValue, ofCell, ↓reduceIte, Nat.reduceEqDiff] <;> rfl)) rfl rfl ?_
  refine o_nil ?_
  refine w_seq ?_
  refine w_seq ?_
  refine w_region ?_
  refine o_rd (r_move (by simp only [ev, envOf, val_set, ofValue, ofCell, ↓reduceIte, Nat.reduceEqDiff] <;> rfl)) rfl rfl ?_
  refine o_rd (r_len (n := ps.length) Try.underlying28 (by simp only [ev, envOf, val_set, ofValue, ofCell, ↓reduceIte, Nat.reduceEqDiff] <;> rfl) hP.1.lenOf) rfl rfl ?_
  refine o_rd (r_eq (a := ((ps.length : Nat) : Int)) (b := 0) (by simp only [ev, envOf, val_set, ofValue, ofCell, ↓reduceIte, Nat.reduceEqDiff] <;> rfl) (by simp only [ev, envOf, val_set, ofValue, ofCell, ↓reduceIte, Nat.reduceEqDiff] <;> rfl)) rfl rfl ?_
  refine o_nil ?_
  refine w_cond (by simp only [ev, envOf, val_set, ofValue, ofCell, ↓reduceIte, Nat.reduceEqDiff] <;> rfl) (fun hc4 => ?_) (fun hc4 => ?_)
  · have hc4 := dec_t hc4
    refine w_seq ?_
    refine w_region ?_
    refine o_rd (r_loadN (cs := [.int .i64 (kb), .int .i64 (nb), sb]) Ty.agg24 Ty.csz24 (by simp only [ev, envOf, val_set, ofValue, ofCell, ↓reduceIte, Nat.reduceEqDiff] <;> rfl) (read_mt A2 (Nat.le_of_ble_eq_true rfl))) rfl rfl ?_
    refine o_cl rfl rfl (by simp only [evs, ev, envOf, val_set, ofValue, ofCell, ↓reduceIte, Nat.reduceEqDiff] <;> rfl) rfl (ownR_fin ho (.mk kb nb lb) hM kb nb lb rfl _ W3 _ (.mk _ _ _ _ (hB.ext E3))) rfl rfl ?_; rintro _ H5 ⟨ys, yb, yf, ycs, rfl, hyO, hyQ, hyb, hyf, X5⟩
    have W5 := X5.wf; have E5 := E3.trans X5
    have A1 := X5.keep _ _ A1
    have A2 := X5.keep _ _ A2
    have A3 := X5.keep _ _ A3
    have n5 := X5.n
    have hFS := FS.mk (k := kb) (i := nb) hyO hyQ hyb hyf hB.bound
    have hoy := FS.one hFS
    have hylt := hyO.lt W5
    refine o_st W5 (by simp only [ev, envOf, val_set, ofValue, ofCell, ↓reduceIte, Nat.reduceEqDiff] <;> rfl) (by simp only [ev, envOf, val_set, ofValue, ofCell, ↓reduceIte, Nat.reduceEqDiff] <;> rfl) A3 Ty.csz24 rfl (Nat.le_of_ble_eq_true rfl) (by first | rfl | (exact ones3 hoz) | (exact ones3 hoy)) rfl rfl ?_; intro H6 n6 W6 A6 K6
    have A6 : H6.at H2.n = some (.row [.int .i64 (kb), .int .i64 (nb), ys] 24 false none) := A6
    have E6 := Ext.put W0 E5 (by have := E5.n; omega) K6 n6 W6
    have A1 := K6.own A1 (by omega)
    have A2 := K6.own A2 (by omega)
    refine o_rd (r_assign (by simp only [ev, envOf, val_set, ofValue, ofCell, ↓reduceIte, Nat.reduceEqDiff] <;> rfl)) rfl rfl ?_
    refine o_nil ?_
    have hr7 : H6.read (.mt H2.n) 0 3 = some [.int .i64 (kb), .int .i64 (nb), ys] := read_mt A6 (Nat.le_of_ble_eq_true rfl)
    refine w_ret ⟨.inr rfl, rfl, .tup [.agg [.int .i64 (kb), .int .i64 (nb), ys], .bool (true)], (show resultA Try.prog [.cell 6 24, .tmp 7] _ = _ by simp only [resultA, resultsA, envOf, val_set, ↓reduceIte, Nat.reduceEqDiff, Option.map_some, hr7, Ty.agg24, Ty.csz24] <;> rfl), ?_⟩
    try dsimp only
    obtain rfl : ps = [] := by cases ps with | nil => rfl | cons _ _ => exfalso; simp at hc4; try omega
    exact ⟨kb, nb, lb, ys, rfl, rfl, FS.lower (FS.put hFS K6 (by omega)) (by omega), E6⟩
  · have hc4 := dec_f hc4
    refine w_skip ?_
    refine w_seq ?_
    refine w_seq ?_
    refine w_draw (ms := [0, 0, 2, 6, 15, 31]) (ord := [0, 1, 2, 3, 4, 5]) (by kernel_rfl) (by kernel_rfl) (by kernel_rfl) ?_
    refine d_rd rfl (r_loadN (cs := [.int .i64 (ka), .int .i64 (na), sa]) Ty.agg24 Ty.csz24 (by simp only [ev, envOf, val_set, ofValue, ofCell, ↓reduceIte, Nat.reduceEqDiff] <;> rfl) (read_mt A1 (Nat.le_of_ble_eq_true rfl))) rfl rfl ?_
    refine d_rd rfl (r_move (by simp only [ev, envOf, val_set, ofValue, ofCell, ↓reduceIte, Nat.reduceEqDiff] <;> rfl)) rfl rfl ?_
    obtain ⟨i, p, rfl⟩ : ∃ i p, ps = i :: p := by cases ps with | nil => simp at hc4 | cons i p => exact ⟨i, p, rfl⟩
    obtain ⟨loc2, off2, cap2, rfl, hr2⟩ := hP.1.get (i := 0) (by simp)
    have hr2 : H0.read loc2 (off2 + 0 * 1) 1 = some [.int .i64 i] := hr2
    have hcut := hP.2 _ _ _ _ rfl
    have hcp : (i :: p).length ≤ cap2 := by cases hP.1 with | sl _ _ _ _ _ hc _ => exact hc
    refine d_rd rfl (r_indexAddr Try.underlying28 Ty.csz3 (by simp only [ev, envOf, val_set, ofValue, ofCell, ↓reduceIte, Nat.reduceEqDiff] <;> rfl) (by simp only [ev, envOf, val_set, ofValue, ofCell, ↓reduceIte, Nat.reduceEqDiff] <;> rfl) (show 0 < _ by simp)) rfl rfl ?_
    refine d_rd rfl (r_load1 Ty.agg3 (by simp only [ev, envOf, val_set, ofValue, ofCell, ↓reduceIte, Nat.reduceEqDiff] <;> rfl) (Ext.read (H := H0) (by assumption) hr2)) rfl rfl ?_
    refine d_cl rfl rfl rfl (by simp only [evs, ev, envOf, val_set, ofValue, ofCell, ↓reduceIte, Nat.reduceEqDiff] <;> rfl) rfl (goes_fin ho W3 ka na i la sa (hS.ext E3)) rfl rfl ?_; rintro _ H8 ⟨rfl, X8⟩
    have W8 := X8.wf; have E8 := E3.trans X8
    have A1 := X8.keep _ _ A1
    have A2 := X8.keep _ _ A2
    have A3 := X8.keep _ _ A3
    have n8 := X8.n
    refine ⟨re_forcedL (M := 15) (I := 3) rfl rfl (by decide) (re_forcedL (M := 15) (I := 2) rfl rfl (by decide) (re_forcedL (M := 15) (I := 1) rfl rfl (by decide) (re_forcedL (M := 15) (I := 0) rfl rfl (by decide) (re_nil)))), ?_⟩
    refine d_rd rfl (r_not (by simp only [ev, envOf, val_set, ofValue, ofCell, ↓reduceIte, Nat.reduceEqDiff] <;> rfl)) rfl rfl ?_
    refine d_nil ?_
    refine w_cond (by simp only [ev, envOf, val_set, ofValue, ofCell, ↓reduceIte, Nat.reduceEqDiff] <;> rfl) (fun hc9 => ?_) (fun hc9 => ?_)
    · skip
      refine w_seq ?_
      refine w_region ?_
      refine o_rd (r_build (cs := [.int .i64 (0), .int .i64 (0), .nils]) Ty.zero24 Ty.pl24 (by simp only [evParts, ev, envOf, val_set, ofValue, ofCell, ↓reduceIte, Nat.reduceEqDiff] <;> rfl) rfl) rfl rfl ?_
      refine o_st W8 (by simp only [ev, envOf, val_set, ofValue, ofCell, ↓reduceIte, Nat.reduceEqDiff] <;> rfl) (by simp only [ev, envOf, val_set, ofValue, ofCell, ↓reduceIte, Nat.reduceEqDiff] <;> rfl) A3 Ty.csz24 rfl (Nat.le_of_ble_eq_true rfl) (by first | rfl | (exact ones3 hoz) | (exact ones3 hoy)) rfl rfl ?_; intro H10 n10 W10 A10 K10
      have A10 : H10.at H2.n = some (.row [.int .i64 (0), .int .i64 (0), .nils] 24 false none) := A10
      have E10 := Ext.put W0 E8 (by have := E8.n; omega) K10 n10 W10
      have A1 := K10.own A1 (by omega)
      have A2 := K10.own A2 (by omega)
      refine o_rd (r_assign (by simp only [ev, envOf, val_set, ofValue, ofCell, ↓reduceIte, Nat.reduceEqDiff] <;> rfl)) rfl rfl ?_
      refine o_nil ?_
      have hr11 : H10.read (.mt H2.n) 0 3 = some [.int .i64 (0), .int .i64 (0), .nils] := read_mt A10 (Nat.le_of_ble_eq_true rfl)
      refine w_ret ⟨.inr rfl, rfl, .tup [.agg [.int .i64 (0), .int .i64 (0), .nils], .bool (false)], (show resultA Try.prog [.cell 6 24, .tmp 7] _ = _ by simp only [resultA, resultsA, envOf, val_set, ↓reduceIte, Nat.reduceEqDiff, Option.map_some, hr11, Ty.agg24, Ty.csz24] <;> rfl), ?_⟩
      try dsimp only
      have hgo : goesB ka la.length i = false := by cases hq : goesB ka la.length i with | false => rfl | true => rw [hq] at hc9; cases hc9
      have hst := goes_step (na := na) hgo
      exact ⟨0, 0, [], .nils, by simp only [putV, hst]; rfl, by simp only [putV, hst, pz, Option.getD], FS.zero, E10⟩
    · skip
      refine w_skip ?_
      refine w_seq ?_
      refine w_draw (ms := [0, 1, 0, 4, 12, 31, 63, 0, 128, 0, 1023, 2047, 4095, 4095, 0, 24575, 65535]) (ord := [0, 1, 2, 3, 4, 5, 6, 7, 8, 9, 14, 10, 11, 12, 13, 15, 16]) (by kernel_rfl) (by kernel_rfl) (by kernel_rfl) ?_
      have hgo : goesB ka la.length i = true := by cases hq : goesB ka la.length i with | true => rfl | false => rw [hq] at hc9; cases hc9
      obtain ⟨j, rfl, hj, hst⟩ := goes_yes (na := na) hgo
      obtain ⟨loc1, off1, cap1, csx, rfl, hr1, hva⟩ := hS.get hj
      obtain ⟨xk, xn, xl, xs, rfl, hx, hxs⟩ := hva.inv
      have hcx := V.cnt_mem (List.getElem_mem hj); rw [hx] at hcx; have hNN := hN; simp only [V.cnt] at hNN
      refine d_rd rfl (r_fieldAddr Ty.fo24_2 (by simp only [ev, envOf, val_set, ofValue, ofCell, ↓reduceIte, Nat.reduceEqDiff] <;> rfl)) rfl rfl ?_
      refine d_rd rfl (r_load1 (v := .sl loc1 (off1) (la.length) cap1) Ty.agg22 (by simp only [ev, envOf, val_set, ofValue, ofCell, ↓reduceIte, Nat.reduceEqDiff] <;> rfl) (read_mt A1 (Nat.le_of_ble_eq_true rfl))) rfl rfl ?_
      refine d_rd rfl (r_move (by simp only [ev, envOf, val_set, ofValue, ofCell, ↓reduceIte, Nat.reduceEqDiff] <;> rfl)) rfl rfl ?_
      refine d_rd rfl (r_indexAddr Try.underlying28 Ty.csz3 (by simp only [ev, envOf, val_set, ofValue, ofCell, ↓reduceIte, Nat.reduceEqDiff] <;> rfl) (by simp only [ev, envOf, val_set, ofValue, ofCell, ↓reduceIte, Nat.reduceEqDiff] <;> rfl) (show 0 < _ by simp)) rfl rfl ?_
      refine d_rd rfl (r_load1 Ty.agg3 (by simp only [ev, envOf, val_set, ofValue, ofCell, ↓reduceIte, Nat.reduceEqDiff] <;> rfl) (Ext.read (H := H0) (by assumption) hr2)) rfl rfl ?_
      refine d_rd rfl (r_indexAddr Try.underlying22 Ty.csz24 (by simp only [ev, envOf, val_set, ofValue, ofCell, ↓reduceIte, Nat.reduceEqDiff] <;> rfl) (by simp only [ev, envOf, val_set, ofValue, ofCell, ↓reduceIte, Nat.reduceEqDiff] <;> rfl) hj) rfl rfl ?_
      refine d_rd rfl (r_loadN Ty.agg24 Ty.csz24 (by simp only [ev, envOf, val_set, ofValue, ofCell, ↓reduceIte, Nat.reduceEqDiff] <;> rfl) (Ext.read (H := H0) (by assumption) hr1)) rfl rfl ?_
      refine d_rd rfl (r_move (by simp only [ev, envOf, val_set, ofValue, ofCell, ↓reduceIte, Nat.reduceEqDiff] <;> rfl)) rfl rfl ?_
      refine d_rd rfl (r_sliceFrom (j := 1) Try.underlying28 Ty.csz3 (by simp only [ev, envOf, val_set, ofValue, ofCell, ↓reduceIte, Nat.reduceEqDiff] <;> rfl) (by simp only [ev, envOf, val_set, ofValue, ofCell, ↓reduceIte, Nat.reduceEqDiff] <;> rfl) (by simp) (by assumption) (cutOk_ext (H := H0) (by assumption) hcut)) rfl rfl ?_
      refine d_rd rfl (r_loadN (cs := [.int .i64 (kb), .int .i64 (nb), sb]) Ty.agg24 Ty.csz24 (by simp only [ev, envOf, val_set, ofValue, ofCell, ↓reduceIte, Nat.reduceEqDiff] <;> rfl) (read_mt A2 (Nat.le_of_ble_eq_true rfl))) rfl rfl ?_
      refine d_nw rfl W8 (a_alloc Ty.zero24) rfl rfl rfl (by simp) ?_; intro H12 n12 W12 X12 A12
      have A12 : H12.at H8.n = some (.row [.int .i64 (0), .int .i64 (0), .nils] 24 false none) := A12
      have E12 := E8.trans X12
      have g12 : H0.n ≤ H8.n := E8.n
      have A1 := X12.keep _ _ A1
      have A2 := X12.keep _ _ A2
      have A3 := X12.keep _ _ A3
      refine ⟨re_same (r_loadN (cs := [.int .i64 (kb), .int .i64 (nb), sb]) Ty.agg24 Ty.csz24 (by simp only [ev, envOf, val_set, ofValue, ofCell, ↓reduceIte, Nat.reduceEqDiff] <;> rfl) (read_mt A2 (Nat.le_of_ble_eq_true rfl))) (re_same (r_sliceFrom (j := 1) Try.underlying28 Ty.csz3 (by simp only [ev, envOf, val_set, ofValue, ofCell, ↓reduceIte, Nat.reduceEqDiff] <;> rfl) (by simp only [ev, envOf, val_set, ofValue, ofCell, ↓reduceIte, Nat.reduceEqDiff] <;> rfl) (by simp) (by assumption) (cutOk_ext (H := H0) (by assumption) hcut)) (re_same (r_move (by simp only [ev, envOf, val_set, ofValue, ofCell, ↓reduceIte, Nat.reduceEqDiff] <;> rfl)) (re_same (r_loadN Ty.agg24 Ty.csz24 (by simp only [ev, envOf, val_set, ofValue, ofCell, ↓reduceIte, Nat.reduceEqDiff] <;> rfl) (Ext.read (H := H0) (by assumption) hr1)) (re_same (r_indexAddr Try.underlying22 Ty.csz24 (by simp only [ev, envOf, val_set, ofValue, ofCell, ↓reduceIte, Nat.reduceEqDiff] <;> rfl) (by simp only [ev, envOf, val_set, ofValue, ofCell, ↓reduceIte, Nat.reduceEqDiff] <;> rfl) hj) (re_same (r_load1 Ty.agg3 (by simp only [ev, envOf, val_set, ofValue, ofCell, ↓reduceIte, Nat.reduceEqDiff] <;> rfl) (Ext.read (H := H0) (by assumption) hr2)) (re_same (r_indexAddr Try.underlying28 Ty.csz3 (by simp only [ev, envOf, val_set, ofValue, ofCell, ↓reduceIte, Nat.reduceEqDiff] <;> rfl) (by simp only [ev, envOf, val_set, ofValue, ofCell, ↓reduceIte, Nat.reduceEqDiff] <;> rfl) (show 0 < _ by simp)) (re_same (r_move (by simp only [ev, envOf, val_set, ofValue, ofCell, ↓reduceIte, Nat.reduceEqDiff] <;> rfl)) (re_same (r_load1 (v := .sl loc1 (off1) (la.length) cap1) Ty.agg22 (by simp only [ev, envOf, val_set, ofValue, ofCell, ↓reduceIte, Nat.reduceEqDiff] <;> rfl) (read_mt A1 (Nat.le_of_ble_eq_true rfl))) (re_same (r_fieldAddr Ty.fo24_2 (by simp only [ev, envOf, val_set, ofValue, ofCell, ↓reduceIte, Nat.reduceEqDiff] <;> rfl)) (re_nil)))))))))), ?_⟩
      refine d_cl rfl rfl rfl (by simp only [evs, ev, envOf, val_set, ofValue, ofCell, ↓reduceIte, Nat.reduceEqDiff] <;> rfl) rfl (ih p (by simp) _ W12 xk xn xl xs _ _ (hxs.ext E12) ((SIc.tail hP).ext E12) (hB.ext E12) (by omega)) rfl rfl ?_; rintro _ H13 ⟨zk, zn, zl, zs, rfl, hz, hFS, X13⟩
      have W13 := X13.wf; have E13 := E12.trans X13
      have A1 := X13.keep _ _ A1
      have A2 := X13.keep _ _ A2
      have A3 := X13.keep _ _ A3
      have A12 := X13.keep _ _ A12
      have n13 := X13.n
      refine ⟨re_forcedL (M := 1023) (I := 9) rfl rfl (by decide) (re_forcedL (M := 1023) (I := 8) rfl rfl (by decide) (re_forcedL (M := 1023) (I := 7) rfl rfl (by decide) (re_forcedL (M := 1023) (I := 6) rfl rfl (by decide) (re_forcedL (M := 1023) (I := 5) rfl rfl (by decide) (re_forcedL (M := 1023) (I := 4) rfl rfl (by decide) (re_forcedL (M := 1023) (I := 3) rfl rfl (by decide) (re_forcedL (M := 1023) (I := 2) rfl rfl (by decide) (re_forcedL (M := 1023) (I := 1) rfl rfl (by decide) (re_forcedL (M := 1023) (I := 0) rfl rfl (by decide) (re_nil)))))))))), ?_⟩
      have hoz := FS.one hFS
      refine d_rd rfl (r_move (by simp only [ev, envOf, val_set, ofValue, ofCell, ↓reduceIte, Nat.reduceEqDiff] <;> rfl)) rfl rfl ?_
      refine d_rd rfl (r_extract (by simp only [ev, envOf, val_set, ofValue, ofCell, ↓reduceIte, Nat.reduceEqDiff] <;> rfl) rfl) rfl rfl ?_
      refine d_rd rfl (r_extract (by simp only [ev, envOf, val_set, ofValue, ofCell, ↓reduceIte, Nat.reduceEqDiff] <;> rfl) rfl) rfl rfl ?_
      refine d_st rfl W13 (by simp only [ev, envOf, val_set, ofValue, ofCell, ↓reduceIte, Nat.reduceEqDiff] <;> rfl) (by simp only [ev, envOf, val_set, ofValue, ofCell, ↓reduceIte, Nat.reduceEqDiff] <;> rfl) A12 Ty.csz24 rfl (Nat.le_of_ble_eq_true rfl) (by first | rfl | (exact ones3 hoz) | (exact ones3 hoy)) rfl rfl ?_; intro H14 n14 W14 A14 K14
      have A14 : H14.at H8.n = some (.row [.int .i64 (zk), .int .i64 (zn), zs] 24 false none) := A14
      have E14 := Ext.put W0 E13 (by have := E13.n; omega) K14 n14 W14
      have A1 := K14.own A1 (by omega)
      have A2 := K14.own A2 (by omega)
      have A3 := K14.own A3 (by omega)
      refine ⟨re_same (r_extract (by simp only [ev, envOf, val_set, ofValue, ofCell, ↓reduceIte, Nat.reduceEqDiff] <;> rfl) rfl) (re_forcedL (M := 24575) (I := 12) rfl rfl (by decide) (re_forcedL (M := 24575) (I := 11) rfl rfl (by decide) (re_forcedL (M := 24575) (I := 9) rfl rfl (by decide) (re_forcedL (M := 24575) (I := 8) rfl rfl (by decide) (re_forcedL (M := 24575) (I := 7) rfl rfl (by decide) (re_forcedL (M := 24575) (I := 6) rfl rfl (by decide) (re_forcedL (M := 24575) (I := 5) rfl rfl (by decide) (re_forcedL (M := 24575) (I := 4) rfl rfl (by decide) (re_forcedL (M := 24575) (I := 3) rfl rfl (by decide) (re_forcedL (M := 24575) (I := 2) rfl rfl (by decide) (re_forcedL (M := 24575) (I := 1) rfl rfl (by decide) (re_forcedL (M := 24575) (I := 0) rfl rfl (by decide) (re_nil))))))))))))), ?_⟩
      refine d_rd rfl (r_assign (by simp only [ev, envOf, val_set, ofValue, ofCell, ↓reduceIte, Nat.reduceEqDiff] <;> rfl)) rfl rfl ?_
      refine d_nil ?_
      refine w_seq ?_
      refine w_seq ?_
      refine w_region ?_
      refine o_rd (r_move (by simp only [ev, envOf, val_set, ofValue, ofCell, ↓reduceIte, Nat.reduceEqDiff] <;> rfl)) rfl rfl ?_
      refine o_rd (r_not (by simp only [ev, envOf, val_set, ofValue, ofCell, ↓reduceIte, Nat.reduceEqDiff] <;> rfl)) rfl rfl ?_
      refine o_nil ?_
      refine w_cond (by simp only [ev, envOf, val_set, ofValue, ofCell, ↓reduceIte, Nat.reduceEqDiff] <;> rfl) (fun hc15 => ?_) (fun hc15 => ?_)
      · skip
        refine w_seq ?_
        refine w_region ?_
        refine o_rd (r_build (cs := [.int .i64 (0), .int .i64 (0), .nils]) Ty.zero24 Ty.pl24 (by simp only [evParts, ev, envOf, val_set, ofValue, ofCell, ↓reduceIte, Nat.reduceEqDiff] <;> rfl) rfl) rfl rfl ?_
        refine o_st W14 (by simp only [ev, envOf, val_set, ofValue, ofCell, ↓reduceIte, Nat.reduceEqDiff] <;> rfl) (by simp only [ev, envOf, val_set, ofValue, ofCell, ↓reduceIte, Nat.reduceEqDiff] <;> rfl) A3 Ty.csz24 rfl (Nat.le_of_ble_eq_true rfl) (by first | rfl | (exact ones3 hoz) | (exact ones3 hoy)) rfl rfl ?_; intro H16 n16 W16 A16 K16
        have A16 : H16.at H2.n = some (.row [.int .i64 (0), .int .i64 (0), .nils] 24 false none) := A16
        have E16 := Ext.put W0 E14 (by have := E14.n; omega) K16 n16 W16
        have A1 := K16.own A1 (by omega)
        have A2 := K16.own A2 (by omega)
        have A14 := K16.own A14 (by omega)
        refine o_rd (r_assign (by simp only [ev, envOf, val_set, ofValue, ofCell, ↓reduceIte, Nat.reduceEqDiff] <;> rfl)) rfl rfl ?_
        refine o_nil ?_
        have hr17 : H16.read (.mt H2.n) 0 3 = some [.int .i64 (0), .int .i64 (0), .nils] := read_mt A16 (Nat.le_of_ble_eq_true rfl)
        refine w_ret ⟨.inr rfl, rfl, .tup [.agg [.int .i64 (0), .int .i64 (0), .nils], .bool (false)], (show resultA Try.prog [.cell 6 24, .tmp 7] _ = _ by simp only [resultA, resultsA, envOf, val_set, ↓reduceIte, Nat.reduceEqDiff, Option.map_some, hr17, Ty.agg24, Ty.csz24] <;> rfl), ?_⟩
        try dsimp only
        have hno : putV (.mk xk xn xl) p (.mk kb nb lb) = none := by cases hq : putV (.mk xk xn xl) p (.mk kb nb lb) with | none => rfl | some w => rw [hq] at hc15; cases hc15
        exact ⟨0, 0, [], .nils, by simp only [putV, hst, hx, hno]; rfl, by simp only [putV, hst, hx, hno, pz, Option.map, Option.getD], FS.zero, E16⟩
      · skip
        refine w_skip ?_
        refine w_seq ?_
        refine w_region ?_
        refine o_rd (r_loadN (cs := [.int .i64 (ka), .int .i64 (na), .sl loc1 (off1) (la.length) cap1]) Ty.agg24 Ty.csz24 (by simp only [ev, envOf, val_set, ofValue, ofCell, ↓reduceIte, Nat.reduceEqDiff] <;> rfl) (read_mt A1 (Nat.le_of_ble_eq_true rfl))) rfl rfl ?_
        refine o_cl rfl rfl (by simp only [evs, ev, envOf, val_set, ofValue, ofCell, ↓reduceIte, Nat.reduceEqDiff] <;> rfl) rfl (ownR_fin ho (.mk ka na la) hN ka na la rfl _ W14 _ (.mk _ _ _ _ (hS.ext E14))) rfl rfl ?_; rintro _ H18 ⟨ys, yb, yf, ycs, rfl, hyO, hyQ, hyb, hyf, X18⟩
        have W18 := X18.wf; have E18 := E14.trans X18
        have A1 := X18.keep _ _ A1
        have A2 := X18.keep _ _ A2
        have A3 := X18.keep _ _ A3
        have A14 := X18.keep _ _ A14
        have n18 := X18.n
        have hylt := hyO.lt W18
        have hoy := FS.one (FS.mk (k := ka) (i := na) hyO hyQ hyb hyf hS.bound)
        refine o_nw W18 (a_alloc Ty.zero24) rfl rfl rfl (by simp) ?_; intro H19 n19 W19 X19 A19
        have A19 : H19.at H18.n = some (.row [.int .i64 (0), .int .i64 (0), .nils] 24 false none) := A19
        have E19 := E18.trans X19
        have g19 : H0.n ≤ H18.n := E18.n
        have A1 := X19.keep _ _ A1
        have A2 := X19.keep _ _ A2
        have A3 := X19.keep _ _ A3
        have A14 := X19.keep _ _ A14
        refine o_st W19 (by simp only [ev, envOf, val_set, ofValue, ofCell, ↓reduceIte, Nat.reduceEqDiff] <;> rfl) (by simp only [ev, envOf, val_set, ofValue, ofCell, ↓reduceIte, Nat.reduceEqDiff] <;> rfl) A19 Ty.csz24 rfl (Nat.le_of_ble_eq_true rfl) (by first | rfl | (exact ones3 hoz) | (exact ones3 hoy)) rfl rfl ?_; intro H20 n20 W20 A20 K20
        have A20 : H20.at H18.n = some (.row [.int .i64 (ka), .int .i64 (na), ys] 24 false none) := A20
        have E20 := Ext.put W0 E19 (by have := E19.n; omega) K20 n20 W20
        have A1 := K20.own A1 (by omega)
        have A2 := K20.own A2 (by omega)
        have A3 := K20.own A3 (by omega)
        have A14 := K20.own A14 (by omega)
        refine o_nil ?_
        refine w_seq ?_
        refine w_draw (ms := [0, 1, 0, 4, 12, 0, 63, 127]) (ord := [0, 1, 2, 3, 4, 5, 6, 7]) (by kernel_rfl) (by kernel_rfl) (by kernel_rfl) ?_
        have ES := Ext.put W18 X19 (Nat.le_refl _) K20 n20 W20
        replace hyO := hyO.ext ES; replace hyQ := QL.ext hyQ ES
        obtain ⟨oo, co, rfl, hco, hrd⟩ := hyO.read
        refine d_rd rfl (r_fieldAddr Ty.fo24_2 (by simp only [ev, envOf, val_set, ofValue, ofCell, ↓reduceIte, Nat.reduceEqDiff] <;> rfl)) rfl rfl ?_
        refine d_rd rfl (r_load1 (v := .sl (.mt yb) (oo) (la.length) co) Ty.agg22 (by simp only [ev, envOf, val_set, ofValue, ofCell, ↓reduceIte, Nat.reduceEqDiff] <;> rfl) (read_mt A20 (Nat.le_of_ble_eq_true rfl))) rfl rfl ?_
        refine d_rd rfl (r_move (by simp only [ev, envOf, val_set, ofValue, ofCell, ↓reduceIte, Nat.reduceEqDiff] <;> rfl)) rfl rfl ?_
        refine d_rd rfl (r_indexAddr Try.underlying28 Ty.csz3 (by simp only [ev, envOf, val_set, ofValue, ofCell, ↓reduceIte, Nat.reduceEqDiff] <;> rfl) (by simp only [ev, envOf, val_set, ofValue, ofCell, ↓reduceIte, Nat.reduceEqDiff] <;> rfl) (show 0 < _ by simp)) rfl rfl ?_
        have EZ : ∀ c x, H12.n ≤ c → c < H13.n → H13.at c = some x → H20.at c = some x := fun c x h1 h2 h3 => (K20.own (X19.keep _ _ (X18.keep _ _ (K14.own h3 (by omega)))) (by omega))
        refine d_rd rfl (r_load1 Ty.agg3 (by simp only [ev, envOf, val_set, ofValue, ofCell, ↓reduceIte, Nat.reduceEqDiff] <;> rfl) (Ext.read (H := H0) (by assumption) hr2)) rfl rfl ?_
        refine d_rd rfl (r_loadN (cs := [.int .i64 (zk), .int .i64 (zn), zs]) Ty.agg24 Ty.csz24 (by simp only [ev, envOf, val_set, ofValue, ofCell, ↓reduceIte, Nat.reduceEqDiff] <;> rfl) (read_mt A14 (Nat.le_of_ble_eq_true rfl))) rfl rfl ?_
        refine d_rd rfl (r_indexAddr Try.underlying22 Ty.csz24 (by simp only [ev, envOf, val_set, ofValue, ofCell, ↓reduceIte, Nat.reduceEqDiff] <;> rfl) (by simp only [ev, envOf, val_set, ofValue, ofCell, ↓reduceIte, Nat.reduceEqDiff] <;> rfl) hj) rfl rfl ?_
        refine d_stO rfl W20 hyO hj (by simp only [ev, envOf, val_set, ofValue, ofCell, ↓reduceIte, Nat.reduceEqDiff] <;> rfl) (by simp only [ev, envOf, val_set, ofValue, ofCell, ↓reduceIte, Nat.reduceEqDiff] <;> rfl) Ty.csz24 rfl (by exact ones3 hoz) rfl rfl ?_; intro H21 n21 W21 O21 K21
        have E21 := Ext.keeps W0 E20 ⟨by omega, fun f hf => by have := hyf f hf; omega⟩ K21 (by omega) W21
        have hzp := FS.past (m := H12.n) hFS W13 EZ K21 (by omega) (fun g hg => by have := hyf g hg; omega) (by omega)
        have hQ21 := QL.set (QL.step (QL.lower (m := H12.n) hyQ (by omega)) W20 K21 (.inl rfl) (.inr (.inl rfl))) hzp hj
        have A1 := K21.at A1 (by omega) rfl
        have A2 := K21.at A2 (by omega) rfl
        have A3 := K21.at A3 (by omega) rfl
        have A14 := K21.at A14 (by omega) rfl
        have A20 := K21.at A20 (by omega) rfl
        refine ⟨re_forcedL (M := 127) (I := 6) rfl rfl (by decide) (re_forcedL (M := 127) (I := 5) rfl rfl (by decide) (re_forcedL (M := 127) (I := 4) rfl rfl (by decide) (re_forcedL (M := 127) (I := 3) rfl rfl (by decide) (re_forcedL (M := 127) (I := 2) rfl rfl (by decide) (re_forcedL (M := 127) (I := 1) rfl rfl (by decide) (re_forcedL (M := 127) (I := 0) rfl rfl (by decide) (re_nil))))))), ?_⟩
        refine d_nil ?_
        refine w_seq ?_
        refine w_region ?_
        refine o_rd (r_loadN (cs := [.int .i64 (ka), .int .i64 (na), .sl (.mt yb) (oo) (la.length) co]) Ty.agg24 Ty.csz24 (by simp only [ev, envOf, val_set, ofValue, ofCell, ↓reduceIte, Nat.reduceEqDiff] <;> rfl) (read_mt A20 (Nat.le_of_ble_eq_true rfl))) rfl rfl ?_
        refine o_st W21 (by simp only [ev, envOf, val_set, ofValue, ofCell, ↓reduceIte, Nat.reduceEqDiff] <;> rfl) (by simp only [ev, envOf, val_set, ofValue, ofCell, ↓reduceIte, Nat.reduceEqDiff] <;> rfl) A3 Ty.csz24 rfl (Nat.le_of_ble_eq_true rfl) (by first | rfl | (exact ones3 hoz) | (exact ones3 hoy)) rfl rfl ?_; intro H22 n22 W22 A22 K22
        have A22 : H22.at H2.n = some (.row [.int .i64 (ka), .int .i64 (na), .sl (.mt yb) (oo) (la.length) co] 24 false none) := A22
        have E22 := Ext.put W0 E21 (by have := E21.n; omega) K22 n22 W22
        have A1 := K22.own A1 (by omega)
        have A2 := K22.own A2 (by omega)
        have A14 := K22.own A14 (by omega)
        have A20 := K22.own A20 (by omega)
        refine o_rd (r_assign (by simp only [ev, envOf, val_set, ofValue, ofCell, ↓reduceIte, Nat.reduceEqDiff] <;> rfl)) rfl rfl ?_
        refine o_nil ?_
        have hr23 : H22.read (.mt H2.n) 0 3 = some [.int .i64 (ka), .int .i64 (na), .sl (.mt yb) (oo) (la.length) co] := read_mt A22 (Nat.le_of_ble_eq_true rfl)
        refine w_ret ⟨.inr rfl, rfl, .tup [.agg [.int .i64 (ka), .int .i64 (na), .sl (.mt yb) (oo) (la.length) co], .bool (true)], (show resultA Try.prog [.cell 6 24, .tmp 7] _ = _ by simp only [resultA, resultsA, envOf, val_set, ↓reduceIte, Nat.reduceEqDiff, Option.map_some, hr23, Ty.agg24, Ty.csz24] <;> rfl), ?_⟩
        try dsimp only
        obtain ⟨w, hw⟩ : ∃ w, putV (.mk xk xn xl) p (.mk kb nb lb) = some w := by cases hq : putV (.mk xk xn xl) p (.mk kb nb lb) with | some w => exact ⟨w, rfl⟩ | none => rw [hq] at hc15; cases hc15
        rw [hw] at hz; simp only [pz, Option.getD] at hz; subst hz
        have hO2 := (O21.keep fun x hx _ => K22.own hx (by omega)); have hQ2 := (QL.put hQ21 K22 (by omega))
        exact ⟨ka, na, la.set j (.mk zk zn zl), _, by simp only [putV, hst, hx, hw]; rfl, by simp only [putV, hst, hx, hw, pz, Option.map, Option.getD, Int.toNat_natCast], FS.lower (FS.mk (by rw [List.length_set]; exact hO2) hQ2 (by omega) (fun g hg => by have := hyf g hg; omega) (by rw [List.length_set]; have := hS.bound; omega)) (by omega), E22⟩
theorem withR_fin (ho : NoOrcBut [9, 35, 36] orc) (kb nb : Int) (lb : List V) (hM : (V.mk kb nb lb).cnt ≤ 1000000) : ∀ (m : Nat) (ps : List Int), ps.length < m → ∀ (H : AH), Wf H → ∀ (ka na : Int) (la : List V) (sa sp sb : AV), SA H la sa → SIc H ps sp → SA H lb sb → (V.mk ka na la).cnt ≤ 1000000 → VI.Fin Try.prog orc 30 [.agg [.int .i64 ka, .int .i64 na, sa], sp, .agg [.int .i64 kb, .int .i64 nb, sb]] H (fun r H' => ∃ k n l s, r = .tup [.agg [.int .i64 k, .int .i64 n, s], .bool (putV (.mk ka na la) ps (.mk kb nb lb)).isSome] ∧ pz (putV (.mk ka na la) ps (.mk kb nb lb)) = .mk k n l ∧ FS H.n H' (.mk k n l) [.int .i64 k, .int .i64 n, s] ∧ Ext H H')
  | 0, _, h, _, _, _, _, _, _, _, _, _, _, _, _ => by omega
  | m + 1, ps, h, H, W, ka, na, la, sa, sp, sb, hS, hP, hB, hN => withR_step ho W ka na kb nb la lb sa sp sb ps hS hP hB hN hM (fun q hq H' W' ka' na' la' sa' sq sb' h1 h2 h3 h4 => withR_fin ho kb nb lb hM m q (by omega) H' W' ka' na' la' sa' sq sb' h1 h2 h3 h4)
end Go.Proofs.Ytenfjdkeikjhlaa.Vs
