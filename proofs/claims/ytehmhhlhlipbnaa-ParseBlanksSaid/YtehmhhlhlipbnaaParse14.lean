/-
 Parse itself.
-/
import Derived.Test.YtehmhhlhlipbnaaParse13
set_option autoImplicit false
set_option linter.unusedVariables false
set_option linter.unusedSimpArgs false
namespace Go.Proofs.Ytehmhhlhlipbnaa.Vs
open Go.VI Go.Proofs
variable {orc : CallF}
theorem TS.ext {H H' : AH} (E : Ext H H') {l : List TK} {s : AV} (h : TS H l s) : TS H' l s := by
 rcases h with h | ⟨loc, off, cap, h1, h2, h3⟩
 ·exact .inl h
 ·exact .inr ⟨loc, off, cap, h1, h2, E.read h3⟩
theorem NXL.nl {H : AH} {rb : Nat} {G : LK → Prop} : ∀ {l : List ND} {cs : List AV}, NXL H rb G l cs → (∀ v ∈ l, v.ks.length ≤ 4611686018427387904) → NL H l cs
 | _, _, .nil, _ => .nil
 | _, _, .cons v l s x cs ho hb hx k, h => .cons v l _ cs (NA.of (own_si ho (h v List.mem_cons_self))) (k.nl fun w hw => h w (List.mem_cons_of_mem _ hw))
theorem NX.ns {H0 H : AH} {rb : Nat} {G : LK → Prop} {ns : List ND} {nv : AV} {x : LK} (h : NX H0 H rb G ns nv x) (hl : ns.length ≤ 4611686018427387904) (hk : ∀ v ∈ ns, v.ks.length ≤ 4611686018427387904) : NS H ns nv := by
 rcases h with ⟨rfl, rfl, _⟩ | ⟨h1, h2, h3, h4, cs, O, k⟩
 ·exact .nil
 ·obtain ⟨off, cap, rfl, hc, hr⟩ := O.read
  exact .sl ns (.mt x.1) off cap cs hr hc hl (k.nl hk)
theorem NXL.nlG {H H' : AH} {rb b : Nat} {G : LK → Prop} (hG : G (b, none)) (K : Keeps H H' b none) : ∀ {l : List ND} {cs : List AV}, NXL H rb G l cs → NXL H' rb G l cs
 | _, _, .nil => .nil
 | _, _, .cons v l s x cs ho hb hx k => .cons v l s x cs (ho.keep fun o h _ => K.own h (hx _ hG).1) hb hx (k.nlG hG K)
theorem NX.putG {H0 H H' : AH} {rb b : Nat} {G : LK → Prop} {ns : List ND} {nv : AV} {x : LK} (hG : G (b, none)) (K : Keeps H H' b none) (h : NX H0 H rb G ns nv x) : NX H0 H' rb G ns nv x := by
 rcases h with h | ⟨h1, h2, h3, h4, cs, h5, h6⟩
 ·exact .inl h
 ·exact .inr ⟨h1, h2, h3, h4, cs, h5.keep (fun o h _ => K.own h (h4 _ hG).1), h6.nlG (.inl hG) K⟩
/-- the first node that is too high -/
def deepF (nest : Int) : List Int → List ND → Option Int
 | h :: r, v :: l => if nest < h then some v.at_ else deepF nest r l
 | _, _ => none
theorem deep_step {nest : Int} {hs : List Int} {ns : List ND} {i : Nat} (h1 : i < hs.length) (h2 : i < ns.length) : deepF nest (hs.drop i) (ns.drop i) = if nest < hs[i] then some ns[i].at_ else deepF nest (hs.drop (i + 1)) (ns.drop (i + 1)) := by
 rw [List.drop_eq_getElem_cons h1, List.drop_eq_getElem_cons h2]; rfl
def fuelP (T : List TK) : Nat := 20 * (T.length + 2)
def parseF (tx : Nat → List UInt8) (src : List UInt8) (nest : Int) : List ND × Int × Int :=
 if (scanF tx src).2.2 ≠ 0 then ([], (scanF tx src).2.1, (scanF tx src).2.2) else
 match pProgram tx src (scanF tx src).1 (fuelP (scanF tx src).1) ⟨0, []⟩ with
 | none => ([], 0, 0)
 | some (.error a) => ([], a, 30)
 | some (.ok (_, s)) => match deepF nest (hts s.ns s.ns.length) s.ns with
  | some a => ([], a, 31)
  | none => (s.ns, 0, 0)
theorem TS.one {H : AH} {l : List TK} {s : AV} (h : TS H l s) : s.one = true := by
 rcases h with ⟨_, rfl⟩ | ⟨loc, off, cap, rfl, _⟩ <;> rfl
theorem one_cells {v : AV} (h : v.one = true) : v.cells = [v] := by cases v <;> first | rfl | (simp [AV.one] at h)
theorem fill_rd {sv tv : AV} (h1 : sv.one = true) (h2 : tv.one = true) : fillA ([(0, 1), (1, 1), (2, 1), (3, 1)][·]?) (AV.agg [.nils, .nils, .int .i64 0, .nils]).cells [(0, sv), (1, tv)] = some [sv, tv, .int .i64 0, .nils] := by
 have e1 := one_cells h1
 have e2 := one_cells h2
 simp only [fillA, List.getElem?_cons_succ, List.getElem?_cons_zero, e1, e2, List.length_cons, List.length_nil]
 rfl
theorem int_at {H : AH} {loc : VI.Loc} {off n : Nat} {l : List Int} (h : H.read loc off n = some (l.map (AV.int .i64))) (hn : l.length = n) {i : Nat} (hi : i < l.length) : H.read loc (off + i * 1) 1 = some [.int .i64 l[i]] := by
 rw [read_part h (by omega), Nat.mul_one]
 congr 1
 rw [List.drop_eq_getElem_cons (by simpa using hi)]
 simp
section
variable {tx : Nat → List UInt8} {src : List UInt8} {nest a : Int} {v : Int} {s : PS}
theorem parseF_scan (h1 : (scanF tx src).2.2 ≠ 0) : parseF tx src nest = ([], (scanF tx src).2.1, (scanF tx src).2.2) := by unfold parseF; rw [if_pos h1]
theorem parseF_bad (h1 : (scanF tx src).2.2 = 0) (h2 : pProgram tx src (scanF tx src).1 (fuelP (scanF tx src).1) ⟨0, []⟩ = some (.error a)) : parseF tx src nest = ([], a, 30) := by
 unfold parseF; rw [if_neg (fun h => h h1), h2]
theorem parseF_deep (h1 : (scanF tx src).2.2 = 0) (h2 : pProgram tx src (scanF tx src).1 (fuelP (scanF tx src).1) ⟨0, []⟩ = some (.ok (v, s))) (h3 : deepF nest (hts s.ns s.ns.length) s.ns = some a) : parseF tx src nest = ([], a, 31) := by
 unfold parseF; rw [if_neg (fun h => h h1), h2]; simp only [h3]
theorem parseF_ok (h1 : (scanF tx src).2.2 = 0) (h2 : pProgram tx src (scanF tx src).1 (fuelP (scanF tx src).1) ⟨0, []⟩ = some (.ok (v, s))) (h3 : deepF nest (hts s.ns s.ns.length) s.ns = none) : parseF tx src nest = (s.ns, 0, 0) := by
 unfold parseF; rw [if_neg (fun h => h h1), h2]; simp only [h3]
end
structure ParseOk (tx : Nat → List UInt8) (src : List UInt8) : Prop where
 t : TOk src (scanF tx src).1
 n : pProgram tx src (scanF tx src).1 (fuelP (scanF tx src).1) ⟨0, []⟩ ≠ none
 o : ∀ v s, pProgram tx src (scanF tx src).1 (fuelP (scanF tx src).1) ⟨0, []⟩ = some (.ok (v, s)) → 0 < s.ns.length ∧ s.ns.length ≤ 70000 ∧ ∀ v ∈ s.ns, v.ks.length < 1000000000
set_option maxRecDepth 100000 in
set_option maxHeartbeats 4000000 in
theorem parse_fin (ho : NoOrcBut [7, 21, 69, 81] orc) {H0 : AH} (W0 : Wf H0) (ho81 : ∃ sg, ∀ H, orc 81 [] H = some (.ret sg, H)) (tx : Nat → List UInt8) (ho69 : ∀ k : Nat, k < 67 → ∀ H, orc 69 [.int .i64 (k : Int)] H = some (.ret (.str (tx k)), H)) (htr : TryOk orc tx) (src : List UInt8) (sv : AV) (hS : SB H0 5 src sv) (nest : Int) (hP : (scanF tx src).2.2 = 0 → ParseOk tx src) : Fin Try.prog orc 11 [sv, .int .i64 (nest)] H0 (fun r H' => ∃ s, r = .tup [s, .agg [.int .i64 (parseF tx src nest).2.1, .int .i64 (parseF tx src nest).2.2]] ∧ NS H' (parseF tx src nest).1 s ∧ Ext H0 H') := by
 have E0 := Ext.refl W0
 refine fin_of Try.func11 rfl (by rw [Try.ntmps11]; simp) (ho _ rfl _ _) ?_
 rw [Try.ntmps11]
 refine w_sr ?_
 refine o_as ?_
 refine o_nw W0 (a_alloc Ty.zero34) rfl rfl rfl (by simp) ?_; intro H1 n1 W1 X1 A1
 have A1 : H1.at H0.n = some (.row [.int .i64 (0), .int .i64 (0)] 34 false none) := A1
 have E1 := E0.trans X1
 have g1 : H0.n ≤ H0.n := E0.n
 refine o_nil ?_
 refine w_sr ?_
 refine o_mv ?_
 refine o_cl rfl rfl tS rfl (scan_fin ho W1 ho81 tx ho69 src sv (hS.ext E1)) rfl rfl ?_; rintro _ H2 ⟨tv, rfl, hTS, X2⟩
 have W2 := X2.wf; have E2 := E1.trans X2
 have A1 := X2.keep _ _ A1
 have n2 := X2.n
 refine o_mv ?_
 refine o_rd (r_extract tE rfl) rfl rfl ?_
 refine o_rd (r_extract tE rfl) rfl rfl ?_
 refine o_nw W2 (a_alloc Ty.zero34) rfl rfl rfl (by simp) ?_; intro H3 n3 W3 X3 A3
 have A3 : H3.at H2.n = some (.row [.int .i64 (0), .int .i64 (0)] 34 false none) := A3
 have E3 := E2.trans X3
 have g3 : H0.n ≤ H2.n := E2.n
 have A1 := X3.keep _ _ A1
 refine o_as ?_
 refine o_st W3 tE tE A3 Ty.csz34 rfl (Nat.le_of_ble_eq_true rfl) (by rfl) rfl rfl ?_; intro H4 n4 W4 A4 K4
 have A4 : H4.at H2.n = some (.row [.int .i64 ((scanF tx src).2.1), .int .i64 ((scanF tx src).2.2)] 34 false none) := A4
 have E4 := Ext.put W0 E3 (by have := E3.n; omega) K4 n4 W4
 have A1 := K4.own A1 (by omega)
 refine o_nil ?_
 refine w_seq ?_
 refine w_sr ?_
 refine o_rd (r_fieldAddr Ty.fo34_1 tE) rfl rfl ?_
 refine o_rd (r_load1 (v := .int .i64 ((scanF tx src).2.2)) Ty.agg32 tE (read_mt A4 (Nat.le_of_ble_eq_true rfl))) rfl rfl ?_
 refine o_rd (r_ne (a := (scanF tx src).2.2) (b := 0) tE tE) rfl rfl ?_
 refine o_nil ?_
 refine w_cond tE (fun hB5 => ?_) (fun hB5 => ?_)
 ·have hc5 := dec_t hB5
  refine w_seq ?_
  refine w_draw (ms := [0, 0, 3]) (ord := [0, 1, 2]) (by kernel_rfl) (by kernel_rfl) (by kernel_rfl) ?_
  refine d_rd rfl (r_loadN (cs := [.int .i64 ((scanF tx src).2.1), .int .i64 ((scanF tx src).2.2)]) Ty.agg34 Ty.csz34 tE (read_mt A4 (Nat.le_of_ble_eq_true rfl))) rfl rfl ?_
  refine d_rd rfl (r_assign tE) rfl rfl ?_
  refine d_st rfl W4 tE tE A1 Ty.csz34 rfl (Nat.le_of_ble_eq_true rfl) (by rfl) rfl rfl ?_; intro H6 n6 W6 A6 K6
  have A6 : H6.at H0.n = some (.row [.int .i64 ((scanF tx src).2.1), .int .i64 ((scanF tx src).2.2)] 34 false none) := A6
  have E6 := Ext.put W0 E4 (by have := E4.n; omega) K6 n6 W6
  have A4 := K6.own A4 (by omega)
  refine ⟨re_forcedL (M := 3) (I := 1) rfl rfl (by decide) (re_forcedL (M := 3) (I := 0) rfl rfl (by decide) (re_nil)), ?_⟩
  refine d_nil ?_
  have hr7 : H6.read (.mt H0.n) 0 2 = some [.int .i64 ((scanF tx src).2.1), .int .i64 ((scanF tx src).2.2)] := read_mt A6 (Nat.le_of_ble_eq_true rfl)
  refine w_ret ⟨.inr rfl, rfl, .tup [.nils, .agg [.int .i64 ((scanF tx src).2.1), .int .i64 ((scanF tx src).2.2)]], (show resultA Try.prog [.tmp 4, .cell 5 34] _ = _ by simp only [resultA, resultsA, envOf, val_set, ↓reduceIte, Nat.reduceEqDiff, Option.map_some, hr7, Ty.agg34, Ty.csz34] <;> rfl), ?_⟩
  try dsimp only
  have hpf : parseF tx src nest = ([], (scanF tx src).2.1, (scanF tx src).2.2) := by unfold parseF; rw [if_pos (by assumption)]
  exact ⟨.nils, by rw [hpf], by rw [hpf]; exact .nil, E6⟩
 ·have hc5 := dec_fn hB5
  refine w_skip ?_
  refine w_sr ?_
  refine o_mv ?_
  refine o_mv ?_
  have WB := W4; have EB := E4
  refine o_rd (r_build (cs := [sv, tv, .int .i64 (0), .nils]) Ty.zero58 Ty.pl58 tP (fill_rd hS.one hTS.one)) rfl rfl ?_
  have ab8 := A1
  have ab9 := A4
  refine o_nw W4 (a_box tE) rfl rfl rfl (by simp) ?_; intro H10 n10 W10 X10 A10
  have A10 : H10.at H4.n = some (.row [sv, tv, .int .i64 (0), .nils] 58 false none) := A10
  have E10 := E4.trans X10
  have g10 : H0.n ≤ H4.n := E4.n
  have A1 := X10.keep _ _ A1
  have A4 := X10.keep _ _ A4
  refine o_as ?_
  refine o_nil ?_
  refine w_seq ?_
  refine w_sr ?_
  refine o_mv ?_
  have hpo := hP (by omega)
  have hTB : TS H4 (scanF tx src).1 tv := hTS.ext ((Ext.put W2 X3 (by omega) K4 n4 W4))
  have RS0 : RS H4 sv tv (scanF tx src).1.length (H4.n) (fun z => z = (H0.n, none)) H10 ⟨0, []⟩ (H4.n, none) := ⟨W10, X10, Nat.le_refl _, Nat.zero_le _, ⟨.nils, A10, .inl ⟨rfl, rfl, rfl⟩⟩, fun y h => by subst h; exact ⟨by show H0.n ≠ _; omega, by show H0.n < _; omega, fun g hg => by cases hg⟩⟩
  refine o_cl rfl rfl tS rfl (htr WB W10 X10 src sv (scanF tx src).1 tv _ _ _ _ (hS.ext EB) hTB hpo.t RS0 (fuelP (scanF tx src).1) hpo.n) rfl rfl ?_; rintro r9 H9 ⟨W9, E9, hq⟩
  have EE9 := EB.trans E9
  rcases hq with ⟨v9, st9, x9, hres9, rfl, R9, F9⟩ | ⟨a9, x9, hres9, rfl, F9⟩
  ·skip
   have A1 := E9.keep _ _ (show H4.at (H0.n) = _ from ab8)
   have A4 := E9.keep _ _ (show H4.at (H2.n) = _ from ab9)
   obtain ⟨nv9, hA9, hN9⟩ := R9.at_
   have hps := hpo.o _ _ hres9
   have hNS : NS H9 st9.ns nv9 := hN9.ns (by omega) (fun v hv => by have := hps.2.2 v hv; omega)
   refine o_mv ?_
   refine o_rd (r_extract tE rfl) rfl rfl ?_
   refine o_rd (r_extract tE rfl) rfl rfl ?_
   refine o_as ?_
   refine o_as ?_
   refine o_nil ?_
   refine w_sr ?_
   refine o_mv ?_
   refine o_rd (r_not tE) rfl rfl ?_
   refine o_nil ?_
   refine w_cond (t := false) tE (fun h => by cases h) (fun _ => ?_)
   refine w_skip ?_
   refine w_seq ?_
   refine w_sr ?_
   refine o_mv ?_
   refine o_rd (r_nilChk tE) rfl rfl ?_
   refine o_rd (r_fieldAddr Ty.fo58_3 tE) rfl rfl ?_
   refine o_rd (r_load1 (v := nv9) Ty.agg31 tE (read_mt hA9 (Nat.le_of_ble_eq_true rfl))) rfl rfl ?_
   refine o_cl rfl rfl tS rfl (height_fin ho W9 st9.ns nv9 (hNS.ext (Ext.refl W9)) (by omega) hps.1) rfl rfl ?_; rintro _ H11 ⟨locH, offH, capH, rfl, X11, hrH⟩
   have W11 := X11.wf; have E11 := EE9.trans X11
   have A1 := X11.keep _ _ A1
   have A4 := X11.keep _ _ A4
   have hA9 := X11.keep _ _ hA9
   have n11 := X11.n
   refine o_rd (r_len (n := st9.ns.length) Try.underlying39 tE rfl) rfl rfl ?_
   refine o_mv ?_
   refine o_nil ?_
   refine w_block ?_
   refine w_loop (fun m s => ∃ (e : Env) (H : AH) (i : Nat), s = ⟨e, H, []⟩ ∧ e.val 1 = .int .i64 (nest) ∧ e.val 4 = .nils ∧ e.val 5 = .ptr (.mt (H0.n)) (0) ∧ e.val 8 = .ptr (.mt (H4.n)) (0) ∧ e.val 39 = .sl locH (offH) (st9.ns.length) capH ∧ e.val 40 = .int .i64 (((st9.ns.length : Nat) : Int)) ∧ e.val 41 = .int .i64 (((i : Nat) : Int)) ∧ Wf H ∧ Ext H0 H ∧ H.at (H0.n) = some (.row [.int .i64 (0), .int .i64 (0)] 34 false none) ∧ H.at (H2.n) = some (.row [.int .i64 ((scanF tx src).2.1), .int .i64 ((scanF tx src).2.2)] 34 false none) ∧ H.at (H4.n) = some (.row [sv, tv, .int .i64 (((st9.a : Nat) : Int)), nv9] 58 false none) ∧ (m = st9.ns.length - i) ∧ (deepF nest ((hts st9.ns st9.ns.length).drop i) (st9.ns.drop i) = deepF nest (hts st9.ns st9.ns.length) st9.ns) ∧ (H.read locH offH st9.ns.length = some ((hts st9.ns st9.ns.length).map (AV.int .i64))) ∧ (Ext H9 H)) (st9.ns.length - 0) ⟨_, H11, 0, rfl, tV, tV, tV, tV, tV, tV, tV, W11, E11, A1, A4, hA9, rfl, rfl, hrH, X11⟩ ?_
   intro m s hi
   obtain ⟨e, H12, i, rfl, vt1, vt4, vt5, vt8, vt39, vt40, vt41, W12, E12, A1, A4, hA9, him, hdp, hrL, hE9⟩ := hi
   have vA := And.intro vt1 (And.intro vt4 (And.intro vt5 (And.intro vt8 (And.intro vt39 (And.intro vt40 vt41)))))
   have l12_0 := W12.lt A1
   have l12_1 := W12.lt A4
   have l12_2 := W12.lt hA9
   refine w_sr ?_
   refine o_rd (r_lt (a := ((i : Nat) : Int)) (b := ((st9.ns.length : Nat) : Int)) tE tE) rfl rfl ?_
   refine o_nil ?_
   refine w_seq ?_
   refine w_cond tE (fun hB13 => ?_) (fun hB13 => ?_)
   ·have hc13 := dec_t hB13
    refine w_skip ?_
    refine w_seq ?_
    refine w_block ?_
    refine w_sr ?_
    refine o_mv ?_
    have hil : i < st9.ns.length := by omega
    have hil2 : i < (hts st9.ns st9.ns.length).length := by rw [hts_len]; exact hil
    have hrd := int_at hrL (by rw [hts_len]) hil2
    refine o_rd (r_indexAddr Try.underlying39 Ty.csz3 tE tE hil) rfl rfl ?_
    refine o_rd (r_load1 Ty.agg3 tE hrd) rfl rfl ?_
    refine o_as ?_
    refine o_as ?_
    refine o_nil ?_
    refine w_sr ?_
    refine o_mv ?_
    refine o_mv ?_
    refine o_rd (r_gt (a := ((hts st9.ns st9.ns.length)[i]'hil2)) (b := nest) tE tE) rfl rfl ?_
    refine o_nil ?_
    refine w_cond tE (fun hB14 => ?_) (fun hB14 => ?_)
    ·have hc14 := dec_t hB14
     refine w_seq ?_
     refine w_draw (ms := [0, 1, 3, 7, 0, 31, 63, 127, 255, 0, 1023]) (ord := [0, 1, 2, 3, 4, 5, 6, 7, 8, 9, 10]) (by kernel_rfl) (by kernel_rfl) (by kernel_rfl) ?_
     refine d_rd rfl (r_move tE) rfl rfl ?_
     refine d_rd rfl (r_nilChk tE) rfl rfl ?_
     refine d_rd rfl (r_fieldAddr Ty.fo58_3 tE) rfl rfl ?_
     refine d_rd rfl (r_load1 (v := nv9) Ty.agg31 tE (read_mt hA9 (Nat.le_of_ble_eq_true rfl))) rfl rfl ?_
     refine d_rd rfl (r_move tE) rfl rfl ?_
     obtain ⟨loc1, off1, cap1, sk1, hnv1, hr1, _⟩ := hNS.get hil
     subst hnv1
     refine d_rd rfl (r_indexAddr Try.underlying31 Ty.csz51 tE tE hil) rfl rfl ?_
     refine d_rd rfl (r_fieldAddr Ty.fo51_1 tE) rfl rfl ?_
     refine d_rd rfl (r_load1 Ty.agg3 tE ((read_part (Ext.read (H := H9) (by assumption) hr1) (o := 1) (m := 1) (by decide)).trans rfl)) rfl rfl ?_
     refine d_rd rfl (r_build (cs := [.int .i64 ((st9.ns[i]'hil).at_), .int .i64 (31)]) Ty.zero34 Ty.pl34 tP rfl) rfl rfl ?_
     refine d_rd rfl (r_assign tE) rfl rfl ?_
     refine d_st rfl W12 tE tE A1 Ty.csz34 rfl (Nat.le_of_ble_eq_true rfl) (by rfl) rfl rfl ?_; intro H15 n15 W15 A15 K15
     have A15 : H15.at H0.n = some (.row [.int .i64 ((st9.ns[i]'hil).at_), .int .i64 (31)] 34 false none) := A15
     have E15 := Ext.put W0 E12 (by have := E12.n; omega) K15 n15 W15
     have A4 := K15.own A4 (by omega)
     have hA9 := K15.own hA9 (by omega)
     refine ⟨re_forcedL (M := 1023) (I := 9) rfl rfl (by decide) (re_forcedL (M := 1023) (I := 8) rfl rfl (by decide) (re_forcedL (M := 1023) (I := 7) rfl rfl (by decide) (re_forcedL (M := 1023) (I := 6) rfl rfl (by decide) (re_forcedL (M := 1023) (I := 5) rfl rfl (by decide) (re_forcedL (M := 1023) (I := 4) rfl rfl (by decide) (re_forcedL (M := 1023) (I := 3) rfl rfl (by decide) (re_forcedL (M := 1023) (I := 2) rfl rfl (by decide) (re_forcedL (M := 1023) (I := 1) rfl rfl (by decide) (re_forcedL (M := 1023) (I := 0) rfl rfl (by decide) (re_nil)))))))))), ?_⟩
     refine d_nil ?_
     have hr16 : H15.read (.mt H0.n) 0 2 = some [.int .i64 ((st9.ns[i]'hil).at_), .int .i64 (31)] := read_mt A15 (Nat.le_of_ble_eq_true rfl)
     refine w_ret ⟨.inr rfl, rfl, .tup [.nils, .agg [.int .i64 ((st9.ns[i]'hil).at_), .int .i64 (31)]], (show resultA Try.prog [.tmp 4, .cell 5 34] _ = _ by simp only [resultA, resultsA, envOf, val_set, ↓reduceIte, Nat.reduceEqDiff, Option.map_some, vt1, vt4, vt5, vt8, vt39, vt40, vt41, hr16, Ty.agg34, Ty.csz34] <;> rfl), ?_⟩
     try dsimp only
     have hpf : parseF tx src nest = ([], (st9.ns[i]'hil).at_, 31) := parseF_deep (by assumption) hres9 (hdp.symm.trans ((deep_step hil2 hil).trans (if_pos hc14)))
     exact ⟨.nils, by rw [hpf], by rw [hpf]; exact .nil, E15⟩
    ·have hc14 := dec_f hB14
     refine w_skip ?_
     refine w_region ?_
     refine o_rd (r_addE (a := ((i : Nat) : Int)) (b := 1) (c := ((i + 1 : Nat) : Int)) tE tE (by omega) (by omega) (by omega)) rfl rfl ?_
     refine o_mv ?_
     refine o_nil ?_
     exact ⟨st9.ns.length - (i + 1), (by omega), _, H12, i + 1, rfl, tV, tV, tV, tV, tV, tV, tV, W12, E12, A1, A4, hA9, rfl, ((deep_step hil2 hil).symm.trans hdp |> fun h => by rw [deep_step hil2 hil, if_neg hc14] at hdp; exact hdp), hrL, hE9⟩
   ·have hc13 := dec_f hB13
    first | refine w_exit (blk_exit ?_) | refine w_exit (show (0 = 0 → _) ∧ (0 ≠ 0 → _) from ⟨fun _ => ?_, fun c => absurd rfl c⟩)
    refine w_sr ?_
    refine o_mv ?_
    refine o_rd (r_nilChk tE) rfl rfl ?_
    refine o_rd (r_fieldAddr Ty.fo58_3 tE) rfl rfl ?_
    refine o_rd (r_load1 (v := nv9) Ty.agg31 tE (read_mt hA9 (Nat.le_of_ble_eq_true rfl))) rfl rfl ?_
    refine o_rd (r_build (cs := [.int .i64 (0), .int .i64 (0)]) Ty.zero34 Ty.pl34 tP rfl) rfl rfl ?_
    refine o_as ?_
    refine o_st W12 tE tE A1 Ty.csz34 rfl (Nat.le_of_ble_eq_true rfl) (by rfl) rfl rfl ?_; intro H17 n17 W17 A17 K17
    have A17 : H17.at H0.n = some (.row [.int .i64 (0), .int .i64 (0)] 34 false none) := A17
    have E17 := Ext.put W0 E12 (by have := E12.n; omega) K17 n17 W17
    have A4 := K17.own A4 (by omega)
    have hA9 := K17.own hA9 (by omega)
    refine o_nil ?_
    have hr18 : H17.read (.mt H0.n) 0 2 = some [.int .i64 (0), .int .i64 (0)] := read_mt A17 (Nat.le_of_ble_eq_true rfl)
    refine w_ret ⟨.inr rfl, rfl, .tup [nv9, .agg [.int .i64 (0), .int .i64 (0)]], (show resultA Try.prog [.tmp 4, .cell 5 34] _ = _ by simp only [resultA, resultsA, envOf, val_set, ↓reduceIte, Nat.reduceEqDiff, Option.map_some, vt1, vt4, vt5, vt8, vt39, vt40, vt41, hr18, Ty.agg34, Ty.csz34] <;> rfl), ?_⟩
    try dsimp only
    have hpf : parseF tx src nest = (st9.ns, 0, 0) := parseF_ok (by assumption) hres9 (hdp.symm.trans (by rw [List.drop_of_length_le (by rw [hts_len]; omega), List.drop_of_length_le (by omega)]; rfl))
    exact ⟨nv9, by rw [hpf], by rw [hpf]; exact (NX.putG (G := fun z => z = (H0.n, none)) rfl K17 (hN9.ext hE9)).ns (show st9.ns.length ≤ _ by omega) (fun v hv => by have := hps.2.2 v hv; omega), E17⟩
  ·skip
   have A1 := E9.keep _ _ (show H4.at (H0.n) = _ from ab8)
   have A4 := E9.keep _ _ (show H4.at (H2.n) = _ from ab9)
   refine o_mv ?_
   refine o_rd (r_extract tE rfl) rfl rfl ?_
   refine o_rd (r_extract tE rfl) rfl rfl ?_
   refine o_as ?_
   refine o_as ?_
   refine o_nil ?_
   refine w_sr ?_
   refine o_mv ?_
   refine o_rd (r_not tE) rfl rfl ?_
   refine o_nil ?_
   refine w_cond (t := true) tE (fun _ => ?_) (fun h => by cases h)
   refine w_sr ?_
   refine o_mv ?_
   refine o_rd (r_build (cs := [.int .i64 (a9), .int .i64 (30)]) Ty.zero34 Ty.pl34 tP rfl) rfl rfl ?_
   refine o_as ?_
   refine o_st W9 tE tE A1 Ty.csz34 rfl (Nat.le_of_ble_eq_true rfl) (by rfl) rfl rfl ?_; intro H19 n19 W19 A19 K19
   have A19 : H19.at H0.n = some (.row [.int .i64 (a9), .int .i64 (30)] 34 false none) := A19
   have E19 := Ext.put W0 EE9 (by have := EE9.n; omega) K19 n19 W19
   have A4 := K19.own A4 (by omega)
   refine o_nil ?_
   have hr20 : H19.read (.mt H0.n) 0 2 = some [.int .i64 (a9), .int .i64 (30)] := read_mt A19 (Nat.le_of_ble_eq_true rfl)
   refine w_ret ⟨.inr rfl, rfl, .tup [.nils, .agg [.int .i64 (a9), .int .i64 (30)]], (show resultA Try.prog [.tmp 4, .cell 5 34] _ = _ by simp only [resultA, resultsA, envOf, val_set, ↓reduceIte, Nat.reduceEqDiff, Option.map_some, hr20, Ty.agg34, Ty.csz34] <;> rfl), ?_⟩
   try dsimp only
   have hpf : parseF tx src nest = ([], a9, 30) := parseF_bad (by assumption) hres9
   exact ⟨.nils, by rw [hpf], by rw [hpf]; exact .nil, E19⟩
end Go.Proofs.Ytehmhhlhlipbnaa.Vs
