/-
 The reader: a node is laid down.
-/
import Derived.Test.YtehmhhlhlipbnaaParse2
set_option autoImplicit false
set_option linter.unusedVariables false
set_option linter.unusedSimpArgs false
namespace Go.Proofs.Ytehmhhlhlipbnaa.Vs
open Go.VI Go.Proofs
variable {orc : CallF}
theorem si_src {H : AH} {l : List Int} {s : AV} (h : SI H l s) : srcCells H 1 s = some (l.length, l.map (AV.int .i64)) := by
 cases h with
 | nil => rfl
 | sl _ loc off cap hr hc hb => simp only [srcCells, Nat.mul_one, hr]
theorem own_one {H : AH} {el : TypeId} {e n b : Nat} {fm : Option Nat} {cs : List AV} {s : AV} (O : Own H el e s n cs b fm) : s.one = true := by
 obtain ⟨off, cap, h, _, _⟩ := O.read; rw [h]; rfl
theorem own_lenOf {H : AH} {el : TypeId} {e n b : Nat} {fm : Option Nat} {cs : List AV} {s : AV} (O : Own H el e s n cs b fm) : VI.lenOf s = some n := by
 obtain ⟨off, cap, h, _, _⟩ := O.read; rw [h]; rfl
theorem ones_ints : ∀ l : List Int, ones (l.map (AV.int .i64)) = true
 | [] => rfl
 | a :: r => by simp only [List.map_cons, ones, AV.one, ones_ints r, Bool.and_self]
def nodeCs (v : ND) (s : AV) : List AV := [.int .i64 v.k, .int .i64 v.at_, s, .str v.nm, .int .i64 v.n]
theorem NXL.snoc {H : AH} {rb : Nat} {G : LK → Prop} {v : ND} {s : AV} {x : LK} (ho : Own H 3 1 s v.ks.length (v.ks.map (AV.int .i64)) x.1 x.2) (hb : x.1 ≠ rb) (hx : ∀ y, G y → Ap x y) : ∀ {l : List ND} {cs : List AV}, NXL H rb G l cs → NXL H rb G (l ++ [v]) (cs ++ nodeCs v s)
 | _, _, .nil => .cons v [] s x [] ho hb hx .nil
 | _, _, .cons w l s' x' cs ho' hb' hx' k => by
  have := NXL.cons w (l ++ [v]) s' x' (cs ++ nodeCs v s) ho' hb' hx' (NXL.snoc ho hb hx k)
  simpa [List.append_assoc] using this
theorem NXL.move {H H' : AH} {rb : Nat} {G G' : LK → Prop} (hk : ∀ {s : AV} {n : Nat} {cs : List AV} {z : LK}, Own H 3 1 s n cs z.1 z.2 → z.1 ≠ rb → (∀ y, G y → Ap z y) → Own H' 3 1 s n cs z.1 z.2 ∧ ∀ y, G' y → Ap z y) :
  ∀ {l : List ND} {cs : List AV}, NXL H rb G l cs → NXL H' rb G' l cs
 | _, _, .nil => .nil
 | _, _, .cons v l s x cs ho hb hx k => .cons v l s x cs (hk ho hb hx).1 hb (hk ho hb hx).2 (NXL.move hk k)
/-- the nodes in memory, with their cells -/
def NC (H0 H : AH) (rb : Nat) (G : LK → Prop) (ns : List ND) (nv : AV) (x : LK) (cs : List AV) : Prop :=
 (ns = [] ∧ nv = .nils ∧ x = (rb, none) ∧ cs = []) ∨ (1 ≤ ns.length ∧ x.1 ≠ rb ∧ New H0 x.1 x.2 ∧ (∀ y, G y → Ap x y) ∧ Own H 51 5 nv ns.length cs x.1 x.2 ∧ NXL H rb (fun y => G y ∨ y = x) ns cs)
theorem NX.cells {H0 H : AH} {rb : Nat} {G : LK → Prop} {ns : List ND} {nv : AV} {x : LK} (h : NX H0 H rb G ns nv x) : ∃ cs, NC H0 H rb G ns nv x cs := by
 rcases h with ⟨h1, h2, h3⟩ | ⟨h1, h2, h3, h4, cs, h5, h6⟩
 ·exact ⟨[], .inl ⟨h1, h2, h3, rfl⟩⟩
 ·exact ⟨cs, .inr ⟨h1, h2, h3, h4, h5, h6⟩⟩
theorem NC.own {H0 H H' : AH} {rb : Nat} {G : LK → Prop} {ns : List ND} {nv : AV} {x : LK} {cs : List AV} (h : NC H0 H rb G ns nv x cs) (E : Ext H H') : (ns.length = 0 ∧ nv = .nils ∧ cs = []) ∨ Own H' 51 5 nv ns.length cs x.1 x.2 := by
 rcases h with ⟨h1, h2, h3, h4⟩ | ⟨h1, h2, h3, h4, h5, h6⟩
 ·exact .inl ⟨by rw [h1]; rfl, h2, h4⟩
 ·exact .inr (h5.ext E)
theorem nc_new {H0 H : AH} {rb : Nat} {G : LK → Prop} {ns : List ND} {nv : AV} {x : LK} {cs : List AV} (h : NC H0 H rb G ns nv x cs) (hr : H0.n ≤ rb) : New H0 x.1 x.2 := by
 rcases h with ⟨_, _, h, _⟩ | ⟨_, _, h, _⟩
 ·rw [h]; exact ⟨hr, fun g hg => by cases hg⟩
 ·exact h
theorem rb_keep {H0 HS H H' : AH} {rb : Nat} {G : LK → Prop} {ns : List ND} {nv : AV} {x : LK} {cs row : List AV} (h : NC H0 HS rb G ns nv x cs) (K : Keeps H H' x.1 x.2) (hA : H.at rb = some (.row row 58 false none)) (hn : nv = .nils → Ext H H') : H'.at rb = some (.row row 58 false none) := by
 rcases h with ⟨_, h, _, _⟩ | ⟨_, h, _⟩
 ·exact (hn h).keep _ _ hA
 ·exact K _ _ hA (Ne.symm h) (.inl rfl)
theorem node_rs {H0 HS H3 H4 H5 : AH} {sv tv nv s2 s4 : AV} {tn rb bk b' : Nat} {fk fm' : Option Nat} {G : LK → Prop} {st : PS} {x : LK} {cs : List AV} {v : ND} (R : RS H0 sv tv tn rb G HS st x) (hA : HS.at rb = some (.row [sv, tv, .int .i64 ((st.a : Nat) : Int), nv] 58 false none)) (hN : NC H0 HS rb G st.ns nv x cs) (E3 : Ext HS H3)
  (O1 : Own H3 3 1 s2 v.ks.length (v.ks.map (AV.int .i64)) bk fk) (hbk : HS.n ≤ bk) (hfk : ∀ g, fk = some g → HS.n ≤ g)
  (O2 : Own H4 51 5 s4 (st.ns.length + 1) (cs ++ nodeCs v s2) b' fm') (hb' : (b' = x.1 ∧ nv ≠ .nils) ∨ b' = H3.n) (hf' : fm' = none ∨ fm' = x.2 ∨ fm' = some H3.n) (K4 : Keeps H3 H4 x.1 x.2) (n4 : H3.n ≤ H4.n) (W4 : Wf H4)
  (K5 : Keeps H4 H5 rb none) (n5 : H5.n = H4.n) (W5 : Wf H5) (E5 : Ext H0 H5) (A5 : H5.at rb = some (.row [sv, tv, .int .i64 ((st.a : Nat) : Int), s4] 58 false none)) :
  RS H0 sv tv tn rb G H5 ⟨st.a, st.ns ++ [v]⟩ (b', fm') ∧ Fr2 rb HS x H5 (b', fm') := by
 have hrb := R.w.lt hA
 have hn3 := E3.n
 have hr0 := R.r0
 have hlk := O1.lt E3.wf
 have hxlt : x.1 < HS.n ∧ ∀ g, x.2 = some g → g < HS.n := by
  rcases hN with ⟨_, _, h, _⟩ | ⟨_, _, _, _, h, _⟩
  ·rw [h]; exact ⟨hrb, fun g hg => by cases hg⟩
  ·exact ⟨h.lt R.w, fun g hg => h.famlt R.w hg⟩
 have hF : Fr2 rb HS x H5 (b', fm') := by
  refine ⟨by omega, fun c o h h1 h2 h3 => K5.own (K4 c o (E3.keep _ _ h) h2 h3) h1, ?_, ?_⟩
  ·rcases hb' with ⟨h, _⟩ | h
   ·exact .inl h
   ·exact .inr (by rw [h]; exact hn3)
  ·rcases hf' with h | h | h
   ·exact .inl h
   ·exact .inr (.inl h)
   ·exact .inr (.inr ⟨_, h, hn3⟩)
 have hbr : b' ≠ rb := by
  rcases hb' with ⟨e, hnn⟩ | e
  ·rcases hN with ⟨_, h, _⟩ | ⟨_, h, _⟩
   ·exact absurd h hnn
   ·rw [e]; exact h
  ·omega
 have hb0 : H0.n ≤ b' ∧ ∀ g, fm' = some g → H0.n ≤ g := by
  have h0 := R.e.n
  refine ⟨?_, fun g hg => ?_⟩
  ·rcases hb' with ⟨e, hnn⟩ | e
   ·rcases hN with ⟨_, h, _⟩ | ⟨_, _, h, _⟩
    ·exact absurd h hnn
    ·rw [e]; exact h.1
   ·omega
  ·rcases hf' with e | e | e
   ·rw [e] at hg; cases hg
   ·rcases hN with ⟨_, _, h, _⟩ | ⟨_, _, h, _⟩
    ·rw [e, h] at hg; cases hg
    ·exact h.2 g (e ▸ hg)
   ·rw [e] at hg; injection hg with hg; omega
 -- what is apart from the nodes before is apart from them now
 have hstep : ∀ (z : LK), z.1 < H3.n → (∀ g, z.2 = some g → g < H3.n) → Ap z x → z.1 ≠ rb → Ap z (b', fm') := by
  intro z h1 h2 hA hz
  refine ⟨?_, ?_⟩
  ·rcases hb' with ⟨e, _⟩ | e
   ·show z.1 ≠ b'; rw [e]; exact hA.1
   ·show z.1 ≠ b'; omega
  ·rcases hf' with e | e | e
   ·cases hz2 : z.2 with
    | none => exact .inl rfl
    | some q => exact .inr (by rw [e]; simp)
   ·show z.2 = none ∨ z.2 ≠ fm'; rw [e]; exact hA.2
   ·cases hz2 : z.2 with
    | none => exact .inl rfl
    | some q => exact .inr (by rw [e]; intro c; injection c with c; have := h2 q hz2; omega)
 have hG : ∀ y, G y → Ap (b', fm') y := by
  intro y hy
  obtain ⟨g1, g2, g3⟩ := R.g y hy
  rcases hN with ⟨_, h, h3, _⟩ | ⟨_, _, _, h, _⟩
  ·refine Ap.symm ⟨?_, ?_⟩
   ·show y.1 ≠ b'
    rcases hb' with ⟨_, hnn⟩ | e
    ·exact absurd h hnn
    ·omega
   ·show y.2 = none ∨ y.2 ≠ fm'
    cases hy2 : y.2 with
    | none => exact .inl rfl
    | some q =>
     have := g3 q hy2
     rcases hf' with e | e | e
     ·exact .inr (by rw [e]; simp)
     ·exact .inr (by rw [e, h3]; simp)
     ·exact .inr (by rw [e]; intro c; injection c with c; omega)
  ·exact Ap.symm (hstep y (by omega) (fun g hg => by have := g3 g hg; omega) (Ap.symm (h y hy)) g1)
 -- the new node's kids
 have hAk : Ap (bk, fk) x := by
  refine ⟨by show bk ≠ x.1; omega, ?_⟩
  show fk = none ∨ fk ≠ x.2
  cases hq : fk with
  | none => exact .inl rfl
  | some q => exact .inr (fun c => by have := hfk q hq; have := hxlt.2 q c.symm; omega)
 have hbkrb : bk ≠ rb := by omega
 have hO5 : ∀ {s : AV} {m : Nat} {ds : List AV} {z : LK}, Own H3 3 1 s m ds z.1 z.2 → z.1 ≠ rb → Ap z x → Own H5 3 1 s m ds z.1 z.2 := by
  intro s m ds z O hz hA
  exact (O.keep (H' := H4) fun o ho hf => K4 _ _ ho hA.1 (by rw [hf]; exact hA.2)).keep fun o ho _ => K5.own ho hz
 refine ⟨⟨W5, E5, hr0, R.al, ⟨s4, A5, .inr ⟨by simp, hbr, ⟨hb0.1, hb0.2⟩, hG, cs ++ nodeCs v s2, ?_, ?_⟩⟩, fun y hy => ⟨(R.g y hy).1, by have := (R.g y hy).2.1; omega, fun g hg => by have := (R.g y hy).2.2 g hg; omega⟩⟩, hF⟩
 ·rw [List.length_append]; exact O2.keep fun o ho _ => K5.own ho hbr
 ·refine NXL.snoc (x := (bk, fk)) (hO5 (z := (bk, fk)) O1 hbkrb hAk) hbkrb ?_ ?_
  ·rintro y (hy | rfl)
   ·obtain ⟨g1, g2, g3⟩ := R.g y hy
    refine ⟨by show bk ≠ y.1; omega, ?_⟩
    show fk = none ∨ fk ≠ y.2
    cases hq : fk with
    | none => exact .inl rfl
    | some q => exact .inr (fun c => by have := hfk q hq; have := g3 q c.symm; omega)
   ·exact hstep (bk, fk) hlk (fun g hg => O1.famlt E3.wf hg) hAk hbkrb
  ·rcases hN with ⟨_, _, _, h⟩ | ⟨_, _, _, _, _, h⟩
   ·rename_i h0 _ _
    rw [h0, h]; exact .nil
   ·refine h.move fun {s m ds z} O hz hy => ?_
    have hzx := hy x (.inr rfl)
    have hzl := O.lt R.w
    have O3 := O.ext E3
    refine ⟨hO5 O3 hz hzx, ?_⟩
    rintro y (hy' | rfl)
    ·exact hy y (.inl hy')
    ·exact hstep z (by omega) (fun g hg => by have := O.famlt R.w hg; omega) hzx hz
set_option maxRecDepth 100000 in
set_option maxHeartbeats 4000000 in
theorem node_fin (ho : NoOrcBut [7, 21, 69, 81] orc) {H0 HS : AH} (W0 : Wf H0) (WS : Wf HS) (ES : Ext H0 HS) (src : List UInt8) (sv : AV) (T : List TK) (tv : AV) (rb : Nat) (G : LK → Prop) (st : PS) (x : LK) (hS : SB H0 5 src sv) (hT : TS H0 T tv) (hO : TOk src T) (hR : RS H0 sv tv T.length rb G HS st x) (k at1 nn : Int) (nm : List UInt8) (ks : List Int) (kv : AV) (hks : SI HS ks kv) (hnl : st.ns.length < 1000000000) (hkl : ks.length < 1000000000) : Fin Try.prog orc 52 [.ptr (.mt (rb)) (0), .int .i64 (k), .int .i64 (at1), .str (nm), .int .i64 (nn), kv] HS (fun r H' => OkR H0 sv tv T.length rb G HS x (mNode k at1 nm nn ks st) (AV.int .i64) r H') := by
 have E0 := ES
 obtain ⟨nv, hA, hN⟩ := hR.at_; have hr0 := hR.r0; have hTl := hO.len; have hal := hR.al; have hSb := hS.bound; have hrbl := WS.lt hA; obtain ⟨cs, hNC⟩ := hN.cells; have hA0 := hA
 refine fin_of Try.func52 rfl (by rw [Try.ntmps52]; simp) (ho _ rfl _ _) ?_
 rw [Try.ntmps52]
 refine w_sr ?_
 refine o_as ?_
 refine o_nil ?_
 refine w_seq ?_
 refine w_draw (ms := [0, 0, 2, 6, 14, 0, 0, 0, 0, 0, 0, 1536, 4064, 8160, 16382, 32767, 65535, 131071]) (ord := [0, 1, 2, 3, 4, 5, 6, 7, 8, 9, 10, 11, 12, 13, 14, 15, 16, 17]) (by kernel_rfl) (by kernel_rfl) (by kernel_rfl) ?_
 refine d_rd rfl (r_move tE) rfl rfl ?_
 refine d_rd rfl (r_move tE) rfl rfl ?_
 refine d_rd rfl (r_nilChk tE) rfl rfl ?_
 refine d_rd rfl (r_fieldAddr Ty.fo58_3 tE) rfl rfl ?_
 refine d_rd rfl (r_load1 (v := nv) Ty.agg31 tE (read_mt hA (Nat.le_of_ble_eq_true rfl))) rfl rfl ?_
 refine d_rd rfl (r_move tE) rfl rfl ?_
 refine d_rd rfl (r_move tE) rfl rfl ?_
 refine d_rd rfl (r_move tE) rfl rfl ?_
 refine d_rd rfl (r_move tE) rfl rfl ?_
 refine d_nw rfl WS (a_build0 Try.underlying39 Ty.csz3 Ty.zero3 rfl) rfl rfl rfl (by simp) ?_; intro H1 n1 W1 X1 A1
 have E1 := E0.trans X1; have A22 := A1
 have hA := X1.keep _ _ hA
 refine ⟨re_same (r_move tE) (re_same (r_move tE) (re_same (r_move tE) (re_same (r_move tE) (re_same (r_load1 (v := nv) Ty.agg31 tE (read_mt hA (Nat.le_of_ble_eq_true rfl))) (re_same (r_fieldAddr Ty.fo58_3 tE) (re_same (r_nilChk tE) (re_same (r_move tE) (re_same (r_move tE) (re_nil))))))))), ?_⟩
 refine d_rd rfl (r_move tE) rfl rfl ?_
 refine d_apO (cs := []) rfl W1 Try.underlying39 Try.underlying39 rfl Ty.csz3 Ty.byt3 Ty.zero3 rfl tE tE (own_fresh A22 rfl) (si_src (hks.ext X1)) (by simp [List.length_map]) (ones_ints ks) (by omega) rfl rfl ?_; intro s24 H24 b24 f24 hO24 W24 l24 u24 p24 q24 K24
 obtain ⟨o24, c24, rfl, hcp24, hrd24⟩ := hO24.read; rw [List.nil_append, show 0 + ks.length = ks.length from Nat.zero_add _] at hO24; rw [show 0 + ks.length = ks.length from Nat.zero_add _]
 have hX0 := X1; have hX0n := hX0.n
 have E24 := Ext.keeps WS hX0 ⟨(by have := hX0n; omega) , fun g hg => by cases hg⟩ K24 l24 W24
 have hA := K24.at hA (by omega) rfl
 refine ⟨re_forcedL (M := 1536) (I := 10) rfl rfl (by decide) (re_same (r_move tE) (re_same (r_move tE) (re_same (r_move tE) (re_same (r_move tE) (re_same (r_load1 (v := nv) Ty.agg31 tE (read_mt hA (Nat.le_of_ble_eq_true rfl))) (re_same (r_fieldAddr Ty.fo58_3 tE) (re_same (r_nilChk tE) (re_same (r_move tE) (re_same (r_move tE) (re_nil)))))))))), ?_⟩
 refine d_rd rfl (r_build (cs := [.int .i64 (k), .int .i64 (at1), .sl (.mt b24) (o24) (ks.length) c24, .str (nm), .int .i64 (nn)]) Ty.zero51 Ty.pl51 tP rfl) rfl rfl ?_
 refine d_nw rfl W24 (a_build1 Try.underlying31 Ty.csz51 Ty.zero51 rfl tE rfl (by decide)) rfl rfl rfl (by simp) ?_; intro H2 n2 W2 X2 A2
 have E2 := E24.trans X2; have A26 := A2; have hO24b := hO24.ext X2
 have hA := X2.keep _ _ hA
 refine ⟨re_same (r_build (cs := [.int .i64 (k), .int .i64 (at1), .sl (.mt b24) (o24) (ks.length) c24, .str (nm), .int .i64 (nn)]) Ty.zero51 Ty.pl51 tP rfl) (re_same (r_move tE) (re_same (r_move tE) (re_same (r_move tE) (re_same (r_move tE) (re_same (r_move tE) (re_same (r_load1 (v := nv) Ty.agg31 tE (read_mt hA (Nat.le_of_ble_eq_true rfl))) (re_same (r_fieldAddr Ty.fo58_3 tE) (re_same (r_nilChk tE) (re_same (r_move tE) (re_same (r_move tE) (re_nil))))))))))), ?_⟩
 refine d_apG (cs := cs) (b := x.1) (fm := x.2) rfl W2 Try.underlying31 Try.underlying31 rfl Ty.csz51 Ty.byt51 Ty.zero51 rfl tE tE (hNC.own E2) (src_fresh (n := 1) A26 rfl) rfl (by simp only [ones, AV.cells, own_one hO24]; rfl) (Nat.le_refl _) (by omega) rfl rfl ?_; intro s27 H27 b27 f27 hO27 W27 n27 p27 q27 K27 X27
 obtain ⟨o27, c27, rfl, hcp27, hrd27⟩ := hO27.read
 have hA26 := hA
 have hxrb : rb ≠ x.1 ∨ x = (rb, none) := by rcases hNC with ⟨_, _, h, _⟩ | ⟨_, h, _⟩; exact .inr h; exact .inl (Ne.symm h)
 have E27 : Ext H0 H27 := Ext.keeps W0 (ES.trans E2) (nc_new hNC hr0) K27 n27 W27
 have hA : H27.at rb = _ := rb_keep hNC K27 hA26 X27
 refine ⟨re_forcedL (M := 16382) (I := 12) rfl rfl (by decide) (re_forcedL (M := 16382) (I := 10) rfl rfl (by decide) (re_forcedL (M := 16382) (I := 8) rfl rfl (by decide) (re_forcedL (M := 16382) (I := 7) rfl rfl (by decide) (re_forcedL (M := 16382) (I := 6) rfl rfl (by decide) (re_forcedL (M := 16382) (I := 5) rfl rfl (by decide) (re_forcedL (M := 16382) (I := 4) rfl rfl (by decide) (re_forcedL (M := 16382) (I := 3) rfl rfl (by decide) (re_forcedL (M := 16382) (I := 2) rfl rfl (by decide) (re_forcedL (M := 16382) (I := 1) rfl rfl (by decide) (re_same (r_move tE) (re_nil))))))))))), ?_⟩
 refine d_rd rfl (r_nilChk tE) rfl rfl ?_
 refine d_rd rfl (r_fieldAddr Ty.fo58_3 tE) rfl rfl ?_
 refine d_st rfl W27 tE tE hA Ty.csz31 rfl (Nat.le_of_ble_eq_true rfl) (by rfl) rfl rfl ?_; intro H3 n3 W3 A3 K3
 have A3 : H3.at rb = some (.row [sv, tv, .int .i64 (((st.a : Nat) : Int)), .sl (.mt b27) (o27) (st.ns.length + 1) c27] 58 false none) := A3
 have E3 := Ext.put W0 E27 (by have := E27.n; omega) K3 n3 W3
 refine ⟨re_forcedL (M := 131071) (I := 16) rfl rfl (by decide) (re_forcedL (M := 131071) (I := 15) rfl rfl (by decide) (re_forcedL (M := 131071) (I := 12) rfl rfl (by decide) (re_forcedL (M := 131071) (I := 10) rfl rfl (by decide) (re_forcedL (M := 131071) (I := 8) rfl rfl (by decide) (re_forcedL (M := 131071) (I := 7) rfl rfl (by decide) (re_forcedL (M := 131071) (I := 6) rfl rfl (by decide) (re_forcedL (M := 131071) (I := 5) rfl rfl (by decide) (re_forcedL (M := 131071) (I := 4) rfl rfl (by decide) (re_forcedL (M := 131071) (I := 3) rfl rfl (by decide) (re_forcedL (M := 131071) (I := 2) rfl rfl (by decide) (re_forcedL (M := 131071) (I := 1) rfl rfl (by decide) (re_forcedL (M := 131071) (I := 0) rfl rfl (by decide) (re_nil))))))))))))), ?_⟩
 refine d_nil ?_
 refine w_sr ?_
 refine o_mv ?_
 refine o_rd (r_nilChk tE) rfl rfl ?_
 refine o_rd (r_fieldAddr Ty.fo58_3 tE) rfl rfl ?_
 refine o_rd (r_load1 (v := .sl (.mt b27) (o27) (st.ns.length + 1) c27) Ty.agg31 tE (read_mt A3 (Nat.le_of_ble_eq_true rfl))) rfl rfl ?_
 refine o_rd (r_len (n := st.ns.length + 1) Try.underlying31 tE rfl) rfl rfl ?_
 refine o_rd (r_subE (a := ((st.ns.length + 1 : Nat) : Int)) (b := 1) (c := ((st.ns.length : Nat) : Int)) tE tE (by omega) (by omega) (by omega)) rfl rfl ?_
 refine o_as ?_
 refine o_nil ?_
 refine w_ret ⟨.inr rfl, rfl, .int .i64 (((st.ns.length : Nat) : Int)), (show resultA Try.prog [.tmp 12] _ = _ from tR), ?_⟩
 try dsimp only
 have hst := node_rs (v := ⟨k, at1, ks, nm, nn⟩) hR hA0 hNC E2 hO24b (by rcases p24 with h | h <;> omega) (by rintro g hg; rcases q24 with h | h | h <;> (rw [h] at hg; first | (injection hg with hg; omega) | cases hg)) hO27 p27 q27 K27 n27 W27 K3 n3 W3 E3 A3
 exact ⟨_, _, _, by simp only [mNode]; rw [if_pos ⟨hnl, hkl⟩], rfl, hst.1, hst.2⟩
end Go.Proofs.Ytehmhhlhlipbnaa.Vs
