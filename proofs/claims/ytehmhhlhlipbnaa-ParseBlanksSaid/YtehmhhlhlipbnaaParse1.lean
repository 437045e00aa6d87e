/-
 The reader: its state in memory, and what it reads token by token.
-/
import Derived.Test.YtehmhhlhlipbnaaScan3
import Derived.Test.YtehmhhlhlipbnaaVjP
set_option autoImplicit false
set_option linter.unusedVariables false
set_option linter.unusedSimpArgs false
set_option maxRecDepth 100000
set_option maxHeartbeats 4000000
namespace Go.Proofs.Ytehmhhlhlipbnaa.Vs
open Go.VI Go.Proofs
variable {orc : CallF}
/-- a list's block and its family -/
abbrev LK := Nat × Option Nat
def Ap (x y : LK) : Prop := Apart x.1 x.2 y.1 y.2
theorem Ap.symm {x y : LK} (h : Ap x y) : Ap y x := Apart.symm h
/-- nodes, each of which has its kids in a list of its own -/
inductive NXL (H : AH) (rb : Nat) (G : LK → Prop) : List ND → List AV → Prop where
 | nil : NXL H rb G [] []
 | cons (v : ND) (l : List ND) (s : AV) (x : LK) (cs : List AV) (ho : Own H 3 1 s v.ks.length (v.ks.map (AV.int .i64)) x.1 x.2) (hb : x.1 ≠ rb) (hx : ∀ y, G y → Ap x y) (k : NXL H rb G l cs) :
   NXL H rb G (v :: l) ([.int .i64 v.k, .int .i64 v.at_, s, .str v.nm, .int .i64 v.n] ++ cs)
/-- what a call on the reader leaves -/
structure Fr2 (rb : Nat) (H : AH) (x : LK) (H' : AH) (x' : LK) : Prop where
 n : H.n ≤ H'.n
 keep : ∀ c o, H.at c = some o → c ≠ rb → c ≠ x.1 → (famid o = none ∨ famid o ≠ x.2) → H'.at c = some o
 b' : x'.1 = x.1 ∨ H.n ≤ x'.1
 f' : x'.2 = none ∨ x'.2 = x.2 ∨ ∃ g, x'.2 = some g ∧ H.n ≤ g
section
variable {rb : Nat} {H H' H'' : AH} {x x' x'' y : LK}
theorem Fr2.ofExt (E : Ext H H') : Fr2 rb H x H' x := ⟨E.n, fun c o h _ _ _ => E.keep c o h, .inl rfl, .inr (.inl rfl)⟩
theorem Fr2.refl (W : Wf H) : Fr2 rb H x H x := Fr2.ofExt (Ext.refl W)
theorem Fr2.put (K : Keeps H H' rb none) (hn : H'.n = H.n) : Fr2 rb H x H' x := ⟨by omega, fun c o h h1 _ _ => K.own h h1, .inl rfl, .inr (.inl rfl)⟩
theorem Ap.fr (A : Ap y x) (hy : y.1 < H.n) (hf : ∀ g, y.2 = some g → g < H.n) (F : Fr2 rb H x H' x') : Ap y x' := by
 refine ⟨?_, ?_⟩
 ·rcases F.b' with h | h
  ·rw [h]; exact A.1
  ·omega
 ·rcases F.f' with h | h | ⟨g, h, hg⟩
  ·cases hy2 : y.2 with
   | none => exact .inl rfl
   | some q => exact .inr (by rw [h]; simp)
  ·rw [h]; exact A.2
  ·cases hy2 : y.2 with
   | none => exact .inl rfl
   | some q => exact .inr (by rw [h]; intro e; injection e with e; have := hf q hy2; omega)
theorem Fr2.trans (W : Wf H) (F : Fr2 rb H x H' x') (F2 : Fr2 rb H' x' H'' x'') : Fr2 rb H x H'' x'' := by
 refine ⟨Nat.le_trans F.n F2.n, fun c o h h1 h2 h3 => F2.keep c o (F.keep c o h h1 h2 h3) h1 ?_ ?_, ?_, ?_⟩
 ·have := W.lt h
  rcases F.b' with e | e
  ·rw [e]; exact h2
  ·omega
 ·rcases h3 with h3 | h3
  ·exact .inl h3
  ·cases hf : famid o with
   | none => exact .inl rfl
   | some q =>
    have hq := W.famlt h hf
    rcases F.f' with e | e | ⟨g, e, hg⟩
    ·exact .inr (by rw [e]; simp)
    ·exact .inr (by rw [e, ← hf]; exact h3)
    ·exact .inr (by rw [e]; intro c; injection c with c; omega)
 ·rcases F2.b' with e | e
  ·rcases F.b' with e2 | e2
   ·exact .inl (e.trans e2)
   ·exact .inr (by omega)
  ·exact .inr (Nat.le_trans F.n e)
 ·rcases F2.f' with e | e | ⟨g, e, hg⟩
  ·exact .inl e
  ·rcases F.f' with e2 | e2 | ⟨g, e2, hg⟩
   ·exact .inl (e.trans e2)
   ·exact .inr (.inl (e.trans e2))
   ·exact .inr (.inr ⟨g, e.trans e2, hg⟩)
  ·exact .inr (.inr ⟨g, e, Nat.le_trans F.n hg⟩)
theorem own_fr {el : TypeId} {e n : Nat} {cs : List AV} {s : AV} (O : Own H el e s n cs y.1 y.2) (F : Fr2 rb H x H' x') (hy : y.1 ≠ rb) (A : Ap y x) : Own H' el e s n cs y.1 y.2 :=
 O.keep fun o h hf => F.keep _ _ h hy A.1 (by rw [hf]; exact A.2)
theorem NXL.ext {G : LK → Prop} (E : Ext H H') : ∀ {l : List ND} {cs : List AV}, NXL H rb G l cs → NXL H' rb G l cs
 | _, _, .nil => .nil
 | _, _, .cons v l s x cs ho hb hx k => .cons v l s x cs (ho.ext E) hb hx (k.ext E)
theorem NXL.put {G : LK → Prop} (K : Keeps H H' rb none) : ∀ {l : List ND} {cs : List AV}, NXL H rb G l cs → NXL H' rb G l cs
 | _, _, .nil => .nil
 | _, _, .cons v l s x cs ho hb hx k => .cons v l s x cs (ho.keep fun o h _ => K.own h hb) hb hx (k.put K)
end
/-- the reader: at which token, and the nodes made so far -/
structure PS where
 a : Nat
 ns : List ND
/-- the nodes in memory -/
def NX (H0 H : AH) (rb : Nat) (G : LK → Prop) (ns : List ND) (nv : AV) (x : LK) : Prop :=
 (ns = [] ∧ nv = .nils ∧ x = (rb, none)) ∨ (1 ≤ ns.length ∧ x.1 ≠ rb ∧ New H0 x.1 x.2 ∧ (∀ y, G y → Ap x y) ∧ ∃ cs, Own H 51 5 nv ns.length cs x.1 x.2 ∧ NXL H rb (fun y => G y ∨ y = x) ns cs)
structure RS (H0 : AH) (sv tv : AV) (tn rb : Nat) (G : LK → Prop) (H : AH) (st : PS) (x : LK) : Prop where
 w : Wf H
 e : Ext H0 H
 r0 : H0.n ≤ rb
 al : st.a ≤ tn
 at_ : ∃ nv, H.at rb = some (.row [sv, tv, .int .i64 ((st.a : Nat) : Int), nv] 58 false none) ∧ NX H0 H rb G st.ns nv x
 g : ∀ y, G y → y.1 ≠ rb ∧ y.1 < H.n ∧ ∀ g, y.2 = some g → g < H.n
section
variable {H0 H H' : AH} {sv tv : AV} {tn rb : Nat} {G : LK → Prop} {st : PS} {x : LK}
theorem NX.ext {ns : List ND} {nv : AV} (E : Ext H H') (h : NX H0 H rb G ns nv x) : NX H0 H' rb G ns nv x := by
 rcases h with h | ⟨h1, h2, h3, h4, cs, h5, h6⟩
 ·exact .inl h
 ·exact .inr ⟨h1, h2, h3, h4, cs, h5.ext E, h6.ext E⟩
theorem NX.put {ns : List ND} {nv : AV} (K : Keeps H H' rb none) (h : NX H0 H rb G ns nv x) : NX H0 H' rb G ns nv x := by
 rcases h with h | ⟨h1, h2, h3, h4, cs, h5, h6⟩
 ·exact .inl h
 ·exact .inr ⟨h1, h2, h3, h4, cs, h5.keep (fun o h _ => K.own h h2), h6.put K⟩
theorem RS.ext (R : RS H0 sv tv tn rb G H st x) (E : Ext H H') : RS H0 sv tv tn rb G H' st x := by
 obtain ⟨nv, h1, h2⟩ := R.at_
 exact ⟨E.wf, R.e.trans E, R.r0, R.al, ⟨nv, E.keep _ _ h1, h2.ext E⟩, fun y hy => ⟨(R.g y hy).1, Nat.lt_of_lt_of_le (R.g y hy).2.1 E.n, fun g hg => Nat.lt_of_lt_of_le ((R.g y hy).2.2 g hg) E.n⟩⟩
end
abbrev PM (α : Type) := PS → Option (Except Int (α × PS))
def bindP {α β : Type} (m : PM α) (k : α → PM β) : PM β := fun s => match m s with
 | none => none
 | some (.error a) => some (.error a)
 | some (.ok r) => k r.1 r.2
def pureP {α : Type} (v : α) : PM α := fun s => some (.ok (v, s))
def plF (src : List UInt8) (T : List TK) (a : Nat) : Int := match T[a]? with | some t => t.at_ | none => src.length
def knF (T : List TK) (a : Nat) : Int := match T[a]? with | some t => t.k | none => 0
def isF (tx : Nat → List UInt8) (T : List TK) (a : Nat) (t : List UInt8) : Bool := decide (10 ≤ knF T a) && decide (tx (knF T a).toNat = t)
def mGot (tx : Nat → List UInt8) (T : List TK) (t : List UInt8) : PM Bool := fun s => some (.ok (if isF tx T s.a t then (true, { s with a := s.a + 1 }) else (false, s)))
def mNode (k at_ : Int) (nm : List UInt8) (n : Int) (ks : List Int) : PM Int := fun s => if s.ns.length < 1000000000 ∧ ks.length < 1000000000 then some (.ok ((s.ns.length : Int), { s with ns := s.ns ++ [⟨k, at_, ks, nm, n⟩] })) else none
def panA (a : Int) : AV := .ifc 69 (.agg [.int .i64 a])
def OkR {α : Type} (H0 : AH) (sv tv : AV) (tn rb : Nat) (G : LK → Prop) (HS : AH) (x : LK) (res : Option (Except Int (α × PS))) (rp : α → AV) (r : AV) (H' : AH) : Prop :=
 ∃ v st' x', res = some (.ok (v, st')) ∧ r = rp v ∧ RS H0 sv tv tn rb G H' st' x' ∧ Fr2 rb HS x H' x'
def BadR {α : Type} (H0 : AH) (rb : Nat) (HS : AH) (x : LK) (res : Option (Except Int (α × PS))) (p : AV) (H' : AH) : Prop := ∃ a, res = some (.error a) ∧ p = panA a ∧ Wf H' ∧ Ext H0 H' ∧ ∃ x', Fr2 rb HS x H' x'
/-- what is known of a source's tokens -/
structure TOk (src : List UInt8) (T : List TK) : Prop where
 len : T.length ≤ 65536
 k : ∀ i, (h : i < T.length) → 0 ≤ T[i].k ∧ T[i].k < 67
 r : ∀ i, (h : i < T.length) → 0 ≤ T[i].at_ ∧ 1 ≤ T[i].len ∧ T[i].at_ + T[i].len ≤ src.length
theorem plF_at {src : List UInt8} {T : List TK} {a : Nat} (h : a < T.length) : plF src T a = T[a].at_ := by simp only [plF, List.getElem?_eq_getElem h]
theorem plF_no {src : List UInt8} {T : List TK} {a : Nat} (h : ¬ a < T.length) : plF src T a = src.length := by simp only [plF, List.getElem?_eq_none (Nat.not_lt.1 h)]
theorem knF_at {T : List TK} {a : Nat} (h : a < T.length) : knF T a = T[a].k := by simp only [knF, List.getElem?_eq_getElem h]
theorem knF_no {T : List TK} {a : Nat} (h : ¬ a < T.length) : knF T a = 0 := by simp only [knF, List.getElem?_eq_none (Nat.not_lt.1 h)]
theorem knF_lt {T : List TK} {a : Nat} (h : knF T a ≠ 0) : a < T.length := by
 by_cases c : a < T.length
 ·exact c
 ·exact absurd (knF_no c) h
theorem knF_67 {src : List UInt8} {T : List TK} (hO : TOk src T) (a : Nat) : knF T a < 67 := by
 by_cases c : a < T.length
 ·rw [knF_at c]; exact (hO.k _ c).2
 ·rw [knF_no c]; decide
theorem isF_lt {tx : Nat → List UInt8} {T : List TK} {a : Nat} {t : List UInt8} (h : isF tx T a t = true) : a < T.length := by
 unfold isF at h
 rw [Bool.and_eq_true] at h
 have := of_decide_eq_true h.1
 exact knF_lt (by omega)
theorem flat_get4 : ∀ (l : List TK) {i : Nat} (h : i < l.length), ((tkC l).drop (i * 4)).take 4 = l[i].cs
 | t :: r, 0, h => by simp [tkC, TK.cs]
 | t :: r, i + 1, h => by
  have := flat_get4 r (i := i) (by simpa using h)
  simp only [List.getElem_cons_succ]
  rw [← this]
  simp only [tkC, List.map_cons, List.flatten_cons]
  rw [List.drop_append, List.drop_of_length_le (by simp [TK.cs]; omega), List.nil_append]
  congr 2
  simp [TK.cs]; omega
theorem TS.get {H : AH} {T : List TK} {tv : AV} (h : TS H T tv) {i : Nat} (hi : i < T.length) : ∃ loc off cap, tv = .sl loc off T.length cap ∧ H.read loc (off + i * 4) 4 = some T[i].cs := by
 rcases h with ⟨rfl, _⟩ | ⟨loc, off, cap, h1, h2, h3⟩
 ·simp at hi
 ·exact ⟨loc, off, cap, h1, by rw [read_part h3 (by omega), flat_get4 T hi]⟩
theorem TS.lenOf {H : AH} {T : List TK} {tv : AV} (h : TS H T tv) : VI.lenOf tv = some T.length := by
 rcases h with ⟨rfl, rfl⟩ | ⟨loc, off, cap, rfl, _⟩ <;> rfl
theorem place_fin (ho : NoOrcBut [7, 21, 69, 81] orc) {H0 HS : AH} (W0 : Wf H0) (WS : Wf HS) (ES : Ext H0 HS) (src : List UInt8) (sv : AV) (T : List TK) (tv : AV) (rb : Nat) (G : LK → Prop) (st : PS) (x : LK) (hS : SB H0 5 src sv) (hT : TS H0 T tv) (hO : TOk src T) (hR : RS H0 sv tv T.length rb G HS st x)  : Fin Try.prog orc 70 [.ptr (.mt (rb)) (0)] HS (fun r H' => r = .int .i64 (plF src T st.a) ∧ Ext HS H') := by
 have E0 := ES
 obtain ⟨nv, hA, hN⟩ := hR.at_; have hr0 := hR.r0; have hTl := hO.len; have hal := hR.al; have hSb := hS.bound; have hrbl := WS.lt hA
 refine fin_of Try.func70 rfl (by rw [Try.ntmps70]; simp) (ho _ rfl _ _) ?_
 rw [Try.ntmps70]
 refine w_sr ?_
 refine o_as ?_
 refine o_nil ?_
 refine w_seq ?_
 refine w_seq ?_
 refine w_draw (ms := [0, 1, 3, 7, 0, 16, 48, 112, 240, 511]) (ord := [0, 1, 2, 3, 4, 5, 6, 7, 8, 9]) (by kernel_rfl) (by kernel_rfl) (by kernel_rfl) ?_
 refine d_rd rfl (r_move tE) rfl rfl ?_
 refine d_rd rfl (r_nilChk tE) rfl rfl ?_
 refine d_rd rfl (r_fieldAddr Ty.fo58_2 tE) rfl rfl ?_
 refine d_rd rfl (r_load1 (v := .int .i64 (((st.a : Nat) : Int))) Ty.agg3 tE (read_mt hA (Nat.le_of_ble_eq_true rfl))) rfl rfl ?_
 refine d_rd rfl (r_move tE) rfl rfl ?_
 refine d_rd rfl (r_nilChk tE) rfl rfl ?_
 refine d_rd rfl (r_fieldAddr Ty.fo58_1 tE) rfl rfl ?_
 refine d_rd rfl (r_load1 (v := tv) Ty.agg43 tE (read_mt hA (Nat.le_of_ble_eq_true rfl))) rfl rfl ?_
 refine d_rd rfl (r_len (n := T.length) Try.underlying43 tE hT.lenOf) rfl rfl ?_
 refine d_rd rfl (r_lt (a := ((st.a : Nat) : Int)) (b := ((T.length : Nat) : Int)) tE tE) rfl rfl ?_
 refine d_nil ?_
 refine w_cond tE (fun hB1 => ?_) (fun hB1 => ?_)
 ·have hc1 := dec_t hB1
  refine w_seq ?_
  refine w_draw (ms := [0, 1, 3, 7, 0, 16, 48, 112, 255, 511, 1023, 2047]) (ord := [0, 1, 2, 3, 4, 5, 6, 7, 8, 9, 10, 11]) (by kernel_rfl) (by kernel_rfl) (by kernel_rfl) ?_
  have hat : st.a < T.length := by first | omega | exact knF_lt (by omega)
  obtain ⟨loc1, off1, cap1, rfl, hrt⟩ := hT.get hat
  refine d_rd rfl (r_move tE) rfl rfl ?_
  refine d_rd rfl (r_nilChk tE) rfl rfl ?_
  refine d_rd rfl (r_fieldAddr Ty.fo58_1 tE) rfl rfl ?_
  refine d_rd rfl (r_load1 (v := .sl loc1 (off1) (T.length) cap1) Ty.agg43 tE (read_mt hA (Nat.le_of_ble_eq_true rfl))) rfl rfl ?_
  refine d_rd rfl (r_move tE) rfl rfl ?_
  refine d_rd rfl (r_nilChk tE) rfl rfl ?_
  refine d_rd rfl (r_fieldAddr Ty.fo58_2 tE) rfl rfl ?_
  refine d_rd rfl (r_load1 (v := .int .i64 (((st.a : Nat) : Int))) Ty.agg3 tE (read_mt hA (Nat.le_of_ble_eq_true rfl))) rfl rfl ?_
  refine d_rd rfl (r_indexAddr Try.underlying43 Ty.csz47 tE tE hat) rfl rfl ?_
  refine d_rd rfl (r_fieldAddr Ty.fo47_1 tE) rfl rfl ?_
  refine d_rd rfl (r_load1 Ty.agg3 tE ((read_part (Ext.read (H := H0) (by assumption) hrt) (o := 1) (m := 1) (by decide)).trans rfl)) rfl rfl ?_
  refine d_rd rfl (r_assign tE) rfl rfl ?_
  refine d_nil ?_
  refine w_ret ⟨.inr rfl, rfl, .int .i64 ((T[st.a]'hat).at_), (show resultA Try.prog [.tmp 2] _ = _ from tR), ?_⟩
  try dsimp only
  exact ⟨congrArg (AV.int .i64) (by first | rw [plF_at hat] | rw [plF_no (by omega)]), Ext.refl WS⟩
 ·have hc1 := dec_f hB1
  refine w_skip ?_
  refine w_sr ?_
  refine o_mv ?_
  refine o_rd (r_nilChk tE) rfl rfl ?_
  refine o_rd (r_fieldAddr Ty.fo58_0 tE) rfl rfl ?_
  refine o_rd (r_load1 (v := sv) Ty.agg22 tE (read_mt hA (Nat.le_of_ble_eq_true rfl))) rfl rfl ?_
  refine o_rd (r_len (n := src.length) Try.underlying22 tE hS.lenOf) rfl rfl ?_
  refine o_as ?_
  refine o_nil ?_
  refine w_ret ⟨.inr rfl, rfl, .int .i64 (((src.length : Nat) : Int)), (show resultA Try.prog [.tmp 2] _ = _ from tR), ?_⟩
  try dsimp only
  exact ⟨congrArg (AV.int .i64) (by first | rw [plF_at hat] | rw [plF_no (by omega)]), Ext.refl WS⟩
theorem knd_fin (ho : NoOrcBut [7, 21, 69, 81] orc) {H0 HS : AH} (W0 : Wf H0) (WS : Wf HS) (ES : Ext H0 HS) (src : List UInt8) (sv : AV) (T : List TK) (tv : AV) (rb : Nat) (G : LK → Prop) (st : PS) (x : LK) (hS : SB H0 5 src sv) (hT : TS H0 T tv) (hO : TOk src T) (hR : RS H0 sv tv T.length rb G HS st x)  : Fin Try.prog orc 68 [.ptr (.mt (rb)) (0), .int .i64 (0)] HS (fun r H' => r = .int .i64 (knF T st.a) ∧ Ext HS H') := by
 have E0 := ES
 obtain ⟨nv, hA, hN⟩ := hR.at_; have hr0 := hR.r0; have hTl := hO.len; have hal := hR.al; have hSb := hS.bound; have hrbl := WS.lt hA
 refine fin_of Try.func68 rfl (by rw [Try.ntmps68]; simp) (ho _ rfl _ _) ?_
 rw [Try.ntmps68]
 refine w_sr ?_
 refine o_as ?_
 refine o_nil ?_
 refine w_seq ?_
 refine w_seq ?_
 refine w_draw (ms := [0, 1, 3, 7, 0, 31, 0, 64, 192, 448, 960, 2047]) (ord := [0, 1, 2, 3, 4, 5, 6, 7, 8, 9, 10, 11]) (by kernel_rfl) (by kernel_rfl) (by kernel_rfl) ?_
 refine d_rd rfl (r_move tE) rfl rfl ?_
 refine d_rd rfl (r_nilChk tE) rfl rfl ?_
 refine d_rd rfl (r_fieldAddr Ty.fo58_2 tE) rfl rfl ?_
 refine d_rd rfl (r_load1 (v := .int .i64 (((st.a : Nat) : Int))) Ty.agg3 tE (read_mt hA (Nat.le_of_ble_eq_true rfl))) rfl rfl ?_
 refine d_rd rfl (r_move tE) rfl rfl ?_
 refine d_rd rfl (r_addE (a := ((st.a : Nat) : Int)) (b := 0) (c := ((st.a : Nat) : Int)) tE tE (by omega) (by omega) (by omega)) rfl rfl ?_
 refine d_rd rfl (r_move tE) rfl rfl ?_
 refine d_rd rfl (r_nilChk tE) rfl rfl ?_
 refine d_rd rfl (r_fieldAddr Ty.fo58_1 tE) rfl rfl ?_
 refine d_rd rfl (r_load1 (v := tv) Ty.agg43 tE (read_mt hA (Nat.le_of_ble_eq_true rfl))) rfl rfl ?_
 refine d_rd rfl (r_len (n := T.length) Try.underlying43 tE hT.lenOf) rfl rfl ?_
 refine d_rd rfl (r_lt (a := ((st.a : Nat) : Int)) (b := ((T.length : Nat) : Int)) tE tE) rfl rfl ?_
 refine d_nil ?_
 refine w_cond tE (fun hB1 => ?_) (fun hB1 => ?_)
 ·have hc1 := dec_t hB1
  refine w_seq ?_
  refine w_draw (ms := [0, 1, 3, 7, 0, 16, 48, 112, 0, 496, 1023, 2047, 4095, 8191]) (ord := [0, 1, 2, 3, 4, 5, 6, 7, 8, 9, 10, 11, 12, 13]) (by kernel_rfl) (by kernel_rfl) (by kernel_rfl) ?_
  have hat : st.a < T.length := by first | omega | exact knF_lt (by omega)
  obtain ⟨loc1, off1, cap1, rfl, hrt⟩ := hT.get hat
  refine d_rd rfl (r_move tE) rfl rfl ?_
  refine d_rd rfl (r_nilChk tE) rfl rfl ?_
  refine d_rd rfl (r_fieldAddr Ty.fo58_1 tE) rfl rfl ?_
  refine d_rd rfl (r_load1 (v := .sl loc1 (off1) (T.length) cap1) Ty.agg43 tE (read_mt hA (Nat.le_of_ble_eq_true rfl))) rfl rfl ?_
  refine d_rd rfl (r_move tE) rfl rfl ?_
  refine d_rd rfl (r_nilChk tE) rfl rfl ?_
  refine d_rd rfl (r_fieldAddr Ty.fo58_2 tE) rfl rfl ?_
  refine d_rd rfl (r_load1 (v := .int .i64 (((st.a : Nat) : Int))) Ty.agg3 tE (read_mt hA (Nat.le_of_ble_eq_true rfl))) rfl rfl ?_
  refine d_rd rfl (r_move tE) rfl rfl ?_
  refine d_rd rfl (r_addE (a := ((st.a : Nat) : Int)) (b := 0) (c := ((st.a : Nat) : Int)) tE tE (by omega) (by omega) (by omega)) rfl rfl ?_
  refine d_rd rfl (r_indexAddr Try.underlying43 Ty.csz47 tE tE hat) rfl rfl ?_
  refine d_rd rfl (r_fieldAddr Ty.fo47_0 tE) rfl rfl ?_
  refine d_rd rfl (r_load1 Ty.agg3 tE ((read_part (Ext.read (H := H0) (by assumption) hrt) (o := 0) (m := 1) (by decide)).trans rfl)) rfl rfl ?_
  refine d_rd rfl (r_assign tE) rfl rfl ?_
  refine d_nil ?_
  refine w_ret ⟨.inr rfl, rfl, .int .i64 ((T[st.a]'hat).k), (show resultA Try.prog [.tmp 4] _ = _ from tR), ?_⟩
  try dsimp only
  exact ⟨congrArg (AV.int .i64) (by first | rw [knF_at hat] | rw [knF_no (by omega)]), Ext.refl WS⟩
 ·have hc1 := dec_f hB1
  refine w_skip ?_
  refine w_sr ?_
  refine o_as ?_
  refine o_nil ?_
  refine w_ret ⟨.inr rfl, rfl, .int .i64 (0), (show resultA Try.prog [.tmp 4] _ = _ from tR), ?_⟩
  try dsimp only
  exact ⟨congrArg (AV.int .i64) (by first | rw [knF_at hat] | rw [knF_no (by omega)]), Ext.refl WS⟩
theorem is_fin (ho : NoOrcBut [7, 21, 69, 81] orc) {H0 HS : AH} (W0 : Wf H0) (WS : Wf HS) (ES : Ext H0 HS) (ho81 : ∃ sg, ∀ H, orc 81 [] H = some (.ret sg, H)) (tx : Nat → List UInt8) (ho69 : ∀ k : Nat, k < 67 → ∀ H, orc 69 [.int .i64 (k : Int)] H = some (.ret (.str (tx k)), H)) (src : List UInt8) (sv : AV) (T : List TK) (tv : AV) (rb : Nat) (G : LK → Prop) (st : PS) (x : LK) (hS : SB H0 5 src sv) (hT : TS H0 T tv) (hO : TOk src T) (hR : RS H0 sv tv T.length rb G HS st x) (t : List UInt8) : Fin Try.prog orc 48 [.ptr (.mt (rb)) (0), .str (t)] HS (fun r H' => r = .bool (isF tx T st.a t) ∧ Ext HS H') := by
 have E0 := ES
 obtain ⟨nv, hA, hN⟩ := hR.at_; have hr0 := hR.r0; have hTl := hO.len; have hal := hR.al; have hSb := hS.bound; have hrbl := WS.lt hA; have hkl := knF_67 hO st.a
 refine fin_of Try.func48 rfl (by rw [Try.ntmps48]; simp) (ho _ rfl _ _) ?_
 rw [Try.ntmps48]
 refine w_sr ?_
 refine o_as ?_
 refine o_nil ?_
 refine w_sr ?_
 refine o_mv ?_
 refine o_cl rfl rfl tS rfl (knd_fin ho W0 WS E0 src sv T tv rb G st x hS hT hO (hR.ext (Ext.refl WS))) rfl rfl ?_; rintro _ H1 ⟨rfl, X1⟩
 have W1 := X1.wf; have E1 := E0.trans X1
 have hA := X1.keep _ _ hA
 have n1 := X1.n
 refine o_rd (r_ge (a := knF T st.a) (b := 10) tE tE) rfl rfl ?_
 refine o_mv ?_
 cases hg2 : (decide (10 ≤ knF T st.a) : Bool)
 ·have hg2 := dec_f hg2
  refine o_sk rfl ((wanted_of (b := false) rfl rfl rfl tV).trans rfl) ?_
  refine o_sk rfl ((wanted_of (b := false) rfl rfl rfl tV).trans rfl) ?_
  refine o_sk rfl ((wanted_of (b := false) rfl rfl rfl tV).trans rfl) ?_
  refine o_sk rfl ((wanted_of (b := false) rfl rfl rfl tV).trans rfl) ?_
  refine o_sk rfl ((wanted_of (b := false) rfl rfl rfl tV).trans rfl) ?_
  refine o_rd (r_pick (t := false) tE (fun h => by cases h) (fun _ => tE)) rfl rfl ?_
  refine o_as ?_
  refine o_nil ?_
  refine w_ret ⟨.inr rfl, rfl, .bool (false), (show resultA Try.prog [.tmp 4] _ = _ from tR), ?_⟩
  try dsimp only
  exact ⟨congrArg AV.bool (by unfold isF; simp [hg2]), ((Ext.refl WS).trans X1)⟩
 ·have hg2 := dec_t hg2
  refine o_rd (r_move tE) rfl ((wanted_of (b := true) rfl rfl rfl tV).trans rfl) ?_
  refine o_cl rfl rfl tS rfl (knd_fin ho W0 W1 E1 src sv T tv rb G st x hS hT hO (hR.ext ((Ext.refl WS).trans X1))) rfl ((wanted_of (b := true) rfl rfl rfl tV).trans rfl) ?_; rintro _ H3 ⟨rfl, X3⟩
  have W3 := X3.wf; have E3 := E1.trans X3
  have hA := X3.keep _ _ hA
  have n3 := X3.n
  refine o_cl rfl rfl tS rfl (fin_orc (by have h := ho69 (knF T st.a).toNat (by have := hkl; omega); rw [Int.toNat_of_nonneg (by omega)] at h; exact h) W3) rfl ((wanted_of (b := true) rfl rfl rfl tV).trans rfl) ?_; rintro _ H4 ⟨rfl, X4⟩
  have W4 := X4.wf; have E4 := E3.trans X4
  have hA := X4.keep _ _ hA
  have n4 := X4.n
  refine o_rd (r_move tE) rfl ((wanted_of (b := true) rfl rfl rfl tV).trans rfl) ?_
  refine o_rd (r_eqS (a := tx (knF T st.a).toNat) (b := t) Try.underlying9 tE tE) rfl ((wanted_of (b := true) rfl rfl rfl tV).trans rfl) ?_
  refine o_rd (r_pick (t := true) tE (fun _ => tE) (fun h => by cases h)) rfl rfl ?_
  refine o_as ?_
  refine o_nil ?_
  refine w_ret ⟨.inr rfl, rfl, .bool (decide (tx (knF T st.a).toNat = t)), (show resultA Try.prog [.tmp 4] _ = _ from tR), ?_⟩
  try dsimp only
  exact ⟨congrArg AV.bool (by unfold isF; simp [hg2]), ((((Ext.refl WS).trans X1).trans X3).trans X4)⟩
theorem got_fin (ho : NoOrcBut [7, 21, 69, 81] orc) {H0 HS : AH} (W0 : Wf H0) (WS : Wf HS) (ES : Ext H0 HS) (ho81 : ∃ sg, ∀ H, orc 81 [] H = some (.ret sg, H)) (tx : Nat → List UInt8) (ho69 : ∀ k : Nat, k < 67 → ∀ H, orc 69 [.int .i64 (k : Int)] H = some (.ret (.str (tx k)), H)) (src : List UInt8) (sv : AV) (T : List TK) (tv : AV) (rb : Nat) (G : LK → Prop) (st : PS) (x : LK) (hS : SB H0 5 src sv) (hT : TS H0 T tv) (hO : TOk src T) (hR : RS H0 sv tv T.length rb G HS st x) (t : List UInt8) : Fin Try.prog orc 71 [.ptr (.mt (rb)) (0), .str (t)] HS (fun r H' => OkR H0 sv tv T.length rb G HS x (mGot tx T t st) AV.bool r H') := by
 have E0 := ES
 obtain ⟨nv, hA, hN⟩ := hR.at_; have hr0 := hR.r0; have hTl := hO.len; have hal := hR.al; have hSb := hS.bound; have hrbl := WS.lt hA
 refine fin_of Try.func71 rfl (by rw [Try.ntmps71]; simp) (ho _ rfl _ _) ?_
 rw [Try.ntmps71]
 refine w_sr ?_
 refine o_as ?_
 refine o_nil ?_
 refine w_seq ?_
 refine w_sr ?_
 refine o_mv ?_
 refine o_mv ?_
 refine o_cl rfl rfl tS rfl (is_fin ho W0 WS E0 ho81 tx ho69 src sv T tv rb G st x hS hT hO (hR.ext (Ext.refl WS)) t) rfl rfl ?_; rintro _ H1 ⟨rfl, X1⟩
 have W1 := X1.wf; have E1 := E0.trans X1
 have hA := X1.keep _ _ hA
 have n1 := X1.n
 refine o_rd (r_not tE) rfl rfl ?_
 refine o_nil ?_
 refine w_cond tE (fun hB2 => ?_) (fun hB2 => ?_)
 ·have hc2 := (not_t hB2)
  refine w_sr ?_
  refine o_as ?_
  refine o_nil ?_
  refine w_ret ⟨.inr rfl, rfl, .bool (false), (show resultA Try.prog [.tmp 4] _ = _ from tR), ?_⟩
  try dsimp only
  exact ⟨false, st, x, by simp [mGot, hc2], rfl, hR.ext ((Ext.refl WS).trans X1), Fr2.ofExt ((Ext.refl WS).trans X1)⟩
 ·have hc2 := (not_f hB2)
  refine w_skip ?_
  refine w_sr ?_
  refine o_mv ?_
  refine o_rd (r_nilChk tE) rfl rfl ?_
  refine o_rd (r_fieldAddr Ty.fo58_2 tE) rfl rfl ?_
  refine o_rd (r_load1 (v := .int .i64 (((st.a : Nat) : Int))) Ty.agg3 tE (read_mt hA (Nat.le_of_ble_eq_true rfl))) rfl rfl ?_
  refine o_rd (r_addE (a := ((st.a : Nat) : Int)) (b := 1) (c := ((st.a + 1 : Nat) : Int)) tE tE (by omega) (by omega) (by omega)) rfl rfl ?_
  refine o_rd (r_nilChk tE) rfl rfl ?_
  refine o_rd (r_fieldAddr Ty.fo58_2 tE) rfl rfl ?_
  refine o_st W1 tE tE hA Ty.csz3 rfl (Nat.le_of_ble_eq_true rfl) (by rfl) rfl rfl ?_; intro H3 n3 W3 A3 K3
  have A3 : H3.at rb = some (.row [sv, tv, .int .i64 (((st.a + 1 : Nat) : Int)), nv] 58 false none) := A3
  have E3 := Ext.put W0 E1 (by have := E1.n; omega) K3 n3 W3
  refine o_nil ?_
  refine w_sr ?_
  refine o_as ?_
  refine o_nil ?_
  refine w_ret ⟨.inr rfl, rfl, .bool (true), (show resultA Try.prog [.tmp 4] _ = _ from tR), ?_⟩
  try dsimp only
  have hat : st.a < T.length := isF_lt (by assumption)
  exact ⟨true, ⟨st.a + 1, st.ns⟩, x, by simp [mGot, hc2], rfl, ⟨W3, E3, hr0, hat, ⟨nv, A3, (hN.ext ((Ext.refl WS).trans X1)).put K3⟩, fun y hy => ⟨(hR.g y hy).1, by have := (hR.g y hy).2.1; have := Ext.n ((Ext.refl WS).trans X1); omega, fun g hg => by have := (hR.g y hy).2.2 g hg; have := Ext.n ((Ext.refl WS).trans X1); omega⟩⟩, (Fr2.ofExt ((Ext.refl WS).trans X1)).trans WS (Fr2.put K3 n3)⟩
theorem fail_fin (ho : NoOrcBut [7, 21, 69, 81] orc) {H0 HS : AH} (W0 : Wf H0) (WS : Wf HS) (ES : Ext H0 HS) (src : List UInt8) (sv : AV) (T : List TK) (tv : AV) (rb : Nat) (G : LK → Prop) (st : PS) (x : LK) (hS : SB H0 5 src sv) (hT : TS H0 T tv) (hO : TOk src T) (hR : RS H0 sv tv T.length rb G HS st x)  : FinP Try.prog orc 72 [.ptr (.mt (rb)) (0)] HS (fun r H' => False) (fun r H' => r = panA (plF src T st.a) ∧ Ext HS H') := by
 have E0 := ES
 obtain ⟨nv, hA, hN⟩ := hR.at_; have hr0 := hR.r0; have hTl := hO.len; have hal := hR.al; have hSb := hS.bound; have hrbl := WS.lt hA
 refine fin_ofP Try.func72 rfl (by rw [Try.ntmps72]; simp) (ho _ rfl _ _) ?_
 rw [Try.ntmps72]
 refine w_regionP ?_
 refine o_mvP ?_
 refine o_stepP ?_
 refine o_cl rfl rfl tS rfl (place_fin ho W0 WS E0 src sv T tv rb G st x hS hT hO (hR.ext (Ext.refl WS))) rfl rfl ?_; rintro _ H1 ⟨rfl, X1⟩
 have W1 := X1.wf; have E1 := E0.trans X1
 have hA := X1.keep _ _ hA
 have n1 := X1.n
 refine o_nil ?_
 refine o_rdP (r_build (cs := [.int .i64 (plF src T st.a)]) Ty.zero69 Ty.pl69 tP rfl) rfl rfl ?_
 refine o_rdP (r_ifc Try.underlying69 tE) rfl rfl ?_
 refine o_paP tE rfl ?_
 change _ ∧ _; exact ⟨rfl, rfl, ((Ext.refl WS).trans X1)⟩
end Go.Proofs.Ytehmhhlhlipbnaa.Vs
