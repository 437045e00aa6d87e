/-
  Value trees with a footprint: each list in a block of its own, with so many cells behind it.
-/
import Derived.Test.YtenfjdkeikjhlaaVjV
import Derived.Test.YtenfjdkeikjhlaaOwnL
set_option autoImplicit false
set_option linter.unusedVariables false
set_option linter.unusedSimpArgs false
namespace Go.VI
/-- What a number of blocks may have become otherwise. -/
structure Fr (X : List Nat) (H H' : AH) : Prop where
  n : H.n ≤ H'.n
  wf : Wf H'
  keep : ∀ c x, H.at c = some x → c ∉ X → H'.at c = some x
mutual
inductive FT (H : AH) (e : Nat) : List Nat → V → List AV → Prop where
  | mk (bs : List Nat) (k n : Int) (l : List V) (s : AV) (h : FSl H e bs l s) : FT H e bs (.mk k n l) [.int .i64 k, .int .i64 n, s]
inductive FSl (H : AH) (e : Nat) : List Nat → List V → AV → Prop where
  | nil : FSl H e [] [] .nils
  | sl (b : Nat) (bs : List Nat) (l : List V) (cs sp : List AV) (ha : H.at b = some (.row (cs ++ sp) 24 false none)) (hs : sp.length = e * 3) (hb : l.length ≤ 2000000) (h : FL H e bs l cs) : FSl H e (b :: bs) l (.sl (.mt b) 0 l.length (l.length + e))
inductive FL (H : AH) (e : Nat) : List Nat → List V → List AV → Prop where
  | nil : FL H e [] [] []
  | cons (bs bs' : List Nat) (v : V) (l : List V) (a cs : List AV) (h : FT H e bs v a) (k : FL H e bs' l cs) : FL H e (bs ++ bs') (v :: l) (a ++ cs)
end
section
variable {H H' : AH} {e : Nat}
theorem FT.len {bs : List Nat} {v : V} {a : List AV} (h : FT H e bs v a) : a.length = 3 := by cases h; rfl
theorem FL.len : ∀ {l : List V} {bs : List Nat} {cs : List AV}, FL H e bs l cs → cs.length = l.length * 3
  | [], _, _, h => by cases h; rfl
  | v :: l, _, _, h => by cases h with | cons _ _ _ _ a cs h k => simp [h.len, FL.len k]; omega
mutual
theorem FT.keep {bs : List Nat} {v : V} {a : List AV} : FT H e bs v a → (∀ c ∈ bs, ∀ x, H.at c = some x → H'.at c = some x) → FT H' e bs v a
  | .mk _ _ _ _ _ h, k => .mk _ _ _ _ _ (FSl.keep h k)
theorem FSl.keep {bs : List Nat} {l : List V} {s : AV} : FSl H e bs l s → (∀ c ∈ bs, ∀ x, H.at c = some x → H'.at c = some x) → FSl H' e bs l s
  | .nil, _ => .nil
  | .sl b bs l cs sp ha hs hb h, k => .sl b bs l cs sp (k b List.mem_cons_self _ ha) hs hb (FL.keep h fun c hc => k c (List.mem_cons_of_mem _ hc))
theorem FL.keep {bs : List Nat} {l : List V} {cs : List AV} : FL H e bs l cs → (∀ c ∈ bs, ∀ x, H.at c = some x → H'.at c = some x) → FL H' e bs l cs
  | .nil, _ => .nil
  | .cons bs bs' v l a cs h h2, k => .cons bs bs' v l a cs (FT.keep h fun c hc => k c (List.mem_append_left _ hc)) (FL.keep h2 fun c hc => k c (List.mem_append_right _ hc))
end
theorem FT.ext {bs : List Nat} {v : V} {a : List AV} (h : FT H e bs v a) (E : Ext H H') : FT H' e bs v a := h.keep fun c _ x hx => E.keep c x hx
theorem FSl.ext {bs : List Nat} {l : List V} {s : AV} (h : FSl H e bs l s) (E : Ext H H') : FSl H' e bs l s := h.keep fun c _ x hx => E.keep c x hx
theorem FT.fr {X bs : List Nat} {v : V} {a : List AV} (h : FT H e bs v a) (F : Fr X H H') (hd : ∀ c ∈ bs, c ∉ X) : FT H' e bs v a := h.keep fun c hc x hx => F.keep c x hx (hd c hc)
mutual
theorem FT.va {bs : List Nat} {v : V} {a : List AV} : FT H e bs v a → VA H v a
  | .mk _ _ _ _ _ h => .mk _ _ _ _ (FSl.sa h)
theorem FSl.sa {bs : List Nat} {l : List V} {s : AV} : FSl H e bs l s → SA H l s
  | .nil => .nil
  | .sl b bs l cs sp ha hs hb h => .sl _ (.mt b) 0 _ cs (by
      have hl := FL.len h
      rw [read_mt ha (by simp; omega), List.drop_zero, ← hl, List.take_left]) (by omega) (by omega) (FL.la h)
theorem FL.la {bs : List Nat} {l : List V} {cs : List AV} : FL H e bs l cs → LA H l cs
  | .nil => .nil
  | .cons bs bs' v l a cs h h2 => .cons _ _ _ _ (FT.va h) (FL.la h2)
end
theorem FL.append : ∀ {l r : List V} {bs bs' : List Nat} {cs ds : List AV}, FL H e bs l cs → FL H e bs' r ds → FL H e (bs ++ bs') (l ++ r) (cs ++ ds)
  | [], r, _, _, _, ds, h, k => by cases h; exact k
  | v :: l, r, _, _, _, ds, h, k => by
    cases h with | cons b1 b2 _ _ a cs h1 h2 => rw [List.append_assoc, List.append_assoc]; exact .cons _ _ _ _ _ _ h1 (FL.append h2 k)
/-- An element, and the others round it. -/
theorem FL.split : ∀ {l : List V} {bs : List Nat} {cs : List AV} {i : Nat} (hlt : i < l.length), FL H e bs l cs →
    ∃ b1 b2 b3 c1 a c2, bs = b1 ++ (b2 ++ b3) ∧ cs = c1 ++ (a ++ c2) ∧ c1.length = i * 3 ∧ FL H e b1 (l.take i) c1 ∧ FT H e b2 l[i] a ∧ FL H e b3 (l.drop (i + 1)) c2
  | v :: l, _, _, 0, hlt, h => by
    cases h with
    | cons b1 b2 _ _ a cs h k => exact ⟨[], b1, b2, [], a, cs, rfl, rfl, rfl, .nil, h, k⟩
  | v :: l, _, _, i + 1, hlt, h => by
    cases h with
    | cons q1 q2 _ _ a cs h k =>
      obtain ⟨b1, b2, b3, c1, x, c2, rfl, rfl, hl, h1, h2, h3⟩ := FL.split (i := i) (by simpa using hlt) k
      refine ⟨q1 ++ b1, b2, b3, a ++ c1, x, c2, by simp [List.append_assoc], by simp [List.append_assoc], by simp [h.len, hl]; omega, ?_, h2, h3⟩
      rw [List.take_succ_cons]; exact .cons _ _ _ _ _ _ h h1
/-- One element may become another one. -/
theorem FSl.focus {bs : List Nat} {l : List V} {s : AV} {i : Nat} (h : FSl H e bs l s) (hi : i < l.length) :
    ∃ b b1 b2 b3 c1 a c2, s = .sl (.mt b) 0 l.length (l.length + e) ∧ bs = b :: (b1 ++ (b2 ++ b3)) ∧ H.at b = some (.row (c1 ++ (a ++ c2)) 24 false none) ∧ c1.length = i * 3 ∧ FT H e b2 l[i] a ∧ a.length = 3 ∧
      ∀ (H' : AH) (v' : V) (a' : List AV), FT H' e b2 v' a' → H'.at b = some (.row (c1 ++ (a' ++ c2)) 24 false none) → (∀ c ∈ b1 ++ b3, ∀ x, H.at c = some x → H'.at c = some x) → FSl H' e bs (l.set i v') s := by
  cases h with
  | nil => simp at hi
  | sl b bs _ cs sp ha hs hb h =>
    obtain ⟨b1, b2, b3, c1, a, c2, rfl, rfl, hl, h1, h2, h3⟩ := h.split hi
    refine ⟨b, b1, b2, b3, c1, a, c2 ++ sp, rfl, rfl, by rw [ha]; simp [List.append_assoc], hl, h2, h2.len, fun H' v' a' k1 k2 k3 => ?_⟩
    have g1 : FL H' e b1 (l.take i) c1 := h1.keep fun c hc => k3 c (List.mem_append_left _ hc)
    have g3 : FL H' e b3 (l.drop (i + 1)) c2 := h3.keep fun c hc => k3 c (List.mem_append_right _ hc)
    have := FSl.sl b (b1 ++ (b2 ++ b3)) (l.set i v') (c1 ++ (a' ++ c2)) sp (by rw [k2]; simp [List.append_assoc]) hs (by simpa using hb) (by rw [set_parts hi]; exact g1.append (.cons _ _ _ _ _ _ k1 g3))
    simpa using this
mutual
theorem OA.ft {lo hi : Nat} {v : V} {a : List AV} : OA H lo hi v a → v.cnt ≤ 2000000 → ∃ bs : List Nat, bs.Nodup ∧ (∀ c ∈ bs, lo ≤ c ∧ c < hi) ∧ FT H 0 bs v a
  | .mk _ _ k n l s h, hc => by
    obtain ⟨bs, h1, h2, h3⟩ := OS.fs h (by simp only [V.cnt] at hc; omega)
    exact ⟨bs, h1, h2, .mk _ _ _ _ _ h3⟩
theorem OS.fs {lo hi : Nat} {l : List V} {s : AV} : OS H lo hi l s → V.cnts l ≤ 2000000 → ∃ bs : List Nat, bs.Nodup ∧ (∀ c ∈ bs, lo ≤ c ∧ c < hi) ∧ FSl H 0 bs l s
  | .nil _ _ hl, _ => ⟨[], List.nodup_nil, fun c hc => by simp at hc, .nil⟩
  | .sl _ _ b m l cs hlo hm hhi ha hb h, hc => by
    obtain ⟨bs, h1, h2, h3⟩ := OL.fl h hc
    refine ⟨b :: bs, List.nodup_cons.2 ⟨fun hm => ?_, h1⟩, fun c hm => ?_, ?_⟩
    · have := h2 b hm; omega
    · rcases List.mem_cons.1 hm with rfl | hm
      · have := h.le; omega
      · have := h2 c hm; omega
    · exact .sl b bs l cs [] (by rw [List.append_nil]; exact ha) rfl (by have := V.len_cnts l; omega) h3
theorem OL.fl {lo hi : Nat} {l : List V} {cs : List AV} : OL H lo hi l cs → V.cnts l ≤ 2000000 → ∃ bs : List Nat, bs.Nodup ∧ (∀ c ∈ bs, lo ≤ c ∧ c < hi) ∧ FL H 0 bs l cs
  | .nil _ _ hl, _ => ⟨[], List.nodup_nil, fun c hc => by simp at hc, .nil⟩
  | .cons _ mid _ v l a cs h k, hc => by
    simp only [V.cnts] at hc
    obtain ⟨b1, h1, h2, h3⟩ := OA.ft h (by omega)
    obtain ⟨b2, k1, k2, k3⟩ := OL.fl k (by omega)
    have := h.le; have := k.le
    refine ⟨b1 ++ b2, List.nodup_append.2 ⟨h1, k1, fun x hx y hy => ?_⟩, fun c hm => ?_, .cons _ _ _ _ _ _ h3 k3⟩
    · have := h2 x hx; have := k2 y hy; omega
    · rcases List.mem_append.1 hm with hm | hm
      · have := h2 c hm; omega
      · have := k2 c hm; omega
end
mutual
theorem PA.ft {lo hi : Nat} {v : V} {a : List AV} : PA H lo hi v a → v.cnt ≤ 2000000 → ∃ bs : List Nat, bs.Nodup ∧ (∀ c ∈ bs, lo ≤ c ∧ c < hi) ∧ FT H 1 bs v a
  | .mk _ _ k n l s h, hc => by
    obtain ⟨bs, h1, h2, h3⟩ := PS.fs h (by simp only [V.cnt] at hc; omega)
    exact ⟨bs, h1, h2, .mk _ _ _ _ _ h3⟩
theorem PS.fs {lo hi : Nat} {l : List V} {s : AV} : PS H lo hi l s → V.cnts l ≤ 2000000 → ∃ bs : List Nat, bs.Nodup ∧ (∀ c ∈ bs, lo ≤ c ∧ c < hi) ∧ FSl H 1 bs l s
  | .sl _ _ b m l cs z1 z2 hlo hm hhi ha hb h, hc => by
    obtain ⟨bs, h1, h2, h3⟩ := PL.fl h hc
    refine ⟨b :: bs, List.nodup_cons.2 ⟨fun hm => ?_, h1⟩, fun c hm => ?_, ?_⟩
    · have := h2 b hm; omega
    · rcases List.mem_cons.1 hm with rfl | hm
      · have := h.le; omega
      · have := h2 c hm; omega
    · exact .sl b bs l cs _ ha rfl (by have := V.len_cnts l; omega) h3
theorem PL.fl {lo hi : Nat} {l : List V} {cs : List AV} : PL H lo hi l cs → V.cnts l ≤ 2000000 → ∃ bs : List Nat, bs.Nodup ∧ (∀ c ∈ bs, lo ≤ c ∧ c < hi) ∧ FL H 1 bs l cs
  | .nil _ _ hl, _ => ⟨[], List.nodup_nil, fun c hc => by simp at hc, .nil⟩
  | .cons _ mid _ v l a cs h k, hc => by
    simp only [V.cnts] at hc
    obtain ⟨b1, h1, h2, h3⟩ := PA.ft h (by omega)
    obtain ⟨b2, k1, k2, k3⟩ := PL.fl k (by omega)
    have := h.le; have := k.le
    refine ⟨b1 ++ b2, List.nodup_append.2 ⟨h1, k1, fun x hx y hy => ?_⟩, fun c hm => ?_, .cons _ _ _ _ _ _ h3 k3⟩
    · have := h2 x hx; have := k2 y hy; omega
    · rcases List.mem_append.1 hm with hm | hm
      · have := h2 c hm; omega
      · have := k2 c hm; omega
end
/-- A hole at a place of a tree of one's own: whatever tree with a footprint elsewhere is put there. -/
def CtxF (H : AH) (B0 hB rb b off lo hi : Nat) (plug : V → V) : Prop :=
  ∀ (H' : AH) (a' : List AV) (v' : V) (bs' : List Nat), (∀ c x, B0 ≤ c → H.at c = some x → ¬ (lo ≤ c ∧ c < hi) → c ≠ b → H'.at c = some x) →
    (∀ cells el, H.at b = some (.row cells el false none) → H'.at b = some (.row (splice cells off a') el false none)) → FT H' 0 bs' v' a' → bs'.Nodup → (∀ c ∈ bs', B0 ≤ c ∧ (c < hB → lo ≤ c ∧ c < hi)) →
    ∃ k n s bs2, H'.at rb = some (.row [.int .i64 k, .int .i64 n, s] 24 false none) ∧ FT H' 0 bs2 (plug v') [.int .i64 k, .int .i64 n, s] ∧ bs2.Nodup ∧ ∀ c ∈ bs2, B0 ≤ c ∧ (c ∈ bs' ∨ c < hB)
theorem CtxF.ext {B0 hB rb b off lo hi : Nat} {plug : V → V} (C : CtxF H B0 hB rb b off lo hi plug) (E : Ext H H') {cells : List AV} {el : TypeId} (hb : H.at b = some (.row cells el false none)) : CtxF H' B0 hB rb b off lo hi plug := fun H'' a' v' bs' h1 h2 h3 h4 h5 =>
  C H'' a' v' bs' (fun c x k0 e k1 k2 => h1 c x k0 (E.keep c x e) k1 k2) (fun cells el e => h2 cells el (E.keep b _ e)) h3 h4 h5
theorem ctxF_init {B0 hB rb lo hi : Nat} {x y z : AV} (h : H.at rb = some (.row [x, y, z] 24 false none)) : CtxF H B0 hB rb rb 0 lo hi id := fun H' a' v' bs' _ h2 h3 h4 h5 => by
  cases h3 with
  | mk _ k n l s hs => exact ⟨k, n, s, bs', h2 _ _ h, .mk _ _ _ _ _ hs, h4, fun c hc => ⟨(h5 c hc).1, .inl hc⟩⟩
/-- one step further down -/
theorem CtxF.step {B0 hB rb b off lo hi i : Nat} {plug : V → V} {k n : Int} {l : List V} {s : AV} {cells : List AV} {el : TypeId} (C : CtxF H B0 hB rb b off lo hi plug) (hcn : V.cnts l ≤ 2000000) (hhB : hi ≤ hB) (hB1 : B0 ≤ lo) (hB2 : B0 ≤ b) (hb : H.at b = some (.row cells el false none))
    (hw : (cells.drop off).take 3 = [.int .i64 k, .int .i64 n, s]) (hO : OS H lo hi l s) (hbn : ¬ (lo ≤ b ∧ b < hi)) (hi' : i < l.length) :
    ∃ c cs m1 m2 k' n' l' s', s = .sl (.mt c) 0 l.length l.length ∧ H.at c = some (.row cs 24 false none) ∧ i * 3 + 3 ≤ cs.length ∧ (cs.drop (i * 3)).take 3 = [.int .i64 k', .int .i64 n', s'] ∧ l[i] = .mk k' n' l' ∧ OS H m1 m2 l' s' ∧ ¬ (m1 ≤ c ∧ c < m2) ∧ lo ≤ c ∧ c < m1 ∧ m2 ≤ hi ∧
      CtxF H B0 hB rb c (i * 3) m1 m2 (fun v' => plug (.mk k n (l.set i v'))) := by
  cases hO with
  | nil => simp at hi'
  | sl _ _ c m _ cs hlo hm hhi ha hbb h =>
    have hlen := h.len
    obtain ⟨m1, m2, c1, a, c2, rfl, hc1, h1, h2, h3⟩ := OL.split hi' h
    have hal := h2.len
    have hm1 := h1.le
    have hm2 := h2.le
    have hm3 := h3.le
    obtain ⟨k', n', l', s', rfl, hl, -⟩ := h2.va.inv
    have hos : OS H m1 m2 l' s' := by rw [hl] at h2; cases h2 with | mk _ _ _ _ _ _ h => exact h
    refine ⟨c, _, m1, m2, k', n', l', s', rfl, ha, by omega, ?_, hl, hos, by omega, hlo, by omega, by omega, fun H' a' v' bs' f1 f2 f3 f4 f5 => ?_⟩
    · rw [List.append_assoc, ← hc1, List.drop_left]; rfl
    · have hrow := f2 _ _ ha
      rw [List.append_assoc, splice_mid hc1 (by rw [f3.len]; rfl)] at hrow
      have hcc : V.cnts (l.take i) ≤ 2000000 ∧ V.cnts (l.drop (i + 1)) ≤ 2000000 := by
        have h4 : l = l.take i ++ (l[i] :: l.drop (i + 1)) := by rw [List.getElem_cons_drop, List.take_append_drop]
        have h5 := V.cnts_append (l.take i) (l[i] :: l.drop (i + 1))
        rw [← h4] at h5
        simp only [V.cnts] at h5
        omega
      obtain ⟨q1, n1, r1, g1⟩ := (h1.same (H' := H') fun c0 x q1 q2 e => f1 c0 x (by omega) e (by omega) (by omega)).fl hcc.1
      obtain ⟨q3, n3, r3, g3⟩ := (h3.same (H' := H') fun c0 x q1 q2 e => f1 c0 x (by omega) e (by omega) (by omega)).fl hcc.2
      have hFL : FL H' 0 (q1 ++ (bs' ++ q3)) (l.set i v') (c1 ++ (a' ++ c2)) := by
        rw [set_parts hi']
        exact g1.append (.cons _ _ _ _ _ _ f3 g3)
      obtain ⟨k2, n2, s2, bs2, z1, z2, z3, z4⟩ := C H' [.int .i64 k, .int .i64 n, .sl (.mt c) 0 l.length l.length] (.mk k n (l.set i v')) (c :: (q1 ++ (bs' ++ q3))) (fun c0 x q0 e q1 q2 => f1 c0 x q0 e (by omega) (by omega)) (fun cells' el' e => by
        rw [hb] at e; injection e with e; injection e with e1 e2; subst e1; subst e2
        rw [splice_self (by exact hw)]
        exact f1 b _ hB2 hb (by omega) (by omega)) (.mk _ _ _ _ _ (by
          have := FSl.sl (H := H') (e := 0) c (q1 ++ (bs' ++ q3)) (l.set i v') (c1 ++ (a' ++ c2)) [] (by rw [List.append_nil]; exact hrow) rfl (by rw [List.length_set]; have := V.len_cnts l; omega) hFL
          simpa using this))
        (List.nodup_cons.2 ⟨fun hm => by
          rcases List.mem_append.1 hm with hm | hm
          · have := r1 _ hm; omega
          · rcases List.mem_append.1 hm with hm | hm
            · have := f5 _ hm; omega
            · have := r3 _ hm; omega,
          List.nodup_append.2 ⟨n1, List.nodup_append.2 ⟨f4, n3, fun x hx y hy => by have := f5 x hx; have := r3 y hy; omega⟩, fun x hx y hy => by
            have := r1 x hx
            rcases List.mem_append.1 hy with hy | hy
            · have := f5 y hy; omega
            · have := r3 y hy; omega⟩⟩)
        (fun c0 hm => by
          rcases List.mem_cons.1 hm with rfl | hm
          · omega
          · rcases List.mem_append.1 hm with hm | hm
            · have := r1 _ hm; omega
            · rcases List.mem_append.1 hm with hm | hm
              · have := f5 _ hm; omega
              · have := r3 _ hm; omega)
      refine ⟨k2, n2, s2, bs2, z1, z2, z3, fun c0 hm => ⟨(z4 c0 hm).1, ?_⟩⟩
      rcases (z4 c0 hm).2 with hm | hm
      · rcases List.mem_cons.1 hm with rfl | hm
        · exact .inr (by omega)
        · rcases List.mem_append.1 hm with hm | hm
          · have := r1 _ hm; exact .inr (by omega)
          · rcases List.mem_append.1 hm with hm | hm
            · exact .inl hm
            · have := r3 _ hm; exact .inr (by omega)
      · exact .inr hm
end
end Go.VI
