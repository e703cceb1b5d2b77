/- What replaying keeps: what is below; filling; two values as three; every filling. -/
import Derived.Test.YtjbfplfopagpjaaC23
namespace Go.Vd
open Go.Proofs

/-! ### Below -/

abbrev lowR (x y : List (List Int)) : Bool := pairs (pairs lowT) x y
structure LowTr (u t : Trace) : Prop where
  b : u.bad = t.bad
  i : pairs lowT u.ini t.ini = true
  n : lowR u.ins t.ins = true
theorem fill_low : ∀ (l : List Int) (m : List Bool), pairs lowT (fillR m l) l = true
  | [], m => by simp [fillR, pairs]
  | x :: xs, m => by
    by_cases h : x = 2
    · cases m with
      | nil => rw [fillR_h0 h]; simp only [pairs, Bool.and_eq_true]; exact ⟨low_refl x, fill_low xs []⟩
      | cons b m => rw [fillR_h1 h]; simp only [pairs, Bool.and_eq_true]; exact ⟨by rw [h]; exact low_top _, fill_low xs m⟩
    · rw [fillR_nn h]; simp only [pairs, Bool.and_eq_true]; exact ⟨low_refl x, fill_low xs m⟩
theorem fillRows_low : ∀ (rs : List (List Int)) (m : List Bool), lowR (fillRows m rs) rs = true
  | [], _ => rfl
  | r :: rs, m => by simp only [fillRows, lowR, pairs, Bool.and_eq_true]; exact ⟨fill_low r m, fillRows_low rs _⟩
theorem fillT_low (t : Trace) (m : List Bool) : LowTr (fillT t m) t := ⟨rfl, fill_low _ _, fillRows_low _ _⟩
theorem fill_tri : ∀ (l : List Int) (m : List Bool), TriL l → TriL (fillR m l)
  | [], m, _ => by simp [fillR]; exact TriL.nil
  | x :: xs, m, h => by
    have h1 : TriL xs := fun y hy => h y (List.mem_cons_of_mem _ hy)
    by_cases hx : x = 2
    · cases m with
      | nil => rw [fillR_h0 hx]; exact TriL.cons (h x List.mem_cons_self) (fill_tri xs [] h1)
      | cons b m => rw [fillR_h1 hx]; exact TriL.cons (ofB_tri b) (fill_tri xs m h1)
    · rw [fillR_nn hx]; exact TriL.cons (h x List.mem_cons_self) (fill_tri xs m h1)
theorem fillRows_tri : ∀ (rs : List (List Int)) (m : List Bool), (∀ r, r ∈ rs → TriL r) → ∀ r, r ∈ fillRows m rs → TriL r
  | [], _, _, _, hr => by simp [fillRows] at hr
  | x :: rs, m, h, r, hr => by
    simp only [fillRows, List.mem_cons] at hr
    rcases hr with rfl | hr
    · exact fill_tri _ _ (h x List.mem_cons_self)
    · exact fillRows_tri rs _ (fun y hy => h y (List.mem_cons_of_mem _ hy)) r hr
theorem starts_low : ∀ {ls : List Latch} {x y : List Int}, pairs lowT x y = true → pairs startsT ls y = true → pairs startsT ls x = true
  | [], [], [], _, h => h
  | l :: ls, x :: xs, y :: ys, h, h' => by
    simp only [pairs, Bool.and_eq_true] at h h' ⊢
    refine ⟨?_, starts_low h.2 h'.2⟩
    have h1 := low_iff.1 h.1
    have h2 := h'.1
    simp only [startsT, Bool.or_eq_true, decide_eq_true_eq] at h2 ⊢
    omega
  | [], _ :: _, [], h, _ => by simp [pairs] at h
  | [], [], _ :: _, h, _ => by simp [pairs] at h
  | [], _ :: _, _ :: _, _, h => by simp [pairs] at h
  | _ :: _, [], [], _, h => by simp [pairs] at h
  | _ :: _, _ :: _, [], h, _ => by simp [pairs] at h
  | _ :: _, [], _ :: _, h, _ => by simp [pairs] at h
theorem lowR_len {i : Int} : ∀ {x y : List (List Int)}, lowR x y = true → (∀ r, r ∈ y → (r.length : Int) = i) → ∀ r, r ∈ x → (r.length : Int) = i
  | [], [], _, _, r, hr => by cases hr
  | x :: xs, y :: ys, h, hy, r, hr => by
    simp only [lowR, pairs, Bool.and_eq_true] at h
    rcases List.mem_cons.1 hr with rfl | hr
    · rw [pairs_same h.1]; exact hy y List.mem_cons_self
    · exact lowR_len h.2 (fun z hz => hy z (List.mem_cons_of_mem _ hz)) r hr
  | [], _ :: _, h, _, _, _ => by simp [pairs] at h
  | _ :: _, [], h, _, _, _ => by simp [pairs] at h
/-- What is below a right trace, and of values, is right. -/
theorem okt_low {a : Aig} {t u : Trace} (h : Okt a t) (hl : LowTr u t) (hi : TriL u.ini) (hn : ∀ r, r ∈ u.ins → TriL r) : Okt a u := by
  have hlen := pairs_same hl.n
  exact ⟨⟨by rw [hl.b]; exact h.r.b0, by rw [hl.b]; exact h.r.b1, by rw [hlen]; exact h.r.n0, by rw [hlen]; exact h.r.n1, hi.isTri, starts_low hl.i h.r.ip, lowR_len hl.n h.r.rl, fun r hr => (hn r hr).isTri⟩, hi, hn⟩
theorem okt_fill {a : Aig} {t : Trace} (h : Okt a t) (m : List Bool) : Okt a (fillT t m) := okt_low h (fillT_low t m) (fill_tri _ _ h.i) (fillRows_tri _ _ h.n)
theorem low_get {x y : List Int} (h : pairs lowT x y = true) (k : Nat) : lowT (x.getD k default) (y.getD k default) = true := by
  by_cases hk : k < x.length
  · exact ((pairs_iff lowT x y).1 h).2 k hk
  · have := pairs_same h
    rw [List.getD_eq_getElem?_getD, List.getD_eq_getElem?_getD, List.getElem?_eq_none (by omega), List.getElem?_eq_none (by omega)]; rfl
theorem low_ones : ∀ {x y : List Int}, pairs lowT x y = true → (y.all fun a => decide (a = 1)) = true → (x.all fun a => decide (a = 1)) = true
  | [], [], _, _ => rfl
  | x :: xs, y :: ys, h, h' => by
    simp only [pairs, List.all_cons, Bool.and_eq_true, decide_eq_true_eq] at h h' ⊢
    refine ⟨?_, low_ones h.2 h'.2⟩
    have := low_iff.1 h.1; omega
  | [], _ :: _, h, _ => by simp [pairs] at h
  | _ :: _, [], h, _ => by simp [pairs] at h
/-- Rows that fit a model, and are values. -/
def Rok (a : Aig) (rs : List (List Int)) : Prop := ∀ r, r ∈ rs → (r.length : Int) = a.i ∧ TriL r
theorem Okt.rok {a : Aig} {t : Trace} (h : Okt a t) : Rok a t.ins := fun r hr => ⟨h.r.rl r hr, h.n r hr⟩
theorem tern_low {a : Aig} {k : Nat} : ∀ {x y : List (List Int)} {s' s : List Int} {b' b : Int}, lowR x y = true → pairs lowT s' s = true → lowT b' b = true → s'.length = a.l.length → TriL s' → s.length = a.l.length → TriL s → Rok a x → Rok a y →
    ternGo k b (frT a s y) = 1 → ternGo k b' (frT a s' x) = 1
  | [], [], _, _, b', b, _, _, hb, _, _, _, _, _, _, h => by
    simp only [frT, ternGo] at h ⊢
    have := low_iff.1 hb; omega
  | x :: xs, y :: ys, s', s, b', b, hl, hs, hb, h1, h2, h3, h4, hx, hy, h => by
    simp only [lowR, pairs, Bool.and_eq_true] at hl
    have n1 := stepT_next h1 h2 (hx x List.mem_cons_self).1 (hx x List.mem_cons_self).2
    have n2 := stepT_next h3 h4 (hy y List.mem_cons_self).1 (hy y List.mem_cons_self).2
    have hst := stepT_low n1.1 n2.1 hs hl.1
    simp only [frT, ternGo] at h ⊢
    by_cases hc : conT (stepT a s y) = true
    · rw [if_pos hc] at h
      rw [if_pos (show conT (stepT a s' x) = true from low_ones hst.2.2.2 hc)]
      exact tern_low hl.2 hst.1 (low_get hst.2.2.1 k) n1.2.1 n1.2.2 n2.2.1 n2.2.2 (fun r hr => hx r (List.mem_cons_of_mem _ hr)) (fun r hr => hy r (List.mem_cons_of_mem _ hr)) h
    · rw [if_neg hc] at h; cases h
  | [], _ :: _, _, _, _, _, h, _, _, _, _, _, _, _, _, _ => by simp [pairs] at h
  | _ :: _, [], _, _, _, _, h, _, _, _, _, _, _, _, _, _ => by simp [pairs] at h
theorem ternary0 {a : Aig} {t : Trace} : ternaryT a t = 0 ↔ rightT a t = true ∧ ternGo t.bad.toNat 0 (frT a t.ini t.ins) = 1 := by
  cases hb : rightT a t with
  | false => rw [ternaryT_bad hb]; simp
  | true =>
    by_cases h : ternGo t.bad.toNat 0 (frT a t.ini t.ins) = 1
    · rw [ternaryT_0 hb h]; simp [h]
    · rw [ternaryT_8 hb h]; simp [h]
theorem ternary_low {a : Aig} {t u : Trace} (ht : Okt a t) (hu : Okt a u) (hl : LowTr u t) (h : ternaryT a t = 0) : ternaryT a u = 0 := by
  rw [ternary0] at h ⊢
  refine ⟨rightT_iff.2 hu.r, ?_⟩
  rw [hl.b]
  exact tern_low hl.n hl.i rfl hu.r.il hu.i ht.r.il ht.i hu.rok ht.rok h.2
theorem states_low {a : Aig} : ∀ {x y : List (List Int)} {s' s : List Int}, lowR x y = true → pairs lowT s' s = true → s'.length = a.l.length → TriL s' → s.length = a.l.length → TriL s → Rok a x → Rok a y →
    lowR (s' :: (frT a s' x).map StepT.n) (s :: (frT a s y).map StepT.n) = true
  | [], [], _, _, _, hs, _, _, _, _, _, _ => by simp [frT, lowR, pairs]; exact hs
  | x :: xs, y :: ys, s', s, hl, hs, h1, h2, h3, h4, hx, hy => by
    simp only [lowR, pairs, Bool.and_eq_true] at hl
    have n1 := stepT_next h1 h2 (hx x List.mem_cons_self).1 (hx x List.mem_cons_self).2
    have n2 := stepT_next h3 h4 (hy y List.mem_cons_self).1 (hy y List.mem_cons_self).2
    have hst := stepT_low n1.1 n2.1 hs hl.1
    have := states_low (a := a) hl.2 hst.1 n1.2.1 n1.2.2 n2.2.1 n2.2.2 (fun r hr => hx r (List.mem_cons_of_mem _ hr)) (fun r hr => hy r (List.mem_cons_of_mem _ hr))
    simp only [frT, List.map_cons, lowR, pairs, Bool.and_eq_true] at this ⊢
    exact ⟨hs, this⟩
  | [], _ :: _, _, _, h, _, _, _, _, _, _, _ => by simp [pairs] at h
  | _ :: _, [], _, _, h, _, _, _, _, _, _, _ => by simp [pairs] at h

/-! ### Without holes -/

theorem flags_back : ∀ {l : List Int}, TriL l → manyT l = 0 → (flagsT l).map ofB = l
  | [], _, _ => rfl
  | x :: xs, h, h0 => by
    rw [manyT_cons] at h0
    have hx : x ≠ 2 := fun e => by rw [if_pos e] at h0; omega
    have h1 := flags_back (l := xs) (fun y hy => h y (List.mem_cons_of_mem _ hy)) (by omega)
    simp only [flagsT, List.map_cons] at h1 ⊢
    rw [h1]
    rcases (h x List.mem_cons_self).cases with rfl | rfl | rfl
    · rfl
    · rfl
    · exact absurd rfl hx
theorem con_two (c : List Bool) : ((c.map ofB).all fun x => decide (x = 1)) = !(c.any fun b => false == b) := by
  induction c with
  | nil => rfl
  | cons b c ih => cases b <;> simp [ofB] at ih ⊢; exact ih
theorem getD_ofB (b : List Bool) (k : Nat) : (b.map ofB).getD k default = ofB (b.getD k default) := by
  by_cases h : k < b.length
  · exact getD_mapf ofB h
  · rw [List.getD_eq_getElem?_getD, List.getD_eq_getElem?_getD, List.getElem?_eq_none (by simpa using h), List.getElem?_eq_none (by omega)]; rfl
theorem tern_two {a : Aig} (hg : Good a) {k : Nat} : ∀ (ins : List (List Int)) (s : List Bool) (b : Bool), s.length = a.l.length → Rok a ins → manyR ins = 0 → ternGo k (ofB b) (frT a (s.map ofB) ins) = ofB (wholeGo a k b s ins)
  | [], _, _, _, _, _ => rfl
  | r :: rs, s, b, hs, hr, h0 => by
    simp only [manyR, List.map_cons, List.sum_cons] at h0
    have h1 := hr r List.mem_cons_self
    have hso : shapeOk a s (flagsT r) := ⟨hs, by rw [flagsT_len]; exact h1.1⟩
    have hst := stepT_two hg s (flagsT r)
    rw [flags_back h1.2 (by omega), stepS_is hso] at hst
    simp only [frT, ternGo, wholeGo, conT, hst, con_two, getD_ofB]
    cases hc : ((stepOk a s (flagsT r)).c.any fun b => false == b) with
    | true => simp [ofB]
    | false =>
      simp only [Bool.not_false, if_true]
      exact tern_two hg rs _ _ (by simp) (fun x hx => hr x (List.mem_cons_of_mem _ hx)) (by simp only [manyR]; omega)
theorem whole_tern {a : Aig} (hg : Good a) {t : Trace} (ho : Okt a t) (h0 : holesT t = 0) : wholeT a t = ternaryT a t := by
  have hr := rightT_iff.2 ho.r
  have h1 : manyT t.ini = 0 ∧ manyR t.ins = 0 := by
    simp only [holesT, manyR, List.map_cons, List.sum_cons] at h0
    simp only [manyR]; omega
  have ht := tern_two hg (k := t.bad.toNat) t.ins (flagsT t.ini) false (by rw [flagsT_len]; exact ho.r.il) ho.rok h1.2
  rw [flags_back ho.i h1.1] at ht
  cases hw : wholeGo a t.bad.toNat false (flagsT t.ini) t.ins with
  | true =>
    rw [hw] at ht
    rw [wholeT_0 hr h0 hw, ternaryT_0 hr (by exact ht)]
  | false =>
    rw [hw] at ht
    rw [wholeT_8 hr h0 hw, ternaryT_8 hr (by rw [show (0 : Int) = ofB false from rfl, ht]; decide)]
theorem whole_78 {a : Aig} {t : Trace} (h : rightT a t = true) (h0 : holesT t = 0) : wholeT a t = 0 ∨ wholeT a t = 8 := by
  cases hw : wholeGo a t.bad.toNat false (flagsT t.ini) t.ins with
  | true => exact .inl (wholeT_0 h h0 hw)
  | false => exact .inr (wholeT_8 h h0 hw)
theorem fill_none : ∀ (l : List Int) (m : List Bool), manyT l ≤ m.length → manyT (fillR m l) = 0
  | [], m, _ => by simp [fillR, manyT]
  | x :: xs, m, h => by
    rw [manyT_cons] at h
    by_cases hx : x = 2
    · rw [if_pos hx] at h
      cases m with
      | nil => simp at h
      | cons b m =>
        simp only [List.length_cons] at h
        rw [fillR_h1 hx, manyT_cons, if_neg (ofB_ne b), fill_none xs m (by omega)]
    · rw [if_neg hx] at h
      rw [fillR_nn hx, manyT_cons, if_neg hx, fill_none xs m (by omega)]
theorem fillRows_none : ∀ (rs : List (List Int)) (m : List Bool), manyR rs ≤ m.length → manyR (fillRows m rs) = 0
  | [], _, _ => rfl
  | r :: rs, m, h => by
    simp only [manyR, List.map_cons, List.sum_cons] at h
    have h1 := fill_none r m (by omega)
    have h2 := fillRows_none rs (m.drop (manyT r)) (by simp only [manyR, List.length_drop]; omega)
    simp only [manyR, fillRows, List.map_cons, List.sum_cons] at h2 ⊢
    omega
theorem fillT_none {t : Trace} {m : List Bool} (h : holesT t ≤ m.length) : holesT (fillT t m) = 0 := by
  have hc : ∀ (r : List Int) (rs : List (List Int)), manyR (r :: rs) = manyT r + manyR rs := fun r rs => by simp [manyR]
  simp only [holesT] at h
  rw [hc] at h
  simp only [holesT, fillT]
  rw [hc, fill_none _ _ (by omega), fillRows_none _ _ (by simp only [List.length_drop]; omega)]

/-! ### Every filling -/

def allB : Nat → (List Bool → Bool) → Bool
  | 0, p => p []
  | n + 1, p => allB n (fun m => p (false :: m)) && allB n (fun m => p (true :: m))
theorem allB_iff : ∀ {n : Nat} {p : List Bool → Bool}, allB n p = true ↔ ∀ m, m.length = n → p m = true
  | 0, p => by
    simp only [allB]
    constructor
    · intro h m hm; rw [List.eq_nil_of_length_eq_zero hm]; exact h
    · intro h; exact h [] rfl
  | n + 1, p => by
    simp only [allB, Bool.and_eq_true, allB_iff (n := n)]
    constructor
    · rintro ⟨h1, h2⟩ m hm
      match m, hm with
      | false :: m, hm => exact h1 m (by simpa using hm)
      | true :: m, hm => exact h2 m (by simpa using hm)
    · intro h
      exact ⟨fun m hm => h _ (by simp [hm]), fun m hm => h _ (by simp [hm])⟩
def bitsK (n k : Nat) : List Bool := (List.range n).map fun i => decide (k / 2 ^ i % 2 = 1)
theorem bitsK_len (n k : Nat) : (bitsK n k).length = n := by simp [bitsK]
theorem bitsK_succ (n k : Nat) : bitsK (n + 1) k = decide (k % 2 = 1) :: bitsK n (k / 2) := by
  simp only [bitsK, List.range_succ_eq_map, List.map_cons, List.map_map, Nat.pow_zero, Nat.div_one]
  congr 1
  refine List.map_congr_left fun i _ => ?_
  have h : k / 2 ^ (i + 1) = k / 2 / 2 ^ i := by rw [Nat.pow_succ, Nat.mul_comm, Nat.div_div_eq_div_mul]
  exact decide_eq_decide.2 (show k / 2 ^ (i + 1) % 2 = 1 ↔ _ by rw [h])
theorem bitsK_all : ∀ (m : List Bool), ∃ k, k < 2 ^ m.length ∧ bitsK m.length k = m
  | [] => ⟨0, by simp, rfl⟩
  | b :: m => by
    obtain ⟨k, h1, h2⟩ := bitsK_all m
    refine ⟨(if b then 1 else 0) + 2 * k, ?_, ?_⟩
    · simp only [List.length_cons, Nat.pow_succ]; split <;> omega
    · simp only [List.length_cons]
      rw [bitsK_succ]
      have h3 : ((if b then 1 else 0) + 2 * k) / 2 = k := by split <;> omega
      rw [h3, h2]
      cases b <;> simp <;> omega
def okF (a : Aig) (t : Trace) (m : List Bool) : Bool := decide (wholeT a (fillT t m) = 0)
def everyT (a : Aig) (t : Trace) (most : Int) : Int :=
  if rightT a t = true then (if (holesT t : Int) > most ∨ holesT t > 12 then 3 else if allB (holesT t) (okF a t) = true then 0 else 8) else 7
theorem everyT_7 {a : Aig} {t : Trace} {most : Int} (h : rightT a t = false) : everyT a t most = 7 := by simp only [everyT]; rw [if_neg (by rw [h]; exact Bool.false_ne_true)]
theorem everyT_3 {a : Aig} {t : Trace} {most : Int} (h : rightT a t = true) (h' : (holesT t : Int) > most ∨ holesT t > 12) : everyT a t most = 3 := by simp only [everyT]; rw [if_pos h, if_pos h']
theorem everyT_0 {a : Aig} {t : Trace} {most : Int} (h : rightT a t = true) (h' : ¬ ((holesT t : Int) > most ∨ holesT t > 12)) (h2 : allB (holesT t) (okF a t) = true) : everyT a t most = 0 := by simp only [everyT]; rw [if_pos h, if_neg h', if_pos h2]
theorem everyT_8 {a : Aig} {t : Trace} {most : Int} (h : rightT a t = true) (h' : ¬ ((holesT t : Int) > most ∨ holesT t > 12)) (h2 : ¬ allB (holesT t) (okF a t) = true) : everyT a t most = 8 := by simp only [everyT]; rw [if_pos h, if_neg h', if_neg h2]
theorem fill_78 {a : Aig} {t : Trace} (ho : Okt a t) {m : List Bool} (h : holesT t ≤ m.length) : wholeT a (fillT t m) = 0 ∨ wholeT a (fillT t m) = 8 := whole_78 (rightT_iff.2 (okt_fill ho m).r) (fillT_none h)
theorem fill_sz {t : Trace} (h : SzT t) (m : List Bool) : SzT (fillT t m) := ⟨by show (fillR m t.ini).length ≤ _; rw [fillR_len]; exact h.il, by show (fillRows _ t.ins).length ≤ _; rw [fillRows_len]; exact h.nl, fun r hr => by
  have : ∀ (rs : List (List Int)) (m : List Bool), (∀ r, r ∈ rs → r.length ≤ 1000000) → ∀ r, r ∈ fillRows m rs → r.length ≤ 1000000 := by
    intro rs
    induction rs with
    | nil => intro m _ r hr; simp [fillRows] at hr
    | cons x rs ih =>
      intro m hx r hr
      simp only [fillRows, List.mem_cons] at hr
      rcases hr with rfl | hr
      · rw [fillR_len]; exact hx x List.mem_cons_self
      · exact ih _ (fun y hy => hx y (List.mem_cons_of_mem _ hy)) r hr
  exact this t.ins _ h.rl r hr⟩
theorem bits_set {n k i : Nat} (h : i < n) : ((bitsK n k).take i ++ List.replicate (n - i) false).set i (decide (k / 2 ^ i % 2 = 1)) = (bitsK n k).take (i + 1) ++ List.replicate (n - (i + 1)) false := by
  have hl : ((bitsK n k).take i).length = i := by simp [bitsK_len]; omega
  have hb : (bitsK n k).getD i default = decide (k / 2 ^ i % 2 = 1) := by
    rw [List.getD_eq_getElem?_getD, bitsK, List.getElem?_map, List.getElem?_range h]; rfl
  rw [take_snoc (by rw [bitsK_len]; exact h), hb, List.set_append_right _ _ (by omega), hl, Nat.sub_self, show n - i = n - (i + 1) + 1 by omega, List.replicate_succ]
  simp

theorem pc_87 (a : Aig) (t : Trace) (most : Int) (hf : Fit a) (hb : Bd a) (hz : SzT t) (hn : Nn t.ini) (hn2 : ∀ r, r ∈ t.ins → Nn r) : PCall Try.prog 87 [aigV a, trV t, .int .i64 most] (.int .i64 (everyT a t most)) := by
  refine pc_of tab_ok (f := 87) (fn := Try.f87) (N := 52) (rs := [.tmp 6]) (by kernel_rfl) rfl (by kernel_rfl) rfl rfl [(0, .v (aigV a)), (1, .v (trV t)), (2, .v (.int .i64 most))] ⟨rfl, rfl, rfl, trivial⟩ rfl rfl ?_
  intro B
  refine wp_seq ?_
  refine wp_reg (by kernel_rfl) ?_
  refine ar_box 3 [] rfl rfl rfl ⟨rfl, trivial⟩ rfl rfl rfl ?_
  refine ar_box 4 [] rfl rfl rfl ⟨rfl, trivial⟩ rfl rfl rfl ?_
  refine ar_assign rfl rfl rfl rfl ?_
  refine ar_nil ?_
  refine then_n ?_
  refine wp_seq ?_
  refine wp_seq ?_
  refine wp_reg (by kernel_rfl) ?_
  refine ar_lda tab_ok rfl rfl rfl tb27 rfl rfl rfl rfl rfl rfl ?_
  refine ar_lda tab_ok rfl rfl rfl tb101 rfl rfl rfl rfl rfl rfl ?_
  refine ar_call [] (pc_113 a t hf hn (by have := hz.il; omega) (by have := hz.nl; omega) (fun r hr => by have := hz.rl r hr; omega)) rfl rfl rfl rfl rfl rfl trivial (.inl rfl) rfl rfl rfl ?_
  refine ar_split (fun h14 => ?_) (fun h14 => ?_)
  · refine ar_not rfl rfl rfl rfl rfl ?_
    refine ar_nil ?_
    refine then_n ?_
    refine wp_condF rfl ?_
    refine wp_skip ?_
    refine then_n ?_
    refine wp_seq ?_
    have ho := okt_of (rightT_iff.1 h14) hn hn2
    refine wp_reg (by kernel_rfl) ?_
    refine ar_lda tab_ok rfl rfl rfl tb101 rfl rfl rfl rfl rfl rfl ?_
    refine ar_call [] (pc_126 t hz) rfl rfl rfl rfl rfl rfl trivial (.inl rfl) rfl rfl rfl ?_
    refine ar_assign rfl rfl rfl rfl ?_
    refine ar_nil ?_
    refine then_n ?_
    refine wp_seq ?_
    refine wp_seq ?_
    refine wp_reg (by kernel_rfl) ?_
    refine ar_move rfl rfl rfl rfl ?_
    refine ar_move rfl rfl rfl rfl ?_
    refine ar_min rfl rfl rfl rfl rfl rfl ?_
    refine ar_gtr_s rfl rfl rfl rfl rfl (fun h21 => ?_) (fun h21 => ?_)
    · refine ar_nil ?_
      refine then_n ?_
      refine wp_condT rfl ?_
      refine wp_seq ?_
      refine wp_reg (by kernel_rfl) ?_
      refine ar_assign rfl rfl rfl rfl ?_
      refine ar_nil ?_
      refine then_n ?_
      refine wp_ret ?_
      refine then_r (ret_post rfl rfl ?_)
      first | (rw [everyT_7 h14]; done) | (rw [everyT_3 h14 (by omega)]; done) | (rw [everyT_8 h14 (by omega) (fun hh => h49 (by have := allB_iff.1 hh _ (bitsK_len (holesT t) k); exact of_decide_eq_true this))]; have := (fill_78 ho (m := bitsK (holesT t) k) (by rw [bitsK_len]; exact Nat.le_refl _)).resolve_left h49; rw [this]; done) | (rw [everyT_0 h14 (by omega) (allB_iff.2 (fun m hm => by obtain ⟨q, hq1, hq2⟩ := bitsK_all m; rw [hm] at hq1 hq2; rw [← hq2]; exact decide_eq_true (hk2 q (by omega))))]; done)
    · refine ar_nil ?_
      refine then_n ?_
      refine wp_condF rfl ?_
      refine wp_skip ?_
      refine then_n ?_
      refine wp_seq ?_
      refine wp_seq ?_
      have hn12 : holesT t ≤ 12 := by omega
      have hpow : ((2 ^ holesT t : Nat) : Int) = 1 * 2 ^ holesT t := by simp
      have hp1 : (2 : Nat) ^ holesT t ≤ 4096 := Nat.pow_le_pow_right (by decide) hn12
      refine wp_reg (by kernel_rfl) ?_
      refine ar_move rfl rfl rfl rfl ?_
      refine ar_shl rfl rfl rfl (by omega) (by show (holesT t : Int) ≤ 64; omega) (show IntKind.i64.wrap (1 * 2 ^ holesT t) = ((2 ^ holesT t : Nat) : Int) by rw [← hpow]; exact IntWalk.i64_in _ ⟨Int.le_trans (by decide) (Int.natCast_nonneg _), Int.le_trans (Int.ofNat_le.2 hp1) (by decide)⟩) rfl rfl ?_
      refine ar_move rfl rfl rfl rfl ?_
      refine ar_nil ?_
      refine then_n ?_
      refine wp_block ?_
      refine wp_loop (α := Nat) (fun k => mk [(3, .ptr 3 0), (4, .ptr 4 0), (7, .v (.int .i64 (holesT t : Nat))), (23, .v (.int .i64 (2 ^ holesT t : Nat))), (24, .v (.int .i64 (k : Nat)))] [(3, .box ((encA a).map .v)), (4, .box ((encT t).map .v))] 0) (fun k => k ≤ 2 ^ holesT t ∧ ∀ q, q < k → wholeT a (fillT t (bitsK (holesT t) q)) = 0) (fun k => 2 ^ holesT t - k) 0 ⟨Nat.zero_le _, fun q h => absurd h (Nat.not_lt_zero q)⟩ (le_to ⟨rfl, rfl, rfl, (int_eq rfl (by rw [hpow])), rfl, trivial⟩ ⟨rfl, rfl, trivial⟩ rfl rfl rfl rfl) ?_
      rintro k ⟨hk1, hk2⟩
      refine wp_seq ?_
      refine wp_reg (by kernel_rfl) ?_
      refine ar_lss_s rfl rfl rfl rfl rfl (fun h25 => ?_) (fun h25 => ?_)
      · refine ar_nil ?_
        refine then_n ?_
        refine wp_seq ?_
        refine wp_condT rfl ?_
        refine wp_skip ?_
        refine then_n ?_
        refine wp_seq ?_
        refine wp_block ?_
        refine wp_seq ?_
        refine wp_reg (by kernel_rfl) ?_
        refine ar_move rfl rfl rfl rfl ?_
        refine ar_assign rfl rfl rfl rfl ?_
        refine ar_nil ?_
        refine then_n ?_
        refine wp_seq ?_
        refine wp_reg (by kernel_rfl) ?_
        refine ar_move rfl rfl rfl rfl ?_
        refine ar_make (es := (List.replicate (holesT t) false).map encB) 28 (el0 := [.bool false]) tab_ok rfl tb28 rfl tb4 rfl rfl rfl rfl rfl ⟨by omega, by omega, by omega, by simp; omega⟩ (by simp) rfl rfl rfl rfl ?_
        refine ar_assign rfl rfl rfl rfl ?_
        refine ar_nil ?_
        refine then_n ?_
        refine wp_seq ?_
        refine wp_seq ?_
        refine wp_reg (by kernel_rfl) ?_
        refine ar_move rfl rfl rfl rfl ?_
        refine ar_len_own tab_ok rfl rfl rfl tb28 rfl (show _ = ((holesT t : Nat) : Int) by simp) rfl rfl rfl ?_
        refine ar_move rfl rfl rfl rfl ?_
        refine ar_nil ?_
        refine then_n ?_
        refine wp_block ?_
        refine wp_loop (α := Nat) (fun i => mk [(3, .ptr 3 0), (4, .ptr 4 0), (7, .v (.int .i64 (holesT t : Nat))), (23, .v (.int .i64 (2 ^ holesT t : Nat))), (24, .v (.int .i64 (k : Nat))), (8, .v (.int .i64 (k : Nat))), (9, .own 28), (30, .v (.int .i64 (holesT t : Nat))), (31, .v (.int .i64 (i : Nat)))] [(3, .box ((encA a).map .v)), (4, .box ((encT t).map .v)), (28, .row 4 1 (((bitsK (holesT t) k).take i ++ List.replicate (holesT t - i) false).map encB))] 0) (fun i => i ≤ holesT t) (fun i => holesT t - i) 0 (Nat.zero_le _) (le_to ⟨rfl, rfl, rfl, rfl, rfl, rfl, rfl, rfl, rfl, trivial⟩ ⟨rfl, rfl, (row_eq rfl (by simp)), trivial⟩ rfl rfl rfl rfl) ?_
        rintro i hi
        have hbl : ((bitsK (holesT t) k).take i ++ List.replicate (holesT t - i) false).length = holesT t := by simp [bitsK_len]; omega
        have hp2 : (2 : Nat) ^ holesT t ≤ 4096 := Nat.pow_le_pow_right (by decide) hn12
        refine wp_seq ?_
        refine wp_reg (by kernel_rfl) ?_
        refine ar_lss_s rfl rfl rfl rfl rfl (fun h32 => ?_) (fun h32 => ?_)
        · refine ar_nil ?_
          refine then_n ?_
          refine wp_seq ?_
          refine wp_condT rfl ?_
          refine wp_skip ?_
          refine then_n ?_
          refine wp_seq ?_
          refine wp_block ?_
          refine wp_seq ?_
          refine wp_reg (by kernel_rfl) ?_
          refine ar_move rfl rfl rfl rfl ?_
          refine ar_assign rfl rfl rfl rfl ?_
          refine ar_nil ?_
          refine then_n ?_
          refine wp_reg (by kernel_rfl) ?_
          refine ar_move rfl rfl rfl rfl ?_
          refine ar_move rfl rfl rfl rfl ?_
          refine ar_move rfl rfl rfl rfl ?_
          refine ar_move rfl rfl rfl rfl ?_
          refine ar_shr (z := ((k / 2 ^ i : Nat) : Int)) rfl rfl rfl (by omega) (by show (i : Int) ≤ 64; omega) (by simp) rfl rfl ?_
          refine ar_and (z := ((k / 2 ^ i % 2 : Nat) : Int)) rfl rfl rfl (by rw [bits_and1]; simp) rfl rfl ?_
          refine ar_eql (z := decide (k / 2 ^ i % 2 = 1)) rfl rfl rfl (decide_eq_decide.2 (by omega)) rfl rfl ?_
          refine ar_ia_own tab_ok rfl rfl rfl rfl tb28 rfl tb4 rfl (by omega) (by simp only [List.length_map, hbl]; omega) rfl rfl rfl rfl ?_
          refine ar_st_e tab_ok rfl tb4 rfl rfl rfl rfl rfl (by simp only [List.length_map, hbl]; show i < _; omega) set_map rfl rfl rfl ?_
          refine ar_nil ?_
          refine inblk_n ?_
          refine then_n ?_
          refine wp_reg (by kernel_rfl) ?_
          refine ar_addi rfl rfl rfl rfl (by omega) (by omega) rfl rfl ?_
          refine ar_move rfl rfl rfl rfl ?_
          refine ar_nil ?_
          exact loop_n (i + 1) (by omega) (by omega) (le_to ⟨rfl, rfl, rfl, rfl, rfl, rfl, rfl, rfl, rfl, trivial⟩ ⟨rfl, rfl, (row_eq rfl (by exact congrArg (List.map encB) (bits_set (n := holesT t) (k := k) (i := i) (by omega)))), trivial⟩ rfl rfl rfl rfl)
        · refine ar_nil ?_
          refine then_n ?_
          refine wp_seq ?_
          refine wp_condF rfl ?_
          refine wp_exit ?_
          refine then_x (loop_x (inblk_e ?_))
          refine then_n ?_
          refine wp_seq ?_
          refine wp_le (le_give_row (id := 28) rfl) ?_
          refine wp_to [(3, .ptr 3 0), (4, .ptr 4 0), (7, .v (.int .i64 (holesT t : Nat))), (23, .v (.int .i64 (2 ^ holesT t : Nat))), (24, .v (.int .i64 (k : Nat))), (9, .v (slB (bitsK (holesT t) k)))] [(3, .box ((encA a).map .v)), (4, .box ((encT t).map .v))] ⟨rfl, rfl, rfl, rfl, rfl, (t_eq rfl (by rw [show i = holesT t by omega, List.take_of_length_le (by rw [bitsK_len]; exact Nat.le_refl _), Nat.sub_self]; simp [rowV])), trivial⟩ ⟨rfl, rfl, trivial⟩ rfl rfl rfl rfl ?_
          refine wp_draw (L := [([3], []), ([4], []), ([], []), ([], []), ([], []), ([], [])]) (by kernel_rfl) mixed (by kernel_rfl) ?_
          refine ar_lda tab_ok rfl rfl rfl tb27 rfl rfl rfl rfl rfl rfl ?_
          refine ar_lda tab_ok rfl rfl rfl tb101 rfl rfl rfl rfl rfl rfl ?_
          refine ar_move rfl rfl rfl rfl ?_
          refine ar_call [] (pc_127 t (bitsK (holesT t) k) hz (by rw [bitsK_len]; omega)) rfl rfl rfl rfl rfl rfl trivial (.inl rfl) rfl rfl rfl ?_
          refine ar_call [] (pc_86 a (fillT t (bitsK (holesT t) k)) hf hb (fill_sz hz _) (okt_fill ho _).i.nn (fun r hr => ((okt_fill ho _).n r hr).nn)) rfl rfl rfl rfl rfl rfl trivial (.inl rfl) rfl rfl rfl ?_
          refine ar_assign rfl rfl rfl rfl ?_
          refine ar_nil ?_
          refine then_n ?_
          refine wp_seq ?_
          refine wp_reg (by kernel_rfl) ?_
          refine ar_move rfl rfl rfl rfl ?_
          refine ar_neq_s rfl rfl rfl rfl rfl (fun h49 => ?_) (fun h49 => ?_)
          · refine ar_nil ?_
            refine then_n ?_
            refine wp_condT rfl ?_
            refine wp_seq ?_
            refine wp_reg (by kernel_rfl) ?_
            refine ar_move rfl rfl rfl rfl ?_
            refine ar_assign rfl rfl rfl rfl ?_
            refine ar_nil ?_
            refine then_n ?_
            refine wp_ret ?_
            refine inblk_r (then_r (loop_r (inblk_r (then_r (ret_post rfl rfl ?_)))))
            first | (rw [everyT_7 h14]; done) | (rw [everyT_3 h14 (by omega)]; done) | (rw [everyT_8 h14 (by omega) (fun hh => h49 (by have := allB_iff.1 hh _ (bitsK_len (holesT t) k); exact of_decide_eq_true this))]; have := (fill_78 ho (m := bitsK (holesT t) k) (by rw [bitsK_len]; exact Nat.le_refl _)).resolve_left h49; rw [this]; done) | (rw [everyT_0 h14 (by omega) (allB_iff.2 (fun m hm => by obtain ⟨q, hq1, hq2⟩ := bitsK_all m; rw [hm] at hq1 hq2; rw [← hq2]; exact decide_eq_true (hk2 q (by omega))))]; done)
          · refine ar_nil ?_
            refine then_n ?_
            refine wp_condF rfl ?_
            refine wp_skip ?_
            refine inblk_n ?_
            refine then_n ?_
            refine wp_reg (by kernel_rfl) ?_
            refine ar_addi rfl rfl rfl rfl (by omega) (by omega) rfl rfl ?_
            refine ar_move rfl rfl rfl rfl ?_
            refine ar_nil ?_
            exact loop_n (k + 1) ⟨by omega, fun q hq => (Nat.lt_succ_iff_lt_or_eq.1 hq).elim (hk2 q) (fun e => e ▸ Decidable.not_not.1 h49)⟩ (by omega) (le_to ⟨rfl, rfl, rfl, rfl, rfl, trivial⟩ ⟨rfl, rfl, trivial⟩ rfl rfl rfl rfl)
      · refine ar_nil ?_
        refine then_n ?_
        refine wp_seq ?_
        refine wp_condF rfl ?_
        refine wp_exit ?_
        refine then_x (loop_x (inblk_e ?_))
        refine then_n ?_
        refine wp_seq ?_
        refine wp_reg (by kernel_rfl) ?_
        refine ar_assign rfl rfl rfl rfl ?_
        refine ar_nil ?_
        refine then_n ?_
        refine wp_ret ?_
        refine ret_post rfl rfl ?_
        first | (rw [everyT_7 h14]; done) | (rw [everyT_3 h14 (by omega)]; done) | (rw [everyT_8 h14 (by omega) (fun hh => h49 (by have := allB_iff.1 hh _ (bitsK_len (holesT t) k); exact of_decide_eq_true this))]; have := (fill_78 ho (m := bitsK (holesT t) k) (by rw [bitsK_len]; exact Nat.le_refl _)).resolve_left h49; rw [this]; done) | (rw [everyT_0 h14 (by omega) (allB_iff.2 (fun m hm => by obtain ⟨q, hq1, hq2⟩ := bitsK_all m; rw [hm] at hq1 hq2; rw [← hq2]; exact decide_eq_true (hk2 q (by omega))))]; done)
  · refine ar_not rfl rfl rfl rfl rfl ?_
    refine ar_nil ?_
    refine then_n ?_
    refine wp_condT rfl ?_
    refine wp_seq ?_
    refine wp_reg (by kernel_rfl) ?_
    refine ar_assign rfl rfl rfl rfl ?_
    refine ar_nil ?_
    refine then_n ?_
    refine wp_ret ?_
    refine then_r (ret_post rfl rfl ?_)
    first | (rw [everyT_7 h14]; done) | (rw [everyT_3 h14 (by omega)]; done) | (rw [everyT_8 h14 (by omega) (fun hh => h49 (by have := allB_iff.1 hh _ (bitsK_len (holesT t) k); exact of_decide_eq_true this))]; have := (fill_78 ho (m := bitsK (holesT t) k) (by rw [bitsK_len]; exact Nat.le_refl _)).resolve_left h49; rw [this]; done) | (rw [everyT_0 h14 (by omega) (allB_iff.2 (fun m hm => by obtain ⟨q, hq1, hq2⟩ := bitsK_all m; rw [hm] at hq1 hq2; rw [← hq2]; exact decide_eq_true (hk2 q (by omega))))]; done)


def eachT (a : Aig) (t : Trace) (m : List Bool) (n : Nat) : Int := if allB n (fun m' => okF a t (m ++ m')) = true then 0 else 8
theorem everyT_each {a : Aig} {t : Trace} {most : Int} (h : rightT a t = true) (h' : ¬ ((holesT t : Int) > most ∨ holesT t > 12)) : everyT a t most = eachT a t [] (holesT t) := by
  simp only [everyT, eachT, List.nil_append]
  rw [if_pos h, if_neg h']
theorem eachT_0 {a : Aig} {t : Trace} (ho : Okt a t) {m : List Bool} (h : holesT t ≤ m.length) : eachT a t m 0 = wholeT a (fillT t m) := by
  simp only [eachT, allB, List.append_nil, okF, decide_eq_true_eq]
  rcases fill_78 ho h with h1 | h1
  · rw [if_pos h1, h1]
  · rw [if_neg (by rw [h1]; decide), h1]
theorem eachT_no {a : Aig} {t : Trace} {m : List Bool} {n : Nat} (h : eachT a t (m ++ [false]) n ≠ 0) : eachT a t m (n + 1) = eachT a t (m ++ [false]) n := by
  simp only [eachT, List.append_assoc, List.cons_append, List.nil_append] at h ⊢
  cases hb : allB n (fun m' => okF a t (m ++ false :: m')) with
  | true => rw [hb] at h; exact absurd rfl h
  | false => simp [allB, hb]
theorem eachT_yes {a : Aig} {t : Trace} {m : List Bool} {n : Nat} (h : ¬ eachT a t (m ++ [false]) n ≠ 0) : eachT a t m (n + 1) = eachT a t (m ++ [true]) n := by
  simp only [eachT, List.append_assoc, List.cons_append, List.nil_append] at h ⊢
  cases hb : allB n (fun m' => okF a t (m ++ false :: m')) with
  | true => simp [allB, hb]
  | false => rw [hb] at h; exact absurd (by decide) h

theorem pc_128 (a : Aig) (t : Trace) (hf : Fit a) (hg : Good a) (hz : SzT t) (ho : Okt a t) : ∀ (n : Nat) (m : List Bool), m.length + n = holesT t → holesT t ≤ 12 → PCall Try.prog 128 [aigV a, trV t, slB m, .int .i64 (n : Nat)] (.int .i64 (eachT a t m n))
  | 0, m, hm, h12 => by
    refine pc_of tab_ok (f := 128) (fn := Try.f128) (N := 44) (rs := [.tmp 8]) (by kernel_rfl) rfl (by kernel_rfl) rfl rfl [(0, .v (aigV a)), (1, .v (trV t)), (2, .v (slB m)), (3, .v (.int .i64 0))] ⟨rfl, rfl, rfl, rfl, trivial⟩ rfl rfl ?_
    intro B
    refine wp_seq ?_
    refine wp_reg (by kernel_rfl) ?_
    refine ar_box 4 [] rfl rfl rfl ⟨rfl, trivial⟩ rfl rfl rfl ?_
    refine ar_box 5 [] rfl rfl rfl ⟨rfl, trivial⟩ rfl rfl rfl ?_
    refine ar_assign rfl rfl rfl rfl ?_
    refine ar_nil ?_
    refine then_n ?_
    refine wp_seq ?_
    refine wp_seq ?_
    refine wp_reg (by kernel_rfl) ?_
    refine ar_move rfl rfl rfl rfl ?_
    refine ar_eql rfl rfl rfl (decide_eq_true (by rfl)) rfl rfl ?_
    refine ar_nil ?_
    refine then_n ?_
    refine wp_condT rfl ?_
    refine wp_seq ?_
    refine wp_draw (L := [([4], []), ([5], []), ([], []), ([], []), ([], []), ([], [])]) (by kernel_rfl) mixed (by kernel_rfl) ?_
    refine ar_lda tab_ok rfl rfl rfl tb27 rfl rfl rfl rfl rfl rfl ?_
    refine ar_lda tab_ok rfl rfl rfl tb101 rfl rfl rfl rfl rfl rfl ?_
    refine ar_move rfl rfl rfl rfl ?_
    refine ar_call [] (pc_74 t m hz (by omega)) rfl rfl rfl rfl rfl rfl trivial (.inl rfl) rfl rfl rfl ?_
    refine ar_call [] (pc_77 a (fillT t m) hf hg (fill_sz hz _) (okt_fill ho _).i.nn (fun r hr => ((okt_fill ho _).n r hr).nn)) rfl rfl rfl rfl rfl rfl trivial (.inl rfl) rfl rfl rfl ?_
    refine ar_assign rfl rfl rfl rfl ?_
    refine ar_nil ?_
    refine then_n ?_
    refine wp_ret ?_
    refine then_r (ret_post rfl rfl ?_)
    rw [eachT_0 ho (by omega)]
  
  | n + 1, m, hm, h12 => by
    have ih := fun m hm => pc_128 a t hf hg hz ho n m hm h12
    refine pc_of tab_ok (f := 128) (fn := Try.f128) (N := 44) (rs := [.tmp 8]) (by kernel_rfl) rfl (by kernel_rfl) rfl rfl [(0, .v (aigV a)), (1, .v (trV t)), (2, .v (slB m)), (3, .v (.int .i64 (n + 1 : Nat)))] ⟨rfl, rfl, rfl, rfl, trivial⟩ rfl rfl ?_
    intro B
    refine wp_seq ?_
    refine wp_reg (by kernel_rfl) ?_
    refine ar_box 4 [] rfl rfl rfl ⟨rfl, trivial⟩ rfl rfl rfl ?_
    refine ar_box 5 [] rfl rfl rfl ⟨rfl, trivial⟩ rfl rfl rfl ?_
    refine ar_assign rfl rfl rfl rfl ?_
    refine ar_nil ?_
    refine then_n ?_
    refine wp_seq ?_
    refine wp_seq ?_
    refine wp_reg (by kernel_rfl) ?_
    refine ar_move rfl rfl rfl rfl ?_
    refine ar_eql rfl rfl rfl (decide_eq_false (by omega)) rfl rfl ?_
    refine ar_nil ?_
    refine then_n ?_
    refine wp_condF rfl ?_
    refine wp_skip ?_
    refine then_n ?_
    refine wp_seq ?_
    refine wp_reg (by kernel_rfl) ?_
    refine ar_bs_own (es := ([] : List Bool).map encB) 19 [] tab_ok rfl tb28 rfl tb4 rfl rfl ⟨rfl, trivial⟩ rfl rfl rfl rfl rfl rfl rfl rfl rfl ?_
    refine ar_move rfl rfl rfl rfl ?_
    refine ar_app 21 [] tab_ok rfl tb28 rfl tb28 rfl tb4 rfl rfl rfl rfl ⟨rfl, rfl, trivial⟩ rfl (el_4 _) app_map (by constructor <;> simp <;> omega) rfl rfl rfl ?_
    refine ar_bs [] tab_ok rfl tb28 rfl tb4 rfl trivial rfl rfl rfl rfl rfl rfl rfl rfl ?_
    refine ar_app 23 [] tab_ok rfl tb28 rfl tb28 rfl tb4 rfl rfl rfl rfl ⟨rfl, rfl, trivial⟩ rfl (elOk.cons rfl rfl elOk.nil) app_one (by constructor <;> simp <;> omega) rfl rfl rfl ?_
    refine ar_assign rfl rfl rfl rfl ?_
    refine ar_nil ?_
    refine then_n ?_
    refine wp_seq ?_
    refine wp_le (le_give_row (id := 23) rfl) ?_
    refine wp_to [(4, .ptr 4 0), (5, .ptr 5 0), (2, .v (slB m)), (3, .v (.int .i64 (n + 1 : Nat))), (9, .v (slB (m ++ [false])))] [(4, .box ((encA a).map .v)), (5, .box ((encT t).map .v))] ⟨rfl, rfl, rfl, rfl, rfl, trivial⟩ ⟨rfl, rfl, trivial⟩ rfl rfl rfl rfl ?_
    refine wp_reg (by kernel_rfl) ?_
    refine ar_bs_own (es := ([] : List Bool).map encB) 24 [] tab_ok rfl tb28 rfl tb4 rfl rfl ⟨rfl, trivial⟩ rfl rfl rfl rfl rfl rfl rfl rfl rfl ?_
    refine ar_move rfl rfl rfl rfl ?_
    refine ar_app 26 [] tab_ok rfl tb28 rfl tb28 rfl tb4 rfl rfl rfl rfl ⟨rfl, rfl, trivial⟩ rfl (el_4 _) app_map (by constructor <;> simp <;> omega) rfl rfl rfl ?_
    refine ar_bs [] tab_ok rfl tb28 rfl tb4 rfl trivial rfl rfl rfl rfl rfl rfl rfl rfl ?_
    refine ar_app 28 [] tab_ok rfl tb28 rfl tb28 rfl tb4 rfl rfl rfl rfl ⟨rfl, rfl, trivial⟩ rfl (elOk.cons rfl rfl elOk.nil) app_one (by constructor <;> simp <;> omega) rfl rfl rfl ?_
    refine ar_assign rfl rfl rfl rfl ?_
    refine ar_nil ?_
    refine then_n ?_
    refine wp_seq ?_
    refine wp_le (le_give_row (id := 28) rfl) ?_
    refine wp_to [(4, .ptr 4 0), (5, .ptr 5 0), (2, .v (slB m)), (3, .v (.int .i64 (n + 1 : Nat))), (9, .v (slB (m ++ [false]))), (10, .v (slB (m ++ [true])))] [(4, .box ((encA a).map .v)), (5, .box ((encT t).map .v))] ⟨rfl, rfl, rfl, rfl, rfl, rfl, trivial⟩ ⟨rfl, rfl, trivial⟩ rfl rfl rfl rfl ?_
    refine wp_reg (by kernel_rfl) ?_
    refine ar_lda tab_ok rfl rfl rfl tb27 rfl rfl rfl rfl rfl rfl ?_
    refine ar_lda tab_ok rfl rfl rfl tb101 rfl rfl rfl rfl rfl rfl ?_
    refine ar_move rfl rfl rfl rfl ?_
    refine ar_move rfl rfl rfl rfl ?_
    refine ar_subi (z := (n : Int)) rfl rfl rfl (by omega) (by omega) (by omega) rfl rfl ?_
    refine ar_call [] (ih (m ++ [false]) (by simp; omega)) rfl rfl rfl rfl rfl rfl trivial (.inl rfl) rfl rfl rfl ?_
    refine ar_assign rfl rfl rfl rfl ?_
    refine ar_nil ?_
    refine then_n ?_
    refine wp_seq ?_
    refine wp_seq ?_
    refine wp_reg (by kernel_rfl) ?_
    refine ar_move rfl rfl rfl rfl ?_
    refine ar_neq_s rfl rfl rfl rfl rfl (fun h36 => ?_) (fun h36 => ?_)
    · refine ar_nil ?_
      refine then_n ?_
      refine wp_condT rfl ?_
      refine wp_seq ?_
      refine wp_reg (by kernel_rfl) ?_
      refine ar_move rfl rfl rfl rfl ?_
      refine ar_assign rfl rfl rfl rfl ?_
      refine ar_nil ?_
      refine then_n ?_
      refine wp_ret ?_
      refine then_r (ret_post rfl rfl ?_)
      first | (rw [eachT_no h36]; done) | (rw [eachT_yes h36]; done)
    · refine ar_nil ?_
      refine then_n ?_
      refine wp_condF rfl ?_
      refine wp_skip ?_
      refine then_n ?_
      refine wp_seq ?_
      refine wp_reg (by kernel_rfl) ?_
      refine ar_lda tab_ok rfl rfl rfl tb27 rfl rfl rfl rfl rfl rfl ?_
      refine ar_lda tab_ok rfl rfl rfl tb101 rfl rfl rfl rfl rfl rfl ?_
      refine ar_move rfl rfl rfl rfl ?_
      refine ar_move rfl rfl rfl rfl ?_
      refine ar_subi (z := (n : Int)) rfl rfl rfl (by omega) (by omega) (by omega) rfl rfl ?_
      refine ar_call [] (ih (m ++ [true]) (by simp; omega)) rfl rfl rfl rfl rfl rfl trivial (.inl rfl) rfl rfl rfl ?_
      refine ar_assign rfl rfl rfl rfl ?_
      refine ar_nil ?_
      refine then_n ?_
      refine wp_ret ?_
      refine ret_post rfl rfl ?_
      first | (rw [eachT_no h36]; done) | (rw [eachT_yes h36]; done)
  
theorem pc_88 (a : Aig) (t : Trace) (most : Int) (hf : Fit a) (hg : Good a) (hz : SzT t) (hn : Nn t.ini) (hn2 : ∀ r, r ∈ t.ins → Nn r) : PCall Try.prog 88 [aigV a, trV t, .int .i64 most] (.int .i64 (everyT a t most)) := by
  refine pc_of tab_ok (f := 88) (fn := Try.f88) (N := 27) (rs := [.tmp 6]) (by kernel_rfl) rfl (by kernel_rfl) rfl rfl [(0, .v (aigV a)), (1, .v (trV t)), (2, .v (.int .i64 most))] ⟨rfl, rfl, rfl, trivial⟩ rfl rfl ?_
  intro B
  refine wp_seq ?_
  refine wp_reg (by kernel_rfl) ?_
  refine ar_box 3 [] rfl rfl rfl ⟨rfl, trivial⟩ rfl rfl rfl ?_
  refine ar_box 4 [] rfl rfl rfl ⟨rfl, trivial⟩ rfl rfl rfl ?_
  refine ar_assign rfl rfl rfl rfl ?_
  refine ar_nil ?_
  refine then_n ?_
  refine wp_seq ?_
  refine wp_reg (by kernel_rfl) ?_
  refine ar_lda tab_ok rfl rfl rfl tb27 rfl rfl rfl rfl rfl rfl ?_
  refine ar_lda tab_ok rfl rfl rfl tb101 rfl rfl rfl rfl rfl rfl ?_
  refine ar_call [] (pc_79 a t hf hn (by have := hz.il; omega) (by have := hz.nl; omega) (fun r hr => by have := hz.rl r hr; omega)) rfl rfl rfl rfl rfl rfl trivial (.inl rfl) rfl rfl rfl ?_
  refine ar_split (fun h11 => ?_) (fun h11 => ?_)
  · refine ar_assign rfl rfl rfl rfl ?_
    refine ar_nil ?_
    refine then_n ?_
    refine wp_seq ?_
    refine wp_seq ?_
    refine wp_reg (by kernel_rfl) ?_
    refine ar_move rfl rfl rfl rfl ?_
    refine ar_not rfl rfl rfl rfl rfl ?_
    refine ar_nil ?_
    refine then_n ?_
    refine wp_condF rfl ?_
    refine wp_skip ?_
    refine then_n ?_
    refine wp_seq ?_
    have ho := okt_of (rightT_iff.1 h11) hn hn2
    refine wp_reg (by kernel_rfl) ?_
    refine ar_lda tab_ok rfl rfl rfl tb101 rfl rfl rfl rfl rfl rfl ?_
    refine ar_call [] (pc_76 t hz) rfl rfl rfl rfl rfl rfl trivial (.inl rfl) rfl rfl rfl ?_
    refine ar_assign rfl rfl rfl rfl ?_
    refine ar_nil ?_
    refine then_n ?_
    refine wp_seq ?_
    refine wp_seq ?_
    refine wp_reg (by kernel_rfl) ?_
    refine ar_move rfl rfl rfl rfl ?_
    refine ar_move rfl rfl rfl rfl ?_
    refine ar_gtr_s rfl rfl rfl rfl rfl (fun h18 => ?_) (fun h18 => ?_)
    · refine ar_move rfl rfl rfl rfl ?_
      refine ar_skip rfl rfl ?_
      refine ar_skip rfl rfl ?_
      refine ar_pickT rfl rfl rfl rfl rfl ?_
      refine ar_nil ?_
      refine then_n ?_
      refine wp_condT rfl ?_
      refine wp_seq ?_
      refine wp_reg (by kernel_rfl) ?_
      refine ar_assign rfl rfl rfl rfl ?_
      refine ar_nil ?_
      refine then_n ?_
      refine wp_ret ?_
      refine then_r (ret_post rfl rfl ?_)
      first | (rw [everyT_7 h11]; done) | (rw [everyT_3 h11 (by omega)]; done) | (rw [everyT_each h11 (by omega)]; done)
    · refine ar_move rfl rfl rfl rfl ?_
      refine ar_move rfl rfl rfl rfl ?_
      refine ar_gtr_s rfl rfl rfl rfl rfl (fun h21 => ?_) (fun h21 => ?_)
      · refine ar_pickF rfl rfl rfl rfl rfl ?_
        refine ar_nil ?_
        refine then_n ?_
        refine wp_condT rfl ?_
        refine wp_seq ?_
        refine wp_reg (by kernel_rfl) ?_
        refine ar_assign rfl rfl rfl rfl ?_
        refine ar_nil ?_
        refine then_n ?_
        refine wp_ret ?_
        refine then_r (ret_post rfl rfl ?_)
        first | (rw [everyT_7 h11]; done) | (rw [everyT_3 h11 (by omega)]; done) | (rw [everyT_each h11 (by omega)]; done)
      · refine ar_pickF rfl rfl rfl rfl rfl ?_
        refine ar_nil ?_
        refine then_n ?_
        refine wp_condF rfl ?_
        refine wp_skip ?_
        refine then_n ?_
        refine wp_seq ?_
        refine wp_reg (by kernel_rfl) ?_
        refine ar_lda tab_ok rfl rfl rfl tb27 rfl rfl rfl rfl rfl rfl ?_
        refine ar_lda tab_ok rfl rfl rfl tb101 rfl rfl rfl rfl rfl rfl ?_
        refine ar_move rfl rfl rfl rfl ?_
        refine ar_call [] (pc_128 a t hf hg hz ho (holesT t) [] (by simp) (by omega)) rfl rfl rfl rfl rfl rfl trivial (.inl rfl) rfl rfl rfl ?_
        refine ar_assign rfl rfl rfl rfl ?_
        refine ar_nil ?_
        refine then_n ?_
        refine wp_ret ?_
        refine ret_post rfl rfl ?_
        first | (rw [everyT_7 h11]; done) | (rw [everyT_3 h11 (by omega)]; done) | (rw [everyT_each h11 (by omega)]; done)
  · refine ar_assign rfl rfl rfl rfl ?_
    refine ar_nil ?_
    refine then_n ?_
    refine wp_seq ?_
    refine wp_seq ?_
    refine wp_reg (by kernel_rfl) ?_
    refine ar_move rfl rfl rfl rfl ?_
    refine ar_not rfl rfl rfl rfl rfl ?_
    refine ar_nil ?_
    refine then_n ?_
    refine wp_condT rfl ?_
    refine wp_seq ?_
    refine wp_reg (by kernel_rfl) ?_
    refine ar_assign rfl rfl rfl rfl ?_
    refine ar_nil ?_
    refine then_n ?_
    refine wp_ret ?_
    refine then_r (ret_post rfl rfl ?_)
    first | (rw [everyT_7 h11]; done) | (rw [everyT_3 h11 (by omega)]; done) | (rw [everyT_each h11 (by omega)]; done)

end Go.Vd
