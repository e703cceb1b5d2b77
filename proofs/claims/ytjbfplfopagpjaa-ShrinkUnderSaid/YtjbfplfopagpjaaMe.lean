/- Walks over data, merged (part 5): what the laws of this claim use. -/
import Derived.Test.YtjbfplfopagpjaaMd
namespace Go.Vd
open Go.Proofs
/-! ### Below -/
abbrev lowR (x y : List (List Int)) : Bool := pairs (pairs lowT) x y
structure LowTr (u t : Trace) : Prop where
  b : u.bad = t.bad
  i : pairs lowT u.ini t.ini = true
  n : lowR u.ins t.ins = true
theorem fill_low : ∀ (l : List Int) (m : List Bool), pairs lowT (fillR m l) l = true
  | [], m => by simp [fillR, pairs]
  | x :: xs, m => by
    by_cases h : x = 2
    · cases m with
      | nil => rw [fillR_h0 h]; simp only [pairs, Bool.and_eq_true]; exact ⟨low_refl x, fill_low xs []⟩
      | cons b m => rw [fillR_h1 h]; simp only [pairs, Bool.and_eq_true]; exact ⟨by rw [h]; exact low_top _, fill_low xs m⟩
    · rw [fillR_nn h]; simp only [pairs, Bool.and_eq_true]; exact ⟨low_refl x, fill_low xs m⟩
theorem fillRows_low : ∀ (rs : List (List Int)) (m : List Bool), lowR (fillRows m rs) rs = true
  | [], _ => rfl
  | r :: rs, m => by simp only [fillRows, lowR, pairs, Bool.and_eq_true]; exact ⟨fill_low r m, fillRows_low rs _⟩
theorem fillT_low (t : Trace) (m : List Bool) : LowTr (fillT t m) t := ⟨rfl, fill_low _ _, fillRows_low _ _⟩
theorem fill_tri : ∀ (l : List Int) (m : List Bool), TriL l → TriL (fillR m l)
  | [], m, _ => by simp [fillR]; exact TriL.nil
  | x :: xs, m, h => by
    have h1 : TriL xs := fun y hy => h y (List.mem_cons_of_mem _ hy)
    by_cases hx : x = 2
    · cases m with
      | nil => rw [fillR_h0 hx]; exact TriL.cons (h x List.mem_cons_self) (fill_tri xs [] h1)
      | cons b m => rw [fillR_h1 hx]; exact TriL.cons (ofB_tri b) (fill_tri xs m h1)
    · rw [fillR_nn hx]; exact TriL.cons (h x List.mem_cons_self) (fill_tri xs m h1)
theorem fillRows_tri : ∀ (rs : List (List Int)) (m : List Bool), (∀ r, r ∈ rs → TriL r) → ∀ r, r ∈ fillRows m rs → TriL r
  | [], _, _, _, hr => by simp [fillRows] at hr
  | x :: rs, m, h, r, hr => by
    simp only [fillRows, List.mem_cons] at hr
    rcases hr with rfl | hr
    · exact fill_tri _ _ (h x List.mem_cons_self)
    · exact fillRows_tri rs _ (fun y hy => h y (List.mem_cons_of_mem _ hy)) r hr
theorem starts_low : ∀ {ls : List Latch} {x y : List Int}, pairs lowT x y = true → pairs startsT ls y = true → pairs startsT ls x = true
  | [], [], [], _, h => h
  | l :: ls, x :: xs, y :: ys, h, h' => by
    simp only [pairs, Bool.and_eq_true] at h h' ⊢
    refine ⟨?_, starts_low h.2 h'.2⟩
    have h1 := low_iff.1 h.1
    have h2 := h'.1
    simp only [startsT, Bool.or_eq_true, decide_eq_true_eq] at h2 ⊢
    omega
  | [], _ :: _, [], h, _ => by simp [pairs] at h
  | [], [], _ :: _, h, _ => by simp [pairs] at h
  | [], _ :: _, _ :: _, _, h => by simp [pairs] at h
  | _ :: _, [], [], _, h => by simp [pairs] at h
  | _ :: _, _ :: _, [], h, _ => by simp [pairs] at h
  | _ :: _, [], _ :: _, h, _ => by simp [pairs] at h
theorem lowR_len {i : Int} : ∀ {x y : List (List Int)}, lowR x y = true → (∀ r, r ∈ y → (r.length : Int) = i) → ∀ r, r ∈ x → (r.length : Int) = i
  | [], [], _, _, r, hr => by cases hr
  | x :: xs, y :: ys, h, hy, r, hr => by
    simp only [lowR, pairs, Bool.and_eq_true] at h
    rcases List.mem_cons.1 hr with rfl | hr
    · rw [pairs_same h.1]; exact hy y List.mem_cons_self
    · exact lowR_len h.2 (fun z hz => hy z (List.mem_cons_of_mem _ hz)) r hr
  | [], _ :: _, h, _, _, _ => by simp [pairs] at h
  | _ :: _, [], h, _, _, _ => by simp [pairs] at h
/-- What is below a right trace, and of values, is right. -/
theorem okt_low {a : Aig} {t u : Trace} (h : Okt a t) (hl : LowTr u t) (hi : TriL u.ini) (hn : ∀ r, r ∈ u.ins → TriL r) : Okt a u := by
  have hlen := pairs_same hl.n
  exact ⟨⟨by rw [hl.b]; exact h.r.b0, by rw [hl.b]; exact h.r.b1, by rw [hlen]; exact h.r.n0, by rw [hlen]; exact h.r.n1, hi.isTri, starts_low hl.i h.r.ip, lowR_len hl.n h.r.rl, fun r hr => (hn r hr).isTri⟩, hi, hn⟩
theorem okt_fill {a : Aig} {t : Trace} (h : Okt a t) (m : List Bool) : Okt a (fillT t m) := okt_low h (fillT_low t m) (fill_tri _ _ h.i) (fillRows_tri _ _ h.n)
theorem low_get {x y : List Int} (h : pairs lowT x y = true) (k : Nat) : lowT (x.getD k default) (y.getD k default) = true := by
  by_cases hk : k < x.length
  · exact ((pairs_iff lowT x y).1 h).2 k hk
  · have := pairs_same h
    rw [List.getD_eq_getElem?_getD, List.getD_eq_getElem?_getD, List.getElem?_eq_none (by omega), List.getElem?_eq_none (by omega)]; rfl
theorem low_ones : ∀ {x y : List Int}, pairs lowT x y = true → (y.all fun a => decide (a = 1)) = true → (x.all fun a => decide (a = 1)) = true
  | [], [], _, _ => rfl
  | x :: xs, y :: ys, h, h' => by
    simp only [pairs, List.all_cons, Bool.and_eq_true, decide_eq_true_eq] at h h' ⊢
    refine ⟨?_, low_ones h.2 h'.2⟩
    have := low_iff.1 h.1; omega
  | [], _ :: _, h, _ => by simp [pairs] at h
  | _ :: _, [], h, _ => by simp [pairs] at h
/-- Rows that fit a model, and are values. -/
def Rok (a : Aig) (rs : List (List Int)) : Prop := ∀ r, r ∈ rs → (r.length : Int) = a.i ∧ TriL r
theorem Okt.rok {a : Aig} {t : Trace} (h : Okt a t) : Rok a t.ins := fun r hr => ⟨h.r.rl r hr, h.n r hr⟩
theorem tern_low {a : Aig} {k : Nat} : ∀ {x y : List (List Int)} {s' s : List Int} {b' b : Int}, lowR x y = true → pairs lowT s' s = true → lowT b' b = true → s'.length = a.l.length → TriL s' → s.length = a.l.length → TriL s → Rok a x → Rok a y →
    ternGo k b (frT a s y) = 1 → ternGo k b' (frT a s' x) = 1
  | [], [], _, _, b', b, _, _, hb, _, _, _, _, _, _, h => by
    simp only [frT, ternGo] at h ⊢
    have := low_iff.1 hb; omega
  | x :: xs, y :: ys, s', s, b', b, hl, hs, hb, h1, h2, h3, h4, hx, hy, h => by
    simp only [lowR, pairs, Bool.and_eq_true] at hl
    have n1 := stepT_next h1 h2 (hx x List.mem_cons_self).1 (hx x List.mem_cons_self).2
    have n2 := stepT_next h3 h4 (hy y List.mem_cons_self).1 (hy y List.mem_cons_self).2
    have hst := stepT_low n1.1 n2.1 hs hl.1
    simp only [frT, ternGo] at h ⊢
    by_cases hc : conT (stepT a s y) = true
    · rw [if_pos hc] at h
      rw [if_pos (show conT (stepT a s' x) = true from low_ones hst.2.2.2 hc)]
      exact tern_low hl.2 hst.1 (low_get hst.2.2.1 k) n1.2.1 n1.2.2 n2.2.1 n2.2.2 (fun r hr => hx r (List.mem_cons_of_mem _ hr)) (fun r hr => hy r (List.mem_cons_of_mem _ hr)) h
    · rw [if_neg hc] at h; cases h
  | [], _ :: _, _, _, _, _, h, _, _, _, _, _, _, _, _, _ => by simp [pairs] at h
  | _ :: _, [], _, _, _, _, h, _, _, _, _, _, _, _, _, _ => by simp [pairs] at h
theorem ternary0 {a : Aig} {t : Trace} : ternaryT a t = 0 ↔ rightT a t = true ∧ ternGo t.bad.toNat 0 (frT a t.ini t.ins) = 1 := by
  cases hb : rightT a t with
  | false => rw [ternaryT_bad hb]; simp
  | true =>
    by_cases h : ternGo t.bad.toNat 0 (frT a t.ini t.ins) = 1
    · rw [ternaryT_0 hb h]; simp [h]
    · rw [ternaryT_8 hb h]; simp [h]
theorem ternary_low {a : Aig} {t u : Trace} (ht : Okt a t) (hu : Okt a u) (hl : LowTr u t) (h : ternaryT a t = 0) : ternaryT a u = 0 := by
  rw [ternary0] at h ⊢
  refine ⟨rightT_iff.2 hu.r, ?_⟩
  rw [hl.b]
  exact tern_low hl.n hl.i rfl hu.r.il hu.i ht.r.il ht.i hu.rok ht.rok h.2
/-! ### Without holes -/
theorem flags_back : ∀ {l : List Int}, TriL l → manyT l = 0 → (flagsT l).map ofB = l
  | [], _, _ => rfl
  | x :: xs, h, h0 => by
    rw [manyT_cons] at h0
    have hx : x ≠ 2 := fun e => by rw [if_pos e] at h0; omega
    have h1 := flags_back (l := xs) (fun y hy => h y (List.mem_cons_of_mem _ hy)) (by omega)
    simp only [flagsT, List.map_cons] at h1 ⊢
    rw [h1]
    rcases (h x List.mem_cons_self).cases with rfl | rfl | rfl
    · rfl
    · rfl
    · exact absurd rfl hx
theorem con_two (c : List Bool) : ((c.map ofB).all fun x => decide (x = 1)) = !(c.any fun b => false == b) := by
  induction c with
  | nil => rfl
  | cons b c ih => cases b <;> simp [ofB] at ih ⊢; exact ih
theorem getD_ofB (b : List Bool) (k : Nat) : (b.map ofB).getD k default = ofB (b.getD k default) := by
  by_cases h : k < b.length
  · exact getD_mapf ofB h
  · rw [List.getD_eq_getElem?_getD, List.getD_eq_getElem?_getD, List.getElem?_eq_none (by simpa using h), List.getElem?_eq_none (by omega)]; rfl
theorem tern_two {a : Aig} (hg : Good a) {k : Nat} : ∀ (ins : List (List Int)) (s : List Bool) (b : Bool), s.length = a.l.length → Rok a ins → manyR ins = 0 → ternGo k (ofB b) (frT a (s.map ofB) ins) = ofB (wholeGo a k b s ins)
  | [], _, _, _, _, _ => rfl
  | r :: rs, s, b, hs, hr, h0 => by
    simp only [manyR, List.map_cons, List.sum_cons] at h0
    have h1 := hr r List.mem_cons_self
    have hso : shapeOk a s (flagsT r) := ⟨hs, by rw [flagsT_len]; exact h1.1⟩
    have hst := stepT_two hg s (flagsT r)
    rw [flags_back h1.2 (by omega), stepS_is hso] at hst
    simp only [frT, ternGo, wholeGo, conT, hst, con_two, getD_ofB]
    cases hc : ((stepOk a s (flagsT r)).c.any fun b => false == b) with
    | true => simp [ofB]
    | false =>
      simp only [Bool.not_false, if_true]
      exact tern_two hg rs _ _ (by simp) (fun x hx => hr x (List.mem_cons_of_mem _ hx)) (by simp only [manyR]; omega)
theorem whole_tern {a : Aig} (hg : Good a) {t : Trace} (ho : Okt a t) (h0 : holesT t = 0) : wholeT a t = ternaryT a t := by
  have hr := rightT_iff.2 ho.r
  have h1 : manyT t.ini = 0 ∧ manyR t.ins = 0 := by
    simp only [holesT, manyR, List.map_cons, List.sum_cons] at h0
    simp only [manyR]; omega
  have ht := tern_two hg (k := t.bad.toNat) t.ins (flagsT t.ini) false (by rw [flagsT_len]; exact ho.r.il) ho.rok h1.2
  rw [flags_back ho.i h1.1] at ht
  cases hw : wholeGo a t.bad.toNat false (flagsT t.ini) t.ins with
  | true =>
    rw [hw] at ht
    rw [wholeT_0 hr h0 hw, ternaryT_0 hr (by exact ht)]
  | false =>
    rw [hw] at ht
    rw [wholeT_8 hr h0 hw, ternaryT_8 hr (by rw [show (0 : Int) = ofB false from rfl, ht]; decide)]
theorem fill_none : ∀ (l : List Int) (m : List Bool), manyT l ≤ m.length → manyT (fillR m l) = 0
  | [], m, _ => by simp [fillR, manyT]
  | x :: xs, m, h => by
    rw [manyT_cons] at h
    by_cases hx : x = 2
    · rw [if_pos hx] at h
      cases m with
      | nil => simp at h
      | cons b m =>
        simp only [List.length_cons] at h
        rw [fillR_h1 hx, manyT_cons, if_neg (ofB_ne b), fill_none xs m (by omega)]
    · rw [if_neg hx] at h
      rw [fillR_nn hx, manyT_cons, if_neg hx, fill_none xs m (by omega)]
theorem fillRows_none : ∀ (rs : List (List Int)) (m : List Bool), manyR rs ≤ m.length → manyR (fillRows m rs) = 0
  | [], _, _ => rfl
  | r :: rs, m, h => by
    simp only [manyR, List.map_cons, List.sum_cons] at h
    have h1 := fill_none r m (by omega)
    have h2 := fillRows_none rs (m.drop (manyT r)) (by simp only [manyR, List.length_drop]; omega)
    simp only [manyR, fillRows, List.map_cons, List.sum_cons] at h2 ⊢
    omega
theorem fillT_none {t : Trace} {m : List Bool} (h : holesT t ≤ m.length) : holesT (fillT t m) = 0 := by
  have hc : ∀ (r : List Int) (rs : List (List Int)), manyR (r :: rs) = manyT r + manyR rs := fun r rs => by simp [manyR]
  simp only [holesT] at h
  rw [hc] at h
  simp only [holesT, fillT]
  rw [hc, fill_none _ _ (by omega), fillRows_none _ _ (by simp only [List.length_drop]; omega)]
/-! ### Every filling -/
def allB : Nat → (List Bool → Bool) → Bool
  | 0, p => p []
  | n + 1, p => allB n (fun m => p (false :: m)) && allB n (fun m => p (true :: m))
def bitsK (n k : Nat) : List Bool := (List.range n).map fun i => decide (k / 2 ^ i % 2 = 1)
def okF (a : Aig) (t : Trace) (m : List Bool) : Bool := decide (wholeT a (fillT t m) = 0)
def everyT (a : Aig) (t : Trace) (most : Int) : Int :=
  if rightT a t = true then (if (holesT t : Int) > most ∨ holesT t > 12 then 3 else if allB (holesT t) (okF a t) = true then 0 else 8) else 7
theorem fill_sz {t : Trace} (h : SzT t) (m : List Bool) : SzT (fillT t m) := ⟨by show (fillR m t.ini).length ≤ _; rw [fillR_len]; exact h.il, by show (fillRows _ t.ins).length ≤ _; rw [fillRows_len]; exact h.nl, fun r hr => by
  have : ∀ (rs : List (List Int)) (m : List Bool), (∀ r, r ∈ rs → r.length ≤ 1000000) → ∀ r, r ∈ fillRows m rs → r.length ≤ 1000000 := by
    intro rs
    induction rs with
    | nil => intro m _ r hr; simp [fillRows] at hr
    | cons x rs ih =>
      intro m hx r hr
      simp only [fillRows, List.mem_cons] at hr
      rcases hr with rfl | hr
      · rw [fillR_len]; exact hx x List.mem_cons_self
      · exact ih _ (fun y hy => hx y (List.mem_cons_of_mem _ hy)) r hr
  exact this t.ins _ h.rl r hr⟩
def eachT (a : Aig) (t : Trace) (m : List Bool) (n : Nat) : Int := if allB n (fun m' => okF a t (m ++ m')) = true then 0 else 8
end Go.Vd
namespace Go.Vd
open Go.Proofs
theorem pc_111 (a : Aig) (bad : Int) (f0 : FR) (fs : List FR) : PCall Try.prog 111 [aigV a, .agg (trFC bad f0 fs)] (.fn (.func 137) [] [.ref (encA a), .ref (trFC bad f0 fs)]) := by
  refine pc_of tab_ok (f := 111) (fn := Try.f111) (N := 6) (rs := [.tmp 4]) (by kernel_rfl) rfl (by kernel_rfl) rfl rfl [(0, .v (aigV a)), (1, .v (.agg (trFC bad f0 fs)))] ⟨rfl, rfl, trivial⟩ rfl rfl ?_
  intro B
  refine wp_seq ?_
  refine wp_reg (by kernel_rfl) ?_
  refine ar_box 2 [] rfl rfl rfl ⟨rfl, trivial⟩ rfl rfl rfl ?_
  refine ar_box 3 [] rfl rfl rfl ⟨rfl, trivial⟩ rfl rfl rfl ?_
  refine ar_any rfl rfl rfl ?_
  refine ar_nil ?_
  refine then_n ?_
  refine wp_seq ?_
  refine wp_reg (by kernel_rfl) ?_
  refine ar_mkf rfl rfl rfl rfl rfl rfl ?_
  refine ar_assign rfl rfl rfl rfl ?_
  refine ar_nil ?_
  refine then_n ?_
  refine wp_ret ?_
  refine ret_post rfl rfl ?_
  rfl
end Go.Vd
namespace Go.Vd
open Go.Proofs
/-- The rows of a trace: the latches' and those of the frames. -/
abbrev rowsT (t : Trace) : List (List Int) := t.ini :: t.ins
def trOf (bad : Int) (R : List (List Int)) : Trace := ⟨bad, R.getD 0 [], R.drop 1⟩
def rowsI : Nat → List (List Int) → List (Nat × Nat)
  | _, [] => []
  | k, l :: ls => rowP k l.length ++ rowsI (k + 1) ls
/-- Where X may come to stand: a row's number, a place in it. -/
def placesI (a : Aig) (R : List (List Int)) : List (Nat × Nat) := initP 0 0 a.l ++ rowsI 1 (R.drop 1)
def putX (R : List (List Int)) (p : Nat × Nat) (v : Int) : List (List Int) := R.set p.1 ((R.getD p.1 []).set p.2 v)
def shrStep (a : Aig) (bad : Int) (R : List (List Int)) (p : Nat × Nat) : List (List Int) := if ternaryT a (trOf bad (putX R p 2)) = 0 then putX R p 2 else R
def shrR (a : Aig) (bad : Int) (R : List (List Int)) (ps : List (Nat × Nat)) : List (List Int) := ps.foldl (shrStep a bad) R
def shrT (a : Aig) (t : Trace) : Trace := if ternaryT a t = 0 then trOf t.bad (shrR a t.bad (rowsT t) (placesI a (rowsT t))) else ⟨0, [], []⟩
def moreT (a : Aig) (t : Trace) (p : Nat × Nat) : Bool := decide (((rowsT t).getD p.1 []).getD p.2 default ≠ 2) && decide (ternaryT a (trOf t.bad (putX (rowsT t) p 2)) = 0)
def leastT (a : Aig) (t : Trace) : Bool := rightT a t && decide (ternaryT a t = 0) && !(placesI a (rowsT t)).any (moreT a t)
theorem rowP_get {g n k : Nat} {p : Nat × Nat} (h : (rowP g n)[k]? = some p) : p = (g, k) ∧ k < n := by
  unfold rowP at h
  rw [List.getElem?_map] at h
  cases hr : (List.range n)[k]? with
  | none => rw [hr] at h; cases h
  | some x =>
    rw [hr] at h
    have hk : k < n := by have := (List.getElem?_eq_some_iff.1 hr).1; simpa using this
    rw [List.getElem?_range hk] at hr
    cases hr; cases h
    exact ⟨rfl, hk⟩
theorem initP_shift (g : Nat) : ∀ (ls : List Latch) (i k : Nat) (p : Nat × Nat), (initP g i ls)[k]? = some p → (initP 0 i ls)[k]? = some (0, p.2) ∧ p.1 = g ∧ i ≤ p.2 ∧ p.2 < i + ls.length
  | [], _, _, _, h => by simp [initP] at h
  | x :: xs, i, k, p, h => by
    unfold initP at h ⊢
    by_cases hx : freeL x = true
    · rw [if_pos hx] at h ⊢
      cases k with
      | zero => simp at h; subst h; exact ⟨rfl, rfl, Nat.le_refl _, by simp⟩
      | succ k =>
        obtain ⟨h1, h2, h3, h4⟩ := initP_shift g xs (i + 1) k p (by simpa using h)
        exact ⟨by simpa using h1, h2, by omega, by simp; omega⟩
    · rw [if_neg hx] at h ⊢
      obtain ⟨h1, h2, h3, h4⟩ := initP_shift g xs (i + 1) k p h
      exact ⟨h1, h2, by omega, by simp; omega⟩
theorem rowsP_I : ∀ (fs : List FR) (j k : Nat) (p : Nat × Nat), (rowsP fs)[k]? = some p → ∃ i f, (rowsI j (fs.map (·.l)))[k]? = some (j + i, p.2) ∧ fs[i]? = some f ∧ f.g = p.1 ∧ p.2 < f.l.length
  | [], _, _, _, h => by simp [rowsP] at h
  | f :: fs, j, k, p, h => by
    have h' : (rowP f.g f.l.length ++ rowsP fs)[k]? = some p := by unfold rowsP at h; rw [List.flatMap_cons] at h; exact h
    have hl : (rowP f.g f.l.length).length = f.l.length := by simp [rowP]
    have hl2 : (rowP j f.l.length).length = f.l.length := by simp [rowP]
    show ∃ i g, (rowP j f.l.length ++ rowsI (j + 1) (fs.map (·.l)))[k]? = some (j + i, p.2) ∧ _
    by_cases hk : k < f.l.length
    · rw [List.getElem?_append_left (by omega)] at h'
      obtain ⟨rfl, _⟩ := rowP_get h'
      refine ⟨0, f, ?_, rfl, rfl, hk⟩
      rw [List.getElem?_append_left (by omega)]
      simp [rowP, hk]
    · rw [List.getElem?_append_right (by omega), hl] at h'
      obtain ⟨i, g, h1, h2, h3, h4⟩ := rowsP_I fs (j + 1) _ p h'
      refine ⟨i + 1, g, ?_, by simpa using h2, h3, h4⟩
      rw [List.getElem?_append_right (by omega), hl2, h1]
      congr 2; omega
theorem placesF_I {a : Aig} {f0 : FR} {fs : List FR} (h0 : f0.l.length = a.l.length) {k : Nat} {p : Nat × Nat} (h : (placesF a f0 fs)[k]? = some p) :
    ∃ i f, (placesI a (f0.l :: fs.map (·.l)))[k]? = some (i, p.2) ∧ (f0 :: fs)[i]? = some f ∧ f.g = p.1 ∧ p.2 < f.l.length := by
  unfold placesF at h
  have hl : (initP f0.g 0 a.l).length = (initP 0 0 a.l).length := by rw [initP_len, initP_len]
  show ∃ i f, (initP 0 0 a.l ++ rowsI 1 (fs.map (·.l)))[k]? = some (i, p.2) ∧ _
  by_cases hk : k < (initP 0 0 a.l).length
  · rw [List.getElem?_append_left (by omega)] at h
    obtain ⟨h1, h2, _, h4⟩ := initP_shift f0.g a.l 0 k p h
    refine ⟨0, f0, ?_, rfl, h2.symm, by omega⟩
    rw [List.getElem?_append_left hk]; exact h1
  · rw [List.getElem?_append_right (by omega), hl] at h
    obtain ⟨i, f, h1, h2, h3, h4⟩ := rowsP_I fs 1 _ p h
    refine ⟨1 + i, f, ?_, by rw [Nat.add_comm]; simpa using h2, h3, h4⟩
    rw [List.getElem?_append_right (by omega)]; exact h1
theorem placesI_len {a : Aig} {f0 : FR} {fs : List FR} : (placesI a (f0.l :: fs.map (·.l))).length = (placesF a f0 fs).length := by
  have : ∀ (fs : List FR) (j : Nat), (rowsI j (fs.map (·.l))).length = (rowsP fs).length := by
    intro fs
    induction fs with
    | nil => intro j; rfl
    | cons f fs ih =>
      intro j
      show (rowP j f.l.length ++ rowsI (j + 1) (fs.map (·.l))).length = _
      unfold rowsP
      rw [List.flatMap_cons, List.length_append, List.length_append, ih]
      simp [rowP, rowsP]
  unfold placesI placesF
  rw [List.length_append, List.length_append, initP_len, initP_len]
  congr 1
  exact this fs 1
end Go.Vd
namespace Go.Vd
open Go.Proofs
theorem trFV_same {bad : Int} {f0 y0 : FR} {fs ys : List FR} (h : sameF (f0 :: fs) (y0 :: ys)) : trFV bad f0 fs = trFV bad y0 ys := by
  have h' : (f0.g, f0.l.length, f0.p) :: fs.map (fun f => (f.g, f.l.length, f.p)) = (y0.g, y0.l.length, y0.p) :: ys.map (fun f => (f.g, f.l.length, f.p)) := h
  obtain ⟨h1, h2⟩ := List.cons.inj h'
  have e : ∀ (fs : List FR), (fs.map fun f => [hdF f]) = (fs.map fun f => (f.g, f.l.length, f.p)).map fun q => [hdV (some q.1) q.2.1] := fun fs => by rw [List.map_map]; rfl
  unfold trFV
  rw [sameF.hd (congrArg (·.1) h1) (congrArg (·.2.1) h1), e fs, e ys, h2]
structure RowsOk (R : List (List Int)) : Prop where
  ne : R ≠ []
  n : R.length ≤ 1000001
  rl : ∀ r, r ∈ R → r.length ≤ 1000000
  nn : ∀ r, r ∈ R → Nn r
theorem putX_ok {R : List (List Int)} (h : RowsOk R) (p : Nat × Nat) {v : Int} (hv : 0 ≤ v) : RowsOk (putX R p v) := by
  have hg : R.getD p.1 [] ∈ R ∨ R.getD p.1 [] = [] := by
    rw [List.getD_eq_getElem?_getD]
    cases hx : R[p.1]? with
    | none => exact .inr rfl
    | some r => exact .inl (List.mem_of_getElem? hx)
  refine ⟨fun e => ?_, by unfold putX; rw [List.length_set]; exact h.n, fun r hr => ?_, fun r hr => ?_⟩
  · have := congrArg List.length e
    unfold putX at this
    rw [List.length_set] at this
    exact h.ne (List.eq_nil_of_length_eq_zero this)
  · rcases List.mem_or_eq_of_mem_set hr with h1 | rfl
    · exact h.rl r h1
    · rw [List.length_set]
      rcases hg with h2 | h2
      · exact h.rl _ h2
      · rw [h2]; simp
  · rcases List.mem_or_eq_of_mem_set hr with h1 | rfl
    · exact h.nn r h1
    · intro x hx
      rcases List.mem_or_eq_of_mem_set hx with h2 | rfl
      · rcases hg with h3 | h3
        · exact h.nn _ h3 x h2
        · rw [h3] at h2; cases h2
      · exact hv
theorem shrR_ok (a : Aig) (bad : Int) : ∀ (ps : List (Nat × Nat)) {R : List (List Int)}, RowsOk R → RowsOk (shrR a bad R ps)
  | [], _, h => h
  | p :: ps, R, h => by
    refine shrR_ok a bad ps (R := shrStep a bad R p) ?_
    unfold shrStep
    split
    · exact putX_ok h p (by decide)
    · exact h
theorem rowsT_ok {t : Trace} (hz : SzT t) (hn : Nn t.ini) (hn2 : ∀ r ∈ t.ins, Nn r) : RowsOk (rowsT t) :=
  ⟨by simp, by have := hz.nl; simp; omega, fun r hr => (List.mem_cons.1 hr).elim (fun e => e ▸ hz.il) (hz.rl r), fun r hr => (List.mem_cons.1 hr).elim (fun e => e ▸ hn) (hn2 r)⟩
theorem RowsOk.szt {R : List (List Int)} (h : RowsOk R) (bad : Int) : SzT (trOf bad R) := by
  have h0 : R.getD 0 [] ∈ R := by
    cases R with
    | nil => exact absurd rfl h.ne
    | cons r R => exact List.mem_cons_self
  exact ⟨h.rl _ h0, by show (R.drop 1).length ≤ _; have := h.n; simp; omega, fun r hr => h.rl _ (List.mem_of_mem_drop hr)⟩
theorem RowsOk.nn1 {R : List (List Int)} (h : RowsOk R) (bad : Int) : Nn (trOf bad R).ini := by
  have h0 : R.getD 0 [] ∈ R := by
    cases R with
    | nil => exact absurd rfl h.ne
    | cons r R => exact List.mem_cons_self
  exact h.nn _ h0
theorem RowsOk.nn2 {R : List (List Int)} (h : RowsOk R) (bad : Int) : ∀ r, r ∈ (trOf bad R).ins → Nn r := fun r hr => h.nn _ (List.mem_of_mem_drop hr)
theorem shrR_snoc {a : Aig} {bad : Int} {R : List (List Int)} {ps : List (Nat × Nat)} {k : Nat} {p : Nat × Nat} (h : ps[k]? = some p) : shrR a bad R (ps.take (k + 1)) = shrStep a bad (shrR a bad R (ps.take k)) p := by
  unfold shrR
  rw [List.take_add_one, h, List.foldl_append]; rfl
theorem map_put {y : List FR} {i o : Nat} {f : FR} {x : Int} (hf : y[i]? = some f) : (y.set i (f.put o x)).map (·.l) = putX (y.map (·.l)) (i, o) x := by
  unfold putX
  rw [List.map_set]
  congr 1
  show f.l.set o x = ((y.map (·.l)).getD i []).set o x
  rw [List.getD_eq_getElem?_getD, List.getElem?_map, hf]; rfl
/-- A call is lent the rows. -/
theorem view_call {A : Aig} {bad : Int} {f0 : FR} {fs y : List FR} {R : List (List Int)} {s : St} (hs : sameF (f0 :: fs) y) (hR : y.map (·.l) = R) (F : FamAt s y) (B : Base) (ι : Nat → Con) (a : Act) (w : World) (S : Sim B s ι a w) (us : List Value)
    (h : PW (RepV w (imS B ι)) [aigV A, trFV bad f0 fs] us) : PW (RepV w (fun b => imS B ι b ∨ owned ι b)) [aigV A, trV (trOf bad R)] us := by
  cases y with
  | nil => cases hs
  | cons y0 ys =>
    refine ⟨h.1, fun i v u hv hu => ?_⟩
    match i, hv with
    | 0, hv =>
      cases hv
      exact (h.2 0 _ u rfl hu).mono fun b hb _ => ⟨.inl hb, rfl⟩
    | 1, hv =>
      cases hv
      have h1 := h.2 1 _ u rfl hu
      rw [trFV_same hs] at h1
      have h2 := view_tr S F h1
      rw [← hR]; exact h2
    | i + 2, hv => simp at hv
theorem pc_67 (a : Aig) (t : Trace) (hf : Fit a) (hbd : Bd a) (hz : SzT t) (hn : Nn t.ini) (hn2 : ∀ r ∈ t.ins, Nn r) : PCall Try.prog 67 [aigV a, trV t] (.tup [trV (shrT a t), .int .i64 (ternaryT a t)]) := by
  refine pc_give tab_ok (f := 67) (fn := Try.f67) (N := 36) (rs := [.cell 4 101, .tmp 5]) (by kernel_rfl) rfl (by kernel_rfl) rfl rfl [(0, .v (aigV a)), (1, .v (trV t))] ⟨rfl, rfl, trivial⟩ rfl rfl ?_
  intro B
  refine wp_seq ?_
  refine wp_reg (by kernel_rfl) ?_
  refine ar_box 2 [] rfl rfl rfl ⟨rfl, trivial⟩ rfl rfl rfl ?_
  refine ar_box 3 [] rfl rfl rfl ⟨rfl, trivial⟩ rfl rfl rfl ?_
  refine ar_alloc (id := 4) tab_ok rfl rfl tb101 rfl rfl rfl rfl ?_
  refine ar_assign rfl rfl rfl rfl ?_
  refine ar_nil ?_
  refine then_n ?_
  refine wp_seq ?_
  refine wp_seq ?_
  refine wp_reg (by kernel_rfl) ?_
  refine ar_lda tab_ok rfl rfl rfl tb27 rfl rfl rfl rfl rfl rfl ?_
  refine ar_lda tab_ok rfl rfl rfl tb101 rfl rfl rfl rfl rfl rfl ?_
  refine ar_call [] (pc_85 a t hf hbd hz hn hn2) rfl rfl rfl rfl rfl rfl trivial (.inl rfl) rfl rfl rfl ?_
  refine ar_assign rfl rfl rfl rfl ?_
  refine ar_nil ?_
  refine then_n ?_
  refine wp_seq ?_
  refine wp_reg (by kernel_rfl) ?_
  refine ar_move rfl rfl rfl rfl ?_
  refine ar_neq_s rfl rfl rfl rfl rfl (fun h14 => ?_) (fun h14 => ?_)
  · refine ar_nil ?_
    refine then_n ?_
    refine wp_condT rfl ?_
    refine wp_seq ?_
    refine wp_reg (by kernel_rfl) ?_
    refine ar_build [] tab_ok rfl tb101 rfl rfl trivial rfl rfl rfl rfl rfl rfl ?_
    refine ar_move rfl rfl rfl rfl ?_
    refine ar_st [] tab_ok rfl tb101 rfl rfl rfl trivial rfl rfl rfl rfl rfl rfl rfl rfl ?_
    refine ar_assign rfl rfl rfl rfl ?_
    refine ar_nil ?_
    refine then_n ?_
    refine wp_ret ?_
    refine then_r ?_
    exact ⟨.inl ⟨_, rfl, by rw [shrT, if_neg h14]; rfl⟩, rfl⟩
  · refine ar_nil ?_
    refine then_n ?_
    refine wp_condF rfl ?_
    refine wp_skip ?_
    refine then_n ?_
    have h0 : ternaryT a t = 0 := Decidable.not_not.1 h14
    refine wp_seq ?_
    refine wp_reg (by kernel_rfl) ?_
    refine ar_lda tab_ok rfl rfl rfl tb101 rfl rfl rfl rfl rfl rfl ?_
    refine ar_callown (own_110 t hz) rfl rfl rfl rfl rfl rfl rfl rfl (fun f0 fs hf0 hfs => ?_)
    refine ar_alloc (id := 7) tab_ok rfl (res_fam (C := [(4, _), (3, _), (2, _)]) rfl rfl) tb101 rfl rfl rfl rfl ?_
    refine ar_st [] tab_ok rfl tb101 rfl rfl rfl trivial rfl (by show ((true && ((hdF f0).one && (true && true))) : Bool) = true; rw [show (hdF f0).one = true from hdV_one _ _]; rfl) rfl rfl rfl rfl rfl rfl ?_
    refine ar_nil ?_
    refine then_n ?_
    refine wp_seq ?_
    refine wp_seq ?_
    refine wp_reg (by kernel_rfl) ?_
    refine ar_lda tab_ok rfl rfl rfl tb27 rfl rfl rfl rfl rfl rfl ?_
    refine ar_lda tab_ok rfl rfl rfl tb101 rfl rfl rfl rfl rfl rfl ?_
    refine ar_call [] (pc_111 a t.bad f0 fs) rfl rfl rfl rfl rfl rfl trivial (.inl rfl) rfl rfl rfl ?_
    refine ar_nil ?_
    refine then_n ?_
    refine wp_block ?_
    have hR := rightT_iff.1 (ternary0.1 h0).1
    have hfl : f0.l.length = a.l.length := by rw [hf0]; exact hR.il
    have hfn : fs.length ≤ 1000000 := by
      have h1 := congrArg List.length hfs
      have h2 := hz.nl
      simp at h1; omega
    have hfr : ∀ f ∈ fs, f.l.length ≤ 1000000 := fun f hf => hz.rl _ (by rw [← hfs]; exact List.mem_map_of_mem hf)
    have hrows : (f0 :: fs).map (·.l) = rowsT t := by rw [List.map_cons, hf0, hfs]
    refine wp_rangeP (α := { y : List FR // sameF (f0 :: fs) y }) (it_137 a t.bad f0 fs hbd hfl hfn hfr) (fun x hx => by obtain ⟨p, _, rfl⟩ := List.mem_map.1 hx; rfl)
      [(2, .ptr 2 0), (4, .ptr 4 0), (7, .ptr 7 0), (21, .v (.fn (.func 137) [] [.ref (encA a), .ref (trFC t.bad f0 fs)]))] ([2, 4, 7] ++ idF 1000 (f0 :: fs))
      (fun y => [(2, .box ((encA a).map .v)), (4, .box [.v (.int .i64 0), .nils, .nils]), (7, .box ((trFC t.bad f0 fs).map .v))] ++ fam 1000 y.1)
      (fun k y => y.1.map (·.l) = shrR a t.bad (rowsT t) ((placesI a (rowsT t)).take k)) ⟨f0 :: fs, rfl⟩ 0 0 (pinF 1000 (f0 :: fs)) (fun p hp => List.mem_append_right _ (List.mem_map_of_mem hp)) (by rw [List.take_zero]; exact hrows)
      (le_famP ⟨rfl, rfl, rfl, rfl, trivial⟩ ⟨rfl, rfl, rfl, trivial⟩ (fun i f h1 h2 => (FamAt.cons (tl := []) (FamAt.cons (tl := []) (famAt_app (tl := []) (C := [(4, _), (3, _), (2, _)]) (d := 0) (q := 0) rfl) rfl) rfl i f h1 h2).1) rfl rfl rfl (fun p hp => List.mem_append_right _ (List.mem_map_of_mem hp))) rfl rfl rfl
      (fun y => by
        have := boxes_fam (ids := [2, 4, 7]) (C := [(2, .box ((encA a).map .v)), (4, .box [.v (.int .i64 0), .nils, .nils]), (7, .box ((trFC t.bad f0 fs).map .v))]) (fs := y.1) rfl rfl
        rw [show idF 1000 (f0 :: fs) = idF 1000 y.1 by unfold idF; rw [y.2.pins]]; exact this) ?_ ?_
    · rintro l β k x ⟨y, hy⟩ hx hinv hβ 𝔅1
      obtain ⟨⟨g, o⟩, hp, rfl⟩ : ∃ p, (placesF a f0 fs)[k]? = some p ∧ encP p = x := by
        rw [List.getElem?_map] at hx
        exact Option.map_eq_some_iff.1 hx
      obtain ⟨i, f, hi1, hi2, hi3, hi4⟩ := placesF_I hfl hp
      rw [hf0, hfs] at hi1
      obtain ⟨f', hy1, hy2, hy3, _⟩ := sameF.get (Eq.symm hy) hi2
      have hg : g = f'.g := by rw [hy2]; exact hi3.symm
      subst hg
      have ho : o < f'.l.length := by rw [hy3]; exact hi4
      have hne : f'.l ≠ [] := fun e => by rw [e] at ho; simp at ho
      have F0 := famAt_range (tl := []) (C := [(2, .box ((encA a).map .v)), (4, .box [.v (.int .i64 0), .nils, .nils]), (7, .box ((trFC t.bad f0 fs).map .v))]) (ids := [2, 4, 7]) rfl hy hβ
      have hpin := (F0 i f' hy1 hne).2
      have hbox := fam_h (tl := []) (C := [(2, .box ((encA a).map .v)), (4, .box [.v (.int .i64 0), .nils, .nils]), (7, .box ((trFC t.bad f0 fs).map .v))]) (m := ⟨0, 0, pinsOf ([2, 4, 7] ++ idF 1000 (f0 :: fs)) β⟩) rfl hy1 hne
      refine wp_reg (by kernel_rfl) ?_
      refine ar_assign rfl rfl rfl rfl ?_
      refine ar_nil ?_
      refine assign_n rfl ?_
      intro 𝔅2
      refine wp_block ?_
      refine wp_seq ?_
      refine wp_reg (by kernel_rfl) ?_
      refine ar_move rfl rfl rfl rfl ?_
      refine ar_nc_adr rfl rfl rfl rfl ?_
      refine ar_ld_adr tab_ok rfl rfl hpin hbox tb72 rfl (cellsF_get ho) rfl rfl rfl ?_
      refine ar_assign rfl rfl rfl rfl ?_
      refine ar_nil ?_
      refine then_n ?_
      refine wp_seq ?_
      refine wp_reg (by kernel_rfl) ?_
      refine ar_move rfl rfl rfl rfl ?_
      refine ar_nc_adr rfl rfl rfl rfl ?_
      refine ar_st_adr tab_ok rfl rfl rfl hpin hbox tb72 rfl rfl (by rw [cellsF_len]; omega) (cellsF_put ho) rfl rfl rfl ?_
      refine ar_nil ?_
      refine then_n ?_
      refine wp_le (le_turn (tl' := [(2, .ptr 2 0), (4, .ptr 4 0), (7, .ptr 7 0), (21, .v (.fn (.func 137) [] [.ref (encA a), .ref (trFC t.bad f0 fs)])), (8, .v (.adr f'.g o)), (9, .v (elU (f'.l.getD o default)))])
        rfl rfl hy hβ hy1 ho ⟨rfl, rfl, rfl, rfl, rfl, rfl, trivial⟩ (fun p hp => by
          simp only [List.mem_cons, List.not_mem_nil, or_false] at hp
          rcases hp with rfl | rfl | rfl <;> rfl) rfl rfl rfl) ?_
      have hy' : sameF (f0 :: fs) (y.set i (f'.put o 2)) := sameF.trans hy (sameF_set hy1 o 2)
      have F1 := fun tl => famAt_range (tl := tl) (C := [(2, .box ((encA a).map .v)), (4, .box [.v (.int .i64 0), .nils, .nils]), (7, .box ((trFC t.bad f0 fs).map .v))]) (ids := [2, 4, 7]) rfl hy' hβ
      have hok : RowsOk (y.map (·.l)) := by rw [show y.map (·.l) = _ from hinv]; exact shrR_ok _ _ _ (rowsT_ok hz hn hn2)
      have hok' := putX_ok hok (i, o) (v := 2) (by decide)
      have hy1' : (y.set i (f'.put o 2))[i]? = some (f'.put o 2) := List.getElem?_set_self (List.getElem?_eq_some_iff.1 hy1).1
      have ho' : o < (f'.put o 2).l.length := by show o < (f'.l.set o 2).length; rw [List.length_set]; exact ho
      have hne' : (f'.put o 2).l ≠ [] := fun e => by rw [e] at ho'; simp at ho'
      have hstep : shrR a t.bad (rowsT t) ((placesI a (rowsT t)).take (k + 1)) = shrStep a t.bad (y.map (·.l)) (i, o) := by
        rw [shrR_snoc hi1, ← show y.map (·.l) = _ from hinv]
      refine wp_seq ?_
      refine wp_reg (by kernel_rfl) ?_
      refine ar_lda tab_ok rfl rfl rfl tb27 rfl rfl rfl rfl rfl rfl ?_
      refine ar_lda tab_ok rfl rfl rfl tb101 rfl rfl rfl rfl rfl rfl ?_
      refine ar_callV (vs := [aigV a, trFV t.bad f0 fs]) (pc_85 a (trOf t.bad (putX (y.map (·.l)) (i, o) 2)) hf hbd (hok'.szt _) (hok'.nn1 _) (hok'.nn2 _)) rfl rfl rfl rfl (fun B ι a w S us hus => view_call hy' (map_put hy1) (F1 _) B ι a w S us hus) rfl rfl rfl rfl ?_
      refine ar_neq_s rfl rfl rfl rfl rfl (fun h31 => ?_) (fun h31 => ?_)
      · refine ar_nil ?_
        refine then_n ?_
        refine wp_condT rfl ?_
        refine wp_reg (by kernel_rfl) ?_
        refine ar_move rfl rfl rfl rfl ?_
        refine ar_move rfl rfl rfl rfl ?_
        refine ar_nc_adr rfl rfl rfl rfl ?_
        refine ar_st_adr tab_ok rfl rfl rfl (F1 [] i _ hy1' hne').2 (F1 [] i _ hy1' hne').1 tb72 rfl rfl (by rw [cellsF_len]; omega) (cellsF_put ho') rfl rfl rfl ?_
        refine ar_nil ?_
        refine inblk_n ?_
        refine round_n ⟨y, hy⟩ (by show y.map (·.l) = _; rw [hstep, shrStep, if_neg h31]) ?_
        exact le_turn (tl' := [(2, .ptr 2 0), (4, .ptr 4 0), (7, .ptr 7 0), (21, .v (.fn (.func 137) [] [.ref (encA a), .ref (trFC t.bad f0 fs)]))]) (C := [(2, .box ((encA a).map .v)), (4, .box [.v (.int .i64 0), .nils, .nils]), (7, .box ((trFC t.bad f0 fs).map .v))])
          rfl rfl hy' hβ hy1' ho' ⟨rfl, rfl, rfl, rfl, trivial⟩ (fun p hp => by
          simp only [List.mem_cons, List.not_mem_nil, or_false] at hp
          rcases hp with rfl | rfl | rfl <;> rfl) rfl rfl (set_back hy1 ho)
      · refine ar_nil ?_
        refine then_n ?_
        refine wp_condF rfl ?_
        refine wp_skip ?_
        refine inblk_n ?_
        refine round_n ⟨_, hy'⟩ (by show (y.set i (f'.put o 2)).map (·.l) = _; rw [hstep, shrStep, if_pos (Decidable.not_not.1 h31), map_put hy1]) ?_
        exact le_famP (C := [(2, .box ((encA a).map .v)), (4, .box [.v (.int .i64 0), .nils, .nils]), (7, .box ((trFC t.bad f0 fs).map .v))]) ⟨rfl, rfl, rfl, rfl, trivial⟩ ⟨rfl, rfl, rfl, trivial⟩ (fun j g h1 h2 => (F1 [] j g h1 h2).1) rfl rfl rfl (pins_in hy')
    · rintro ⟨y, hy⟩ hinv
      have hall : y.map (·.l) = shrR a t.bad (rowsT t) (placesI a (rowsT t)) := by
        rw [show y.map (·.l) = _ from hinv, List.take_of_length_le]
        rw [List.length_map, ← placesI_len, hf0, hfs]; exact Nat.le_refl _
      cases y with
      | nil => cases hy
      | cons y0 ys =>
        refine inblk_n ?_
        refine then_n ?_
        refine wp_seq ?_
        refine wp_reg (by kernel_rfl) ?_
        refine ar_lda tab_ok rfl rfl rfl tb101 rfl rfl rfl rfl rfl rfl ?_
        refine ar_st [] tab_ok rfl tb101 rfl rfl rfl trivial rfl (by show ((true && ((hdF f0).one && (true && true))) : Bool) = true; rw [show (hdF f0).one = true from hdV_one _ _]; rfl) rfl rfl rfl rfl rfl rfl ?_
        refine ar_assign rfl rfl rfl rfl ?_
        refine ar_nil ?_
        refine then_n ?_
        refine wp_ret ?_
        refine ⟨.inr ⟨t.bad, y0, ys, 0, ?_, fun i f h1 h2 => ?_, ?_⟩, rfl⟩
        · rw [← trFV_same hy]; rfl
        · refine ⟨(FamAt.cons (tl := []) (tl' := []) (famAt_app (tl := []) (C := [(2, _), (4, _), (7, _)]) (d := 0) (q := 0) rfl) rfl i f h1 h2).1, ?_⟩
          rw [show pinF 1000 (f0 :: fs) = pinF 1000 (y0 :: ys) from hy.pins]; exact pinF_mem h1 h2
        · rw [h0, shrT, if_pos h0, ← hall]; rfl
end Go.Vd
namespace Go.Vd
open Go.Proofs
theorem pc_73 (a : Aig) (t : Trace) (hf : Fit a) (hbd : Bd a) (hz : SzT t) (hn : Nn t.ini) (hn2 : ∀ r ∈ t.ins, Nn r) : PCall Try.prog 73 [aigV a, trV t] (.bool (leastT a t)) := by
  refine pc_of tab_ok (f := 73) (fn := Try.f73) (N := 40) (rs := [.tmp 4]) (by kernel_rfl) rfl (by kernel_rfl) rfl rfl [(0, .v (aigV a)), (1, .v (trV t))] ⟨rfl, rfl, trivial⟩ rfl rfl ?_
  intro B
  refine wp_seq ?_
  refine wp_reg (by kernel_rfl) ?_
  refine ar_box 2 [] rfl rfl rfl ⟨rfl, trivial⟩ rfl rfl rfl ?_
  refine ar_box 3 [] rfl rfl rfl ⟨rfl, trivial⟩ rfl rfl rfl ?_
  refine ar_assign rfl rfl rfl rfl ?_
  refine ar_nil ?_
  refine then_n ?_
  refine wp_seq ?_
  refine wp_seq ?_
  refine wp_reg (by kernel_rfl) ?_
  refine ar_lda tab_ok rfl rfl rfl tb27 rfl rfl rfl rfl rfl rfl ?_
  refine ar_lda tab_ok rfl rfl rfl tb101 rfl rfl rfl rfl rfl rfl ?_
  refine ar_call [] (pc_113 a t hf hn (by have := hz.il; omega) (by have := hz.nl; omega) (fun r hr => by have := hz.rl r hr; omega)) rfl rfl rfl rfl rfl rfl trivial (.inl rfl) rfl rfl rfl ?_
  refine ar_split (fun h11 => ?_) (fun h11 => ?_)
  · refine ar_not rfl rfl rfl rfl rfl ?_
    refine ar_nil ?_
    refine then_n ?_
    refine wp_condF rfl ?_
    refine wp_skip ?_
    refine then_n ?_
    refine wp_seq ?_
    refine wp_reg (by kernel_rfl) ?_
    refine ar_lda tab_ok rfl rfl rfl tb101 rfl rfl rfl rfl rfl rfl ?_
    refine ar_callown (own_110 t hz) rfl rfl rfl rfl rfl rfl rfl rfl (fun f0 fs hf0 hfs => ?_)
    refine ar_alloc (id := 5) tab_ok rfl (res_fam (C := [(3, _), (2, _)]) rfl rfl) tb101 rfl rfl rfl rfl ?_
    refine ar_st [] tab_ok rfl tb101 rfl rfl rfl trivial rfl (by show ((true && ((hdF f0).one && (true && true))) : Bool) = true; rw [show (hdF f0).one = true from hdV_one _ _]; rfl) rfl rfl rfl rfl rfl rfl ?_
    refine ar_nil ?_
    refine then_n ?_
    have hR := rightT_iff.1 h11
    have hfl : f0.l.length = a.l.length := by rw [hf0]; exact hR.il
    have hfn : fs.length ≤ 1000000 := by
      have h1 := congrArg List.length hfs
      have h2 := hz.nl
      simp at h1; omega
    have hfr : ∀ f ∈ fs, f.l.length ≤ 1000000 := fun f hf => hz.rl _ (by rw [← hfs]; exact List.mem_map_of_mem hf)
    have hrows : (f0 :: fs).map (·.l) = rowsT t := by rw [List.map_cons, hf0, hfs]
    have hF0 : ∀ tl, FamAt (mk tl ([(3, .box ((encT t).map .v)), (2, .box ((encA a).map .v))] ++ fam 1000 (f0 :: fs)) ⟨0, 0, pinF 1000 (f0 :: fs)⟩) (f0 :: fs) := fun tl => famAt_app rfl
    refine wp_seq ?_
    refine wp_reg (by kernel_rfl) ?_
    refine ar_lda tab_ok rfl rfl rfl tb27 rfl rfl rfl rfl rfl rfl ?_
    refine ar_lda tab_ok rfl rfl rfl tb101 rfl rfl rfl rfl rfl rfl ?_
    refine ar_callV (vs := [aigV a, trFV t.bad f0 fs]) (pc_85 a (trOf t.bad (rowsT t)) hf hbd hz hn hn2) rfl rfl rfl rfl (fun B ι ac w S us hus => view_call (Eq.refl _ : sameF (f0 :: fs) (f0 :: fs)) hrows (FamAt.cons (tl := []) (FamAt.cons (tl := []) (hF0 []) rfl) rfl) B ι ac w S us hus) rfl rfl rfl rfl ?_
    refine ar_eql rfl rfl rfl rfl rfl rfl ?_
    refine ar_alloc (id := 6) tab_ok rfl (res_cons (tl' := []) rfl (res_cons rfl (res_fam (tl := []) (C := [(3, _), (2, _)]) rfl rfl))) tb4 rfl rfl rfl rfl ?_
    refine ar_st [] tab_ok rfl tb4 rfl rfl rfl trivial rfl rfl rfl rfl rfl rfl rfl rfl ?_
    refine ar_nil ?_
    refine then_n ?_
    refine wp_seq ?_
    refine wp_seq ?_
    refine wp_reg (by kernel_rfl) ?_
    refine ar_lda tab_ok rfl rfl rfl tb27 rfl rfl rfl rfl rfl rfl ?_
    refine ar_lda tab_ok rfl rfl rfl tb101 rfl rfl rfl rfl rfl rfl ?_
    refine ar_call [] (pc_111 a t.bad f0 fs) rfl rfl rfl rfl rfl rfl trivial (.inl rfl) rfl rfl rfl ?_
    refine ar_nil ?_
    refine then_n ?_
    refine wp_block ?_
    refine wp_rangeP (α := Bool) (it_137 a t.bad f0 fs hbd hfl hfn hfr) (fun x hx => by obtain ⟨p, _, rfl⟩ := List.mem_map.1 hx; rfl)
      [(2, .ptr 2 0), (5, .ptr 5 0), (6, .ptr 6 0), (21, .v (.fn (.func 137) [] [.ref (encA a), .ref (trFC t.bad f0 fs)]))] ([2, 5, 6] ++ idF 1000 (f0 :: fs))
      (fun z => [(2, .box ((encA a).map .v)), (5, .box ((trFC t.bad f0 fs).map .v)), (6, .box [.v (.bool z)])] ++ fam 1000 (f0 :: fs))
      (fun k z => z = (decide (ternaryT a t = 0) && !((placesI a (rowsT t)).take k).any (moreT a t))) (decide (ternaryT a t = 0)) 0 0 (pinF 1000 (f0 :: fs)) (fun p hp => List.mem_append_right _ (List.mem_map_of_mem hp)) (by rw [List.take_zero]; simp)
      (le_famP ⟨rfl, rfl, rfl, rfl, trivial⟩ ⟨rfl, rfl, rfl, trivial⟩ (fun i f h1 h2 => (FamAt.cons (tl := []) (FamAt.cons (tl := []) (FamAt.cons (tl := []) (FamAt.cons (tl := []) (hF0 []) rfl) rfl) rfl) rfl i f h1 h2).1) rfl rfl rfl (fun p hp => List.mem_append_right _ (List.mem_map_of_mem hp))) rfl rfl rfl
      (fun z => boxes_fam (ids := [2, 5, 6]) (C := [(2, .box ((encA a).map .v)), (5, .box ((trFC t.bad f0 fs).map .v)), (6, .box [.v (.bool z)])]) (fs := f0 :: fs) rfl rfl) ?_ ?_
    · rintro l β k x z hx hinv hβ 𝔅1
      obtain ⟨⟨g, o⟩, hp, rfl⟩ : ∃ p, (placesF a f0 fs)[k]? = some p ∧ encP p = x := by
        rw [List.getElem?_map] at hx
        exact Option.map_eq_some_iff.1 hx
      obtain ⟨i, f, hi1, hi2, hi3, ho⟩ := placesF_I hfl hp
      rw [hf0, hfs] at hi1
      have hg : f.g = g := hi3
      subst hg
      have ho : o < f.l.length := ho
      have hne : f.l ≠ [] := fun e => by rw [e] at ho; simp at ho
      have hy : sameF (f0 :: fs) (f0 :: fs) := Eq.refl _
      have F0 := fun tl => famAt_range (tl := tl) (C := [(2, .box ((encA a).map .v)), (5, .box ((trFC t.bad f0 fs).map .v)), (6, .box [.v (.bool z)])]) (ids := [2, 5, 6]) rfl hy hβ
      refine wp_reg (by kernel_rfl) ?_
      refine ar_assign rfl rfl rfl rfl ?_
      refine ar_nil ?_
      refine assign_n rfl ?_
      intro 𝔅2
      refine wp_block ?_
      refine wp_seq ?_
      refine wp_reg (by kernel_rfl) ?_
      refine ar_move rfl rfl rfl rfl ?_
      refine ar_nc_adr rfl rfl rfl rfl ?_
      refine ar_ld_adr tab_ok rfl rfl (F0 [] i f hi2 hne).2 (F0 [] i f hi2 hne).1 tb72 rfl (cellsF_get ho) rfl rfl rfl ?_
      refine ar_assign rfl rfl rfl rfl ?_
      refine ar_nil ?_
      refine then_n ?_
      refine wp_seq ?_
      refine wp_reg (by kernel_rfl) ?_
      refine ar_move rfl rfl rfl rfl ?_
      refine ar_nc_adr rfl rfl rfl rfl ?_
      refine ar_st_adr tab_ok rfl rfl rfl (F0 [] i f hi2 hne).2 (F0 [] i f hi2 hne).1 tb72 rfl rfl (by rw [cellsF_len]; omega) (cellsF_put ho) rfl rfl rfl ?_
      refine ar_nil ?_
      refine then_n ?_
      refine wp_le (le_turn (tl' := [(2, .ptr 2 0), (5, .ptr 5 0), (6, .ptr 6 0), (21, .v (.fn (.func 137) [] [.ref (encA a), .ref (trFC t.bad f0 fs)])), (7, .v (.adr f.g o)), (8, .v (elU (f.l.getD o default)))]) (C := [(2, .box ((encA a).map .v)), (5, .box ((trFC t.bad f0 fs).map .v)), (6, .box [.v (.bool z)])])
        rfl rfl hy hβ hi2 ho ⟨rfl, rfl, rfl, rfl, rfl, rfl, trivial⟩ (fun p hp => by
          simp only [List.mem_cons, List.not_mem_nil, or_false] at hp
          rcases hp with rfl | rfl | rfl <;> rfl) rfl rfl rfl) ?_
      have hy' : sameF (f0 :: fs) ((f0 :: fs).set i (f.put o 2)) := sameF.trans hy (sameF_set hi2 o 2)
      have F1 := fun (z : Bool) tl => famAt_range (tl := tl) (C := [(2, .box ((encA a).map .v)), (5, .box ((trFC t.bad f0 fs).map .v)), (6, .box [.v (.bool z)])]) (ids := [2, 5, 6]) rfl hy' hβ
      have hok : RowsOk ((f0 :: fs).map (·.l)) := by rw [hrows]; exact rowsT_ok hz hn hn2
      have hok' := putX_ok hok (i, o) (v := 2) (by decide)
      have hy1' : ((f0 :: fs).set i (f.put o 2))[i]? = some (f.put o 2) := List.getElem?_set_self (List.getElem?_eq_some_iff.1 hi2).1
      have ho' : o < (f.put o 2).l.length := by show o < (f.l.set o 2).length; rw [List.length_set]; exact ho
      have hne' : (f.put o 2).l ≠ [] := fun e => by rw [e] at ho'; simp at ho'
      have hcell : ((rowsT t).getD i []).getD o default = f.l.getD o default := by
        rw [← hrows, List.getD_eq_getElem?_getD (i := i), List.getElem?_map, hi2]; rfl
      have hsnoc : (decide (ternaryT a t = 0) && !((placesI a (rowsT t)).take (k + 1)).any (moreT a t)) = (z && !moreT a t (i, o)) := by
        rw [List.take_add_one, hi1, hinv, List.any_append]
        simp [Bool.and_assoc]
      have hmore : moreT a t (i, o) = (decide (f.l.getD o default ≠ 2) && decide (ternaryT a (trOf t.bad (putX ((f0 :: fs).map (·.l)) (i, o) 2)) = 0)) := by
        rw [hrows]; unfold moreT; rw [hcell]
      refine wp_seq ?_
      refine wp_seq ?_
      refine wp_reg (by kernel_rfl) ?_
      refine ar_move rfl rfl rfl rfl ?_
      refine ar_neq_s rfl rfl rfl rfl rfl (fun h29 => ?_) (fun h29 => ?_)
      · refine ar_move rfl rfl rfl rfl ?_
        refine ar_lda tab_ok rfl rfl rfl tb27 rfl rfl rfl rfl rfl rfl ?_
        refine ar_lda tab_ok rfl rfl rfl tb101 rfl rfl rfl rfl rfl rfl ?_
        refine ar_callV (vs := [aigV a, trFV t.bad f0 fs]) (pc_85 a (trOf t.bad (putX ((f0 :: fs).map (·.l)) (i, o) 2)) hf hbd (hok'.szt _) (hok'.nn1 _) (hok'.nn2 _)) rfl rfl rfl rfl (fun B ι a w S us hus => view_call hy' (map_put hi2) (F1 z _) B ι a w S us hus) rfl rfl rfl rfl ?_
        refine ar_eql_s rfl rfl rfl rfl rfl (fun h34 => ?_) (fun h34 => ?_)
        · refine ar_pickT rfl rfl rfl rfl rfl ?_
          refine ar_nil ?_
          refine then_n ?_
          refine wp_condT rfl ?_
          refine wp_reg (by kernel_rfl) ?_
          refine ar_st [] tab_ok rfl tb4 rfl rfl rfl trivial rfl rfl rfl rfl rfl rfl rfl rfl ?_
          refine ar_nil ?_
          refine then_n ?_
          refine wp_le (le_famP (tl := [(2, .ptr 2 0), (5, .ptr 5 0), (6, .ptr 6 0), (21, .v (.fn (.func 137) [] [.ref (encA a), .ref (trFC t.bad f0 fs)])), (7, .v (.adr f.g o)), (8, .v (elU (f.l.getD o default)))]) (C := [(2, .box ((encA a).map .v)), (5, .box ((trFC t.bad f0 fs).map .v)), (6, .box [.v (.bool false)])]) (fs := (f0 :: fs).set i (f.put o 2)) ⟨rfl, rfl, rfl, rfl, rfl, rfl, trivial⟩ ⟨rfl, rfl, rfl, trivial⟩ (fun j g h1 h2 => (FamAt.cons (tl := []) (F1 z []) rfl j g h1 h2).1) rfl rfl rfl (pins_in hy')) ?_
          refine wp_reg (by kernel_rfl) ?_
          refine ar_move rfl rfl rfl rfl ?_
          refine ar_move rfl rfl rfl rfl ?_
          refine ar_nc_adr rfl rfl rfl rfl ?_
          refine ar_st_adr tab_ok rfl rfl rfl (F1 false [] i _ hy1' hne').2 (F1 false [] i _ hy1' hne').1 tb72 rfl rfl (by rw [cellsF_len]; omega) (cellsF_put ho') rfl rfl rfl ?_
          refine ar_nil ?_
          refine inblk_n ?_
          refine round_n false ?_ ?_
          · rw [hsnoc, hmore, decide_eq_true h29, decide_eq_true h34]; simp
          · exact le_turn (tl' := [(2, .ptr 2 0), (5, .ptr 5 0), (6, .ptr 6 0), (21, .v (.fn (.func 137) [] [.ref (encA a), .ref (trFC t.bad f0 fs)]))]) (C := [(2, .box ((encA a).map .v)), (5, .box ((trFC t.bad f0 fs).map .v)), (6, .box [.v (.bool false)])])
              rfl rfl hy' hβ hy1' ho' ⟨rfl, rfl, rfl, rfl, trivial⟩ (fun p hp => by
                    simp only [List.mem_cons, List.not_mem_nil, or_false] at hp
                    rcases hp with rfl | rfl | rfl <;> rfl) rfl rfl (set_back hi2 ho)
        · refine ar_pickT rfl rfl rfl rfl rfl ?_
          refine ar_nil ?_
          refine then_n ?_
          refine wp_condF rfl ?_
          refine wp_skip ?_
          refine then_n ?_
          refine wp_reg (by kernel_rfl) ?_
          refine ar_move rfl rfl rfl rfl ?_
          refine ar_move rfl rfl rfl rfl ?_
          refine ar_nc_adr rfl rfl rfl rfl ?_
          refine ar_st_adr tab_ok rfl rfl rfl (F1 z [] i _ hy1' hne').2 (F1 z [] i _ hy1' hne').1 tb72 rfl rfl (by rw [cellsF_len]; omega) (cellsF_put ho') rfl rfl rfl ?_
          refine ar_nil ?_
          refine inblk_n ?_
          refine round_n z ?_ ?_
          · rw [hsnoc, hmore, decide_eq_false h34]; simp
          · exact le_turn (tl' := [(2, .ptr 2 0), (5, .ptr 5 0), (6, .ptr 6 0), (21, .v (.fn (.func 137) [] [.ref (encA a), .ref (trFC t.bad f0 fs)]))]) (C := [(2, .box ((encA a).map .v)), (5, .box ((trFC t.bad f0 fs).map .v)), (6, .box [.v (.bool z)])])
              rfl rfl hy' hβ hy1' ho' ⟨rfl, rfl, rfl, rfl, trivial⟩ (fun p hp => by
                    simp only [List.mem_cons, List.not_mem_nil, or_false] at hp
                    rcases hp with rfl | rfl | rfl <;> rfl) rfl rfl (set_back hi2 ho)
      · refine ar_move rfl rfl rfl rfl ?_
        refine ar_skip rfl rfl ?_
        refine ar_skip rfl rfl ?_
        refine ar_skip rfl rfl ?_
        refine ar_skip rfl rfl ?_
        refine ar_pickF rfl rfl rfl rfl rfl ?_
        refine ar_nil ?_
        refine then_n ?_
        refine wp_condF rfl ?_
        refine wp_skip ?_
        refine then_n ?_
        refine wp_reg (by kernel_rfl) ?_
        refine ar_move rfl rfl rfl rfl ?_
        refine ar_move rfl rfl rfl rfl ?_
        refine ar_nc_adr rfl rfl rfl rfl ?_
        refine ar_st_adr tab_ok rfl rfl rfl (F1 z [] i _ hy1' hne').2 (F1 z [] i _ hy1' hne').1 tb72 rfl rfl (by rw [cellsF_len]; omega) (cellsF_put ho') rfl rfl rfl ?_
        refine ar_nil ?_
        refine inblk_n ?_
        refine round_n z ?_ ?_
        · rw [hsnoc, hmore, decide_eq_false h29]; simp
        · exact le_turn (tl' := [(2, .ptr 2 0), (5, .ptr 5 0), (6, .ptr 6 0), (21, .v (.fn (.func 137) [] [.ref (encA a), .ref (trFC t.bad f0 fs)]))]) (C := [(2, .box ((encA a).map .v)), (5, .box ((trFC t.bad f0 fs).map .v)), (6, .box [.v (.bool z)])])
            rfl rfl hy' hβ hy1' ho' ⟨rfl, rfl, rfl, rfl, trivial⟩ (fun p hp => by
                  simp only [List.mem_cons, List.not_mem_nil, or_false] at hp
                  rcases hp with rfl | rfl | rfl <;> rfl) rfl rfl (set_back hi2 ho)
    · rintro z hinv
      refine inblk_n ?_
      refine then_n ?_
      refine wp_seq ?_
      refine wp_reg (by kernel_rfl) ?_
      refine ar_ld tab_ok rfl rfl rfl tb4 rfl rfl rfl rfl rfl ?_
      refine ar_assign rfl rfl rfl rfl ?_
      refine ar_nil ?_
      refine then_n ?_
      refine wp_ret ?_
      refine ret_post rfl rfl ?_
      have hall : (placesI a (rowsT t)).take ((placesF a f0 fs).map encP).length = placesI a (rowsT t) := by
        rw [List.take_of_length_le]
        rw [List.length_map, ← placesI_len, hf0, hfs]; exact Nat.le_refl _
      show V.bool z = V.bool (leastT a t)
      have h2 : z = (decide (ternaryT a t = 0) && !((placesI a (rowsT t)).take ((placesF a f0 fs).map encP).length).any (moreT a t)) := hinv
      rw [h2, hall, leastT, h11]; rfl
  · refine ar_not rfl rfl rfl rfl rfl ?_
    refine ar_nil ?_
    refine then_n ?_
    refine wp_condT rfl ?_
    refine wp_seq ?_
    refine wp_reg (by kernel_rfl) ?_
    refine ar_assign rfl rfl rfl rfl ?_
    refine ar_nil ?_
    refine then_n ?_
    refine wp_ret ?_
    refine then_r ?_
    refine ret_post rfl rfl ?_
    rw [leastT, h11]; rfl
end Go.Vd
namespace Go.Vd
open Go.Proofs
abbrev rowOf (R : List (List Int)) (i : Nat) : List Int := R.getD i []
def cell (R : List (List Int)) (i j : Nat) : Int := (rowOf R i).getD j default
def inR (R : List (List Int)) (p : Nat × Nat) : Prop := p.1 < R.length ∧ p.2 < (rowOf R p.1).length
/-- The same but for more X in the second. -/
structure LeR (R R' : List (List Int)) : Prop where
  n : R.length = R'.length
  l : ∀ i, (rowOf R i).length = (rowOf R' i).length
  c : ∀ i j, cell R i j = cell R' i j ∨ cell R' i j = 2
theorem LeR.refl (R : List (List Int)) : LeR R R := ⟨rfl, fun _ => rfl, fun _ _ => .inl rfl⟩
theorem LeR.trans {R S T : List (List Int)} (h : LeR R S) (h' : LeR S T) : LeR R T := ⟨h.n.trans h'.n, fun i => (h.l i).trans (h'.l i), fun i j => by
  rcases h'.c i j with e | e
  · rcases h.c i j with e' | e'
    · exact .inl (e'.trans e)
    · exact .inr (e ▸ e')
  · exact .inr e⟩
theorem rows_ext {R S : List (List Int)} (h : R.length = S.length) (hl : ∀ i, (rowOf R i).length = (rowOf S i).length) (hc : ∀ i j, cell R i j = cell S i j) : R = S := by
  refine List.ext_getElem h fun i h1 h2 => ?_
  have hg : ∀ {T : List (List Int)} (hT : i < T.length), rowOf T i = T[i] := fun {T} hT => by
    show T.getD i [] = _
    rw [List.getD_eq_getElem?_getD, List.getElem?_eq_getElem hT]; rfl
  rw [← hg h1, ← hg h2]
  refine List.ext_getElem (hl i) fun j h3 h4 => ?_
  have := hc i j
  unfold cell at this
  rw [List.getD_eq_getElem?_getD, List.getD_eq_getElem?_getD, List.getElem?_eq_getElem h3, List.getElem?_eq_getElem h4] at this
  exact this
theorem rowOf_put {R : List (List Int)} {p : Nat × Nat} {v : Int} (i : Nat) : rowOf (putX R p v) i = if i = p.1 ∧ p.1 < R.length then (rowOf R p.1).set p.2 v else rowOf R i := by
  unfold putX rowOf
  rw [List.getD_eq_getElem?_getD, List.getD_eq_getElem?_getD (l := R) (i := i)]
  by_cases h : i = p.1
  · subst h
    by_cases h2 : p.1 < R.length
    · rw [if_pos ⟨rfl, h2⟩, List.getElem?_set_self h2]; rfl
    · rw [if_neg (fun h => h2 h.2), List.getElem?_eq_none (by rw [List.length_set]; omega), List.getElem?_eq_none (by omega)]
  · rw [if_neg (fun h' => h h'.1), List.getElem?_set_ne (fun e => h e.symm)]
theorem put_len {R : List (List Int)} {p : Nat × Nat} {v : Int} : (putX R p v).length = R.length := by unfold putX; rw [List.length_set]
theorem put_row {R : List (List Int)} {p : Nat × Nat} {v : Int} (i : Nat) : (rowOf (putX R p v) i).length = (rowOf R i).length := by
  rw [rowOf_put]
  split
  · rename_i h; rw [List.length_set, h.1]
  · rfl
theorem cell_put {R : List (List Int)} {p : Nat × Nat} {v : Int} (hp : inR R p) (i j : Nat) : cell (putX R p v) i j = if i = p.1 ∧ j = p.2 then v else cell R i j := by
  unfold cell
  rw [rowOf_put]
  by_cases h : i = p.1
  · subst h
    rw [if_pos ⟨rfl, hp.1⟩, List.getD_eq_getElem?_getD]
    by_cases h2 : j = p.2
    · subst h2
      rw [if_pos ⟨rfl, rfl⟩, List.getElem?_set_self hp.2]; rfl
    · rw [if_neg (fun h => h2 h.2), List.getElem?_set_ne (fun e => h2 e.symm), List.getD_eq_getElem?_getD]
  · rw [if_neg (fun h' => h h'.1), if_neg (fun h' => h h'.1)]
theorem le_put {R : List (List Int)} {p : Nat × Nat} (hp : inR R p) : LeR R (putX R p 2) := ⟨put_len.symm, fun i => (put_row i).symm, fun i j => by
  rw [cell_put hp]
  split
  · exact .inr rfl
  · exact .inl rfl⟩
theorem LeR.inR {R S : List (List Int)} (h : LeR R S) {p : Nat × Nat} (hp : inR R p) : inR S p := ⟨h.n ▸ hp.1, by rw [← h.l]; exact hp.2⟩
theorem put_mono {R S : List (List Int)} (h : LeR R S) {p : Nat × Nat} (hp : inR R p) : LeR (putX R p 2) (putX S p 2) := ⟨by rw [put_len, put_len]; exact h.n, fun i => by rw [put_row, put_row]; exact h.l i, fun i j => by
  rw [cell_put hp, cell_put (h.inR hp)]
  split
  · exact .inr rfl
  · exact h.c i j⟩
theorem put_id {R : List (List Int)} {p : Nat × Nat} (hp : inR R p) {v : Int} (h : cell R p.1 p.2 = v) : putX R p v = R := by
  refine rows_ext put_len (fun i => put_row i) fun i j => ?_
  rw [cell_put hp]
  split
  · rename_i e; rw [e.1, e.2, h]
  · rfl
/-! ### Rows and traces -/
theorem low_of_cells {R S : List (List Int)} (h : LeR R S) (i : Nat) : pairs lowT (rowOf R i) (rowOf S i) = true :=
  (pairs_iff _ _ _).2 ⟨h.l i, fun j _ => low_iff.2 (h.c i j)⟩
theorem drop_row {R : List (List Int)} (k i : Nat) : (R.drop k).getD i [] = rowOf R (k + i) := by
  show _ = R.getD (k + i) []
  rw [List.getD_eq_getElem?_getD, List.getD_eq_getElem?_getD, List.getElem?_drop]
theorem lowTr_of {R S : List (List Int)} (h : LeR R S) (bad : Int) : LowTr (trOf bad R) (trOf bad S) :=
  ⟨rfl, low_of_cells h 0, (pairs_iff _ _ _).2 ⟨by show (R.drop 1).length = (S.drop 1).length; rw [List.length_drop, List.length_drop, h.n], fun j _ => by
    show pairs lowT ((R.drop 1).getD j []) ((S.drop 1).getD j []) = true
    rw [drop_row, drop_row]; exact low_of_cells h _⟩⟩
theorem rowsT_trOf {R : List (List Int)} (h : R ≠ []) (bad : Int) : rowsT (trOf bad R) = R := by
  cases R with
  | nil => exact absurd rfl h
  | cons r R => rfl
theorem trOf_rowsT (t : Trace) : trOf t.bad (rowsT t) = t := rfl
theorem put_ne {R : List (List Int)} (h : R ≠ []) (p : Nat × Nat) (v : Int) : putX R p v ≠ [] := fun e => h (List.eq_nil_of_length_eq_zero (by rw [← put_len (R := R) (p := p) (v := v), e]; rfl))
/-! ### Places -/
theorem initP_mem : ∀ {ls : List Latch} {i : Nat} {p : Nat × Nat}, p ∈ initP 0 i ls → p.1 = 0 ∧ i ≤ p.2 ∧ p.2 - i < ls.length ∧ freeL (ls.getD (p.2 - i) default) = true
  | [], _, _, h => by cases h
  | x :: xs, i, p, h => by
    have go : p ∈ initP 0 (i + 1) xs → p.1 = 0 ∧ i ≤ p.2 ∧ p.2 - i < (x :: xs).length ∧ freeL ((x :: xs).getD (p.2 - i) default) = true := fun h => by
      obtain ⟨h1, h2, h3, h4⟩ := initP_mem h
      have e : p.2 - i = p.2 - (i + 1) + 1 := by omega
      refine ⟨h1, by omega, by simp; omega, ?_⟩
      rw [e, List.getD_cons_succ]; exact h4
    unfold initP at h
    by_cases hx : freeL x = true
    · rw [if_pos hx] at h
      rcases List.mem_cons.1 h with rfl | h
      · exact ⟨rfl, Nat.le_refl _, by simp, by simpa using hx⟩
      · exact go h
    · rw [if_neg hx] at h; exact go h
theorem rowsI_mem : ∀ {ls : List (List Int)} {k : Nat} {p : Nat × Nat}, p ∈ rowsI k ls → k ≤ p.1 ∧ p.1 - k < ls.length ∧ p.2 < (rowOf ls (p.1 - k)).length
  | [], _, _, h => by cases h
  | l :: ls, k, p, h => by
    rcases List.mem_append.1 h with h | h
    · unfold rowP at h
      obtain ⟨o, ho, rfl⟩ := List.mem_map.1 h
      exact ⟨Nat.le_refl _, by simp, by simpa [rowOf] using ho⟩
    · obtain ⟨h1, h2, h3⟩ := rowsI_mem h
      have e : p.1 - k = p.1 - (k + 1) + 1 := by omega
      refine ⟨by omega, by simp; omega, ?_⟩
      rw [e]; exact h3
theorem place_ok {a : Aig} {R : List (List Int)} (hne : R ≠ []) (hl : (rowOf R 0).length = a.l.length) {p : Nat × Nat} (h : p ∈ placesI a R) : inR R p ∧ (p.1 = 0 → freeL (a.l.getD p.2 default) = true) := by
  have hpos : 0 < R.length := by
    cases R with
    | nil => exact absurd rfl hne
    | cons r R => simp
  rcases List.mem_append.1 h with h | h
  · obtain ⟨h1, _, h3, h4⟩ := initP_mem h
    exact ⟨⟨by omega, by rw [h1, hl]; simpa using h3⟩, fun _ => by simpa using h4⟩
  · obtain ⟨h1, h2, h3⟩ := rowsI_mem h
    have e := drop_row (R := R) 1 (p.1 - 1)
    rw [show 1 + (p.1 - 1) = p.1 by omega] at e
    refine ⟨⟨by rw [List.length_drop] at h2; omega, ?_⟩, fun h0 => by omega⟩
    have h3' : p.2 < ((R.drop 1).getD (p.1 - 1) []).length := h3
    rw [e] at h3'; exact h3'
theorem rowsI_congr : ∀ {ls ls' : List (List Int)} {k : Nat}, ls.map List.length = ls'.map List.length → rowsI k ls = rowsI k ls'
  | [], [], _, _ => rfl
  | [], _ :: _, _, h => by cases h
  | _ :: _, [], _, h => by cases h
  | l :: ls, l' :: ls', k, h => by
    have h' : l.length :: ls.map List.length = l'.length :: ls'.map List.length := h
    obtain ⟨h1, h2⟩ := List.cons.inj h'
    show rowP k l.length ++ rowsI (k + 1) ls = rowP k l'.length ++ rowsI (k + 1) ls'
    rw [h1, rowsI_congr h2]
theorem LeR.places {R S : List (List Int)} (h : LeR R S) (a : Aig) : placesI a R = placesI a S := by
  unfold placesI
  congr 1
  refine rowsI_congr (List.ext_getElem? fun i => ?_)
  rw [List.getElem?_map, List.getElem?_map, List.getElem?_drop, List.getElem?_drop]
  have := h.l (1 + i)
  unfold rowOf at this
  rw [List.getD_eq_getElem?_getD, List.getD_eq_getElem?_getD] at this
  by_cases hi : 1 + i < R.length
  · rw [List.getElem?_eq_getElem hi, List.getElem?_eq_getElem (h.n ▸ hi)] at this ⊢
    simpa using this
  · rw [List.getElem?_eq_none (by omega), List.getElem?_eq_none (by rw [← h.n]; omega)]
/-! ### What stays right -/
structure OkR (a : Aig) (bad : Int) (R : List (List Int)) : Prop where
  ne : R ≠ []
  ok : Okt a (trOf bad R)
theorem OkR.il {a : Aig} {bad : Int} {R : List (List Int)} (h : OkR a bad R) : (rowOf R 0).length = a.l.length := h.ok.r.il
theorem okR_put {a : Aig} {bad : Int} {R : List (List Int)} (h : OkR a bad R) {p : Nat × Nat} (hp : p ∈ placesI a R) : OkR a bad (putX R p 2) := by
  obtain ⟨hin, hfree⟩ := place_ok h.ne h.il hp
  have ho := h.ok
  have hrow : ∀ i, TriL (rowOf R i) → TriL (rowOf (putX R p 2) i) := fun i ht => by
    rw [rowOf_put]
    split
    · rename_i e
      intro x hx
      rcases List.mem_or_eq_of_mem_set hx with h1 | rfl
      · rw [← e.1] at h1; exact ht x h1
      · exact tri2
    · exact ht
  have hins : ∀ r, r ∈ (putX R p 2).drop 1 → ∃ i, r = rowOf (putX R p 2) (1 + i) ∧ rowOf R (1 + i) ∈ R.drop 1 := fun r hr => by
    obtain ⟨i, hi, rfl⟩ := List.mem_iff_getElem.1 hr
    have hi' : i < (R.drop 1).length := by rw [List.length_drop, put_len] at hi; rw [List.length_drop]; exact hi
    refine ⟨i, ?_, ?_⟩
    · rw [← drop_row, List.getD_eq_getElem?_getD, List.getElem?_eq_getElem hi]; rfl
    · rw [← drop_row, List.getD_eq_getElem?_getD, List.getElem?_eq_getElem hi']; exact List.getElem_mem hi'
  have hi0 : TriL (rowOf (putX R p 2) 0) := hrow 0 ho.i
  have hn0 : ∀ r, r ∈ (putX R p 2).drop 1 → TriL r := fun r hr => by
    obtain ⟨i, rfl, h2⟩ := hins r hr
    exact hrow _ (ho.n _ h2)
  refine ⟨put_ne h.ne _ _, ⟨ho.r.b0, ho.r.b1, ?_, ?_, hi0.isTri, ?_, fun r hr => ?_, fun r hr => (hn0 r hr).isTri⟩, hi0, hn0⟩
  · have := ho.r.n0
    show 1 ≤ ((putX R p 2).drop 1).length
    rw [List.length_drop, put_len, ← List.length_drop]; exact this
  · have := ho.r.n1
    show ((putX R p 2).drop 1).length ≤ 200
    rw [List.length_drop, put_len, ← List.length_drop]; exact this
  · have hip := (pairs_iff _ _ _).1 ho.r.ip
    refine (pairs_iff _ _ _).2 ⟨hip.1.trans (put_row 0).symm, fun j hj => ?_⟩
    have h1 := hip.2 j hj
    show startsT (a.l.getD j default) (cell (putX R p 2) 0 j) = true
    rw [cell_put hin]
    split
    · rename_i e
      have := hfree e.1.symm
      rw [← e.2] at this
      unfold startsT
      unfold freeL at this
      rw [this]; rfl
    · exact h1
  · obtain ⟨i, rfl, h2⟩ := hins r hr
    rw [put_row]; exact ho.r.rl _ h2
/-! ### The fold -/
structure ShrOk (a : Aig) (bad : Int) (R F : List (List Int)) : Prop where
  le : LeR R F
  ok : OkR a bad F
  w : ternaryT a (trOf bad F) = 0
def leastAt (a : Aig) (bad : Int) (F : List (List Int)) (p : Nat × Nat) : Prop := cell F p.1 p.2 ≠ 2 → ternaryT a (trOf bad (putX F p 2)) ≠ 0
theorem shr_main {a : Aig} {bad : Int} {R0 : List (List Int)} (h0 : OkR a bad R0) : ∀ (ps : List (Nat × Nat)) {R : List (List Int)}, (∀ p, p ∈ ps → p ∈ placesI a R0) → ShrOk a bad R0 R →
    ShrOk a bad R0 (shrR a bad R ps) ∧ LeR R (shrR a bad R ps) ∧ (∀ p, p ∈ ps → leastAt a bad (shrR a bad R ps) p) ∧ ∀ q, q ∉ ps → cell (shrR a bad R ps) q.1 q.2 = cell R q.1 q.2
  | [], R, _, h => ⟨h, LeR.refl R, fun p hp => (by cases hp), fun _ _ => rfl⟩
  | p :: ps, R, hps, h => by
    have hp0 := hps p List.mem_cons_self
    have hpR : p ∈ placesI a R := by rw [← h.le.places a]; exact hp0
    have hin := (place_ok h.ok.ne h.ok.il hpR).1
    have hput := okR_put h.ok hpR
    have hstep : ShrOk a bad R0 (shrStep a bad R p) ∧ LeR R (shrStep a bad R p) := by
      unfold shrStep
      split
      · rename_i e; exact ⟨⟨h.le.trans (le_put hin), hput, e⟩, le_put hin⟩
      · exact ⟨h, LeR.refl R⟩
    obtain ⟨h1, h2, h3, h4⟩ := shr_main h0 ps (fun q hq => hps q (List.mem_cons_of_mem _ hq)) hstep.1
    have hF : shrR a bad R (p :: ps) = shrR a bad (shrStep a bad R p) ps := rfl
    rw [hF]
    refine ⟨h1, hstep.2.trans h2, fun q hq => ?_, fun q hq => ?_⟩
    · rcases List.mem_cons.1 hq with rfl | hq
      · intro hne hw
        have hqF : q ∈ placesI a (shrR a bad (shrStep a bad R q) ps) := by rw [← h1.le.places a]; exact hp0
        by_cases e : ternaryT a (trOf bad (putX R q 2)) = 0
        · have hc : cell (shrStep a bad R q) q.1 q.2 = 2 := by
            unfold shrStep
            rw [if_pos e, cell_put hin, if_pos ⟨rfl, rfl⟩]
          rcases h2.c q.1 q.2 with e1 | e1
          · exact hne (e1.symm.trans hc)
          · exact hne e1
        · have hle : LeR R (shrR a bad (shrStep a bad R q) ps) := hstep.2.trans h2
          exact e (ternary_low (okR_put h1.ok hqF).ok hput.ok (lowTr_of (put_mono hle hin) bad) hw)
      · exact h3 q hq
    · rw [h4 q (fun h => hq (List.mem_cons_of_mem _ h))]
      unfold shrStep
      split
      · rw [cell_put hin, if_neg (fun e => hq (by rw [show q = p from Prod.ext e.1 e.2]; exact List.mem_cons_self))]
      · rfl
theorem shr_id {a : Aig} {bad : Int} {F : List (List Int)} (h : OkR a bad F) : ∀ (ps : List (Nat × Nat)), (∀ p, p ∈ ps → p ∈ placesI a F) → (∀ p, p ∈ ps → leastAt a bad F p) → shrR a bad F ps = F
  | [], _, _ => rfl
  | p :: ps, h1, h2 => by
    have hin := (place_ok h.ne h.il (h1 p List.mem_cons_self)).1
    have e : shrStep a bad F p = F := by
      unfold shrStep
      split
      · rename_i e
        by_cases hc : cell F p.1 p.2 = 2
        · exact put_id hin hc
        · exact absurd e (h2 p List.mem_cons_self hc)
      · rfl
    show shrR a bad (shrStep a bad F p) ps = F
    rw [e]
    exact shr_id h ps (fun q hq => h1 q (List.mem_cons_of_mem _ hq)) fun q hq => h2 q (List.mem_cons_of_mem _ hq)
/-! ### Of traces -/
abbrev leT (t s : Trace) : Prop := t.bad = s.bad ∧ LeR (rowsT t) (rowsT s)
theorem okR_of {a : Aig} {t : Trace} (h : Okt a t) : OkR a t.bad (rowsT t) := ⟨by simp, h⟩
abbrev finR (a : Aig) (t : Trace) : List (List Int) := shrR a t.bad (rowsT t) (placesI a (rowsT t))
theorem shr_fin {a : Aig} {t : Trace} (h : Okt a t) (hw : ternaryT a t = 0) : ShrOk a t.bad (rowsT t) (finR a t) ∧ (∀ p, p ∈ placesI a (rowsT t) → leastAt a t.bad (finR a t) p) ∧ ∀ q, q ∉ placesI a (rowsT t) → cell (finR a t) q.1 q.2 = cell (rowsT t) q.1 q.2 := by
  obtain ⟨h1, _, h3, h4⟩ := shr_main (okR_of h) (placesI a (rowsT t)) (fun _ hp => hp) (R := rowsT t) ⟨LeR.refl _, okR_of h, hw⟩
  exact ⟨h1, h3, h4⟩
theorem shrT_fin {a : Aig} {t : Trace} (hw : ternaryT a t = 0) : shrT a t = trOf t.bad (finR a t) := by rw [shrT, if_pos hw]
theorem shrT_no {a : Aig} {t : Trace} (hw : ternaryT a t ≠ 0) : shrT a t = ⟨0, [], []⟩ := by rw [shrT, if_neg hw]
theorem shrT_rows {a : Aig} {t : Trace} (h : Okt a t) (hw : ternaryT a t = 0) : rowsT (shrT a t) = finR a t := by
  rw [shrT_fin hw, rowsT_trOf (shr_fin h hw).1.ok.ne]
theorem shrT_bad {a : Aig} {t : Trace} (hw : ternaryT a t = 0) : (shrT a t).bad = t.bad := by rw [shrT_fin hw]; rfl
theorem shrT_ok {a : Aig} {t : Trace} (h : Okt a t) (hw : ternaryT a t = 0) : Okt a (shrT a t) := by rw [shrT_fin hw]; exact (shr_fin h hw).1.ok.ok
theorem shrT_w {a : Aig} {t : Trace} (h : Okt a t) (hw : ternaryT a t = 0) : ternaryT a (shrT a t) = 0 := by rw [shrT_fin hw]; exact (shr_fin h hw).1.w
theorem shrT_le {a : Aig} {t : Trace} (h : Okt a t) (hw : ternaryT a t = 0) : LeR (rowsT t) (rowsT (shrT a t)) := by rw [shrT_rows h hw]; exact (shr_fin h hw).1.le
theorem shrT_least {a : Aig} {t : Trace} (h : Okt a t) (hw : ternaryT a t = 0) {p : Nat × Nat} (hp : p ∈ placesI a (rowsT (shrT a t))) : leastAt a (shrT a t).bad (rowsT (shrT a t)) p := by
  rw [← (shrT_le h hw).places a] at hp
  rw [shrT_rows h hw, shrT_bad hw]; exact (shr_fin h hw).2.1 p hp
theorem least_iff {a : Aig} {t : Trace} : leastT a t = true ↔ rightT a t = true ∧ ternaryT a t = 0 ∧ ∀ p, p ∈ placesI a (rowsT t) → leastAt a t.bad (rowsT t) p := by
  unfold leastT
  simp only [Bool.and_eq_true, decide_eq_true_eq, Bool.not_eq_true', List.any_eq_false]
  constructor
  · rintro ⟨⟨h1, h2⟩, h3⟩
    refine ⟨h1, h2, fun p hp hne hw => h3 p hp ?_⟩
    unfold moreT
    simp only [Bool.and_eq_true, decide_eq_true_eq]
    exact ⟨hne, hw⟩
  · rintro ⟨h1, h2, h3⟩
    refine ⟨⟨h1, h2⟩, fun p hp hm => ?_⟩
    unfold moreT at hm
    simp only [Bool.and_eq_true, decide_eq_true_eq] at hm
    exact h3 p hp hm.1 hm.2
theorem shrT_isLeast {a : Aig} {t : Trace} (h : Okt a t) (hw : ternaryT a t = 0) : leastT a (shrT a t) = true :=
  least_iff.2 ⟨rightT_iff.2 (shrT_ok h hw).r, shrT_w h hw, fun _ hp => shrT_least h hw hp⟩
theorem least_id {a : Aig} {t : Trace} (h : Okt a t) (hl : leastT a t = true) : shrT a t = t := by
  obtain ⟨_, hw, h3⟩ := least_iff.1 hl
  rw [shrT_fin hw]
  unfold finR
  rw [shr_id (okR_of h) _ (fun _ hp => hp) h3]; rfl
theorem shrT_again {a : Aig} {t : Trace} (h : Okt a t) (hw : ternaryT a t = 0) : shrT a (shrT a t) = shrT a t := least_id (shrT_ok h hw) (shrT_isLeast h hw)
theorem shrT_low {a : Aig} {t : Trace} (h : Okt a t) (hw : ternaryT a t = 0) : LowTr t (shrT a t) := by
  have := lowTr_of (shrT_le h hw) t.bad
  rw [shrT_rows h hw] at this
  rw [shrT_fin hw]; exact this
theorem shrT_n {a : Aig} {t : Trace} (h : Okt a t) (hw : ternaryT a t = 0) : (shrT a t).ins.length = t.ins.length := (pairs_same (shrT_low h hw).n).symm
theorem ternary_cases (a : Aig) (t : Trace) : ternaryT a t = 0 ∨ ternaryT a t = 7 ∨ ternaryT a t = 8 := by
  unfold ternaryT
  split
  · split
    · exact .inl rfl
    · exact .inr (.inr rfl)
  · exact .inr (.inl rfl)
theorem ternary_right {a : Aig} {t : Trace} (h : Okt a t) (hn : ternaryT a t ≠ 0) : ternaryT a t = 8 := by
  unfold ternaryT at hn ⊢
  rw [if_pos (rightT_iff.2 h.r)] at hn ⊢
  split
  · rename_i e; rw [if_pos e] at hn; exact absurd rfl hn
  · rfl
/-- A latch that is reset keeps its value. -/
theorem shrT_fixed {a : Aig} {t : Trace} (h : Okt a t) (hw : ternaryT a t = 0) {i : Nat} (hi : freeL (a.l.getD i default) = false) : (shrT a t).ini.getD i default = t.ini.getD i default := by
  have h1 := (shr_fin h hw).2.2 (0, i) (fun hm => by
    have := (place_ok (R := rowsT t) (by simp) h.r.il hm).2 rfl
    rw [hi] at this; cases this)
  rw [shrT_fin hw]; exact h1
theorem many_low : ∀ {x y : List Int}, pairs lowT x y = true → manyT x ≤ manyT y
  | [], [], _ => Nat.le_refl _
  | x :: xs, y :: ys, h => by
    simp only [pairs, Bool.and_eq_true] at h
    have h1 := low_iff.1 h.1
    have h2 := many_low h.2
    rw [manyT_cons, manyT_cons]
    rcases h1 with h1 | h1
    · rw [h1]; omega
    · rw [if_pos h1]; split <;> omega
  | [], _ :: _, h => by simp [pairs] at h
  | _ :: _, [], h => by simp [pairs] at h
theorem manyR_low : ∀ {x y : List (List Int)}, lowR x y = true → manyR x ≤ manyR y
  | [], [], _ => Nat.le_refl _
  | x :: xs, y :: ys, h => by
    simp only [lowR, pairs, Bool.and_eq_true] at h
    have h1 := many_low h.1
    have h2 := manyR_low h.2
    simp only [manyR, List.map_cons, List.sum_cons] at h2 ⊢
    omega
  | [], _ :: _, h => by simp [pairs] at h
  | _ :: _, [], h => by simp [pairs] at h
theorem holes_low {t s : Trace} (h : LowTr t s) : holesT t ≤ holesT s := by
  have h1 := many_low h.i
  have h2 := manyR_low h.n
  unfold holesT
  simp only [manyR, List.map_cons, List.sum_cons] at h2 ⊢
  omega
end Go.Vd
namespace Go.Vd
open Go.Proofs
def ex11 : Aig := ⟨1, [], [], [], [2], [], []⟩
abbrev tr1 (x : Int) : Trace := ⟨0, [], [[x]]⟩
theorem fill_ok {a : Aig} (hg : Good a) {t : Trace} (ho : Okt a t) {m : List Bool} (hm : holesT t ≤ m.length) (h : ternaryT a t = 0) : wholeT a (fillT t m) = 0 := by
  rw [whole_tern hg (okt_fill ho m) (fillT_none hm)]
  exact ternary_low ho (okt_fill ho m) (fillT_low t m) h
end Go.Vd
namespace Go.Vd
open Go.Proofs
def sameT (s t : Trace) : Bool := decide (s.ini = t.ini) && (decide (s.bad = t.bad) && pairs (fun x y : List Int => decide (x = y)) s.ins t.ins)
theorem sameT_iff {s t : Trace} : sameT s t = true ↔ s = t := by
  unfold sameT
  rw [pairs_eqR]
  simp only [Bool.and_eq_true, decide_eq_true_eq]
  constructor
  · rintro ⟨h1, h2, h3⟩
    cases s; cases t; simp_all
  · rintro rfl; exact ⟨rfl, rfl, rfl⟩
/-- The first is the second but for more X. -/
def undT (s t : Trace) : Bool := decide (s.bad = t.bad) && (pairs lowT t.ini s.ini && lowR t.ins s.ins)
theorem undT_iff {s t : Trace} : undT s t = true ↔ LowTr t s := by
  unfold undT
  simp only [Bool.and_eq_true, decide_eq_true_eq]
  exact ⟨fun h => ⟨h.1.symm, h.2.1, h.2.2⟩, fun h => ⟨h.b.symm, h.i, h.n⟩⟩
def undL (x y : Int) : Bool := lowT y x
theorem pairs_flip {α β : Type} {p : α → β → Bool} : ∀ {xs : List α} {ys : List β}, pairs (fun y x => p x y) ys xs = pairs p xs ys
  | [], [] => rfl
  | [], _ :: _ => rfl
  | _ :: _, [] => rfl
  | x :: xs, y :: ys => by simp only [pairs, pairs_flip (xs := xs)]
theorem undL_row {x y : List Int} : pairs undL x y = pairs lowT y x := pairs_flip
theorem undL_rows {x y : List (List Int)} : pairs (fun a b => pairs undL a b) x y = lowR y x := by
  have : (fun a b : List Int => pairs undL a b) = fun a b => pairs lowT b a := by funext a b; exact undL_row
  rw [this]; exact pairs_flip
def oddRow (r : List Int) : Bool := !isTri r
def trisT (t : Trace) : Bool := isTri t.ini && !t.ins.any oddRow
def manyP (a : Aig) (t : Trace) : Int := a.i * t.ins.length + (cntL a.l a.l.length : Nat)
theorem cntL_le (ls : List Latch) (j : Nat) : cntL ls j ≤ ls.length := by
  unfold cntL
  exact Nat.le_trans (List.length_filter_le _ _) (by rw [List.length_take]; omega)
theorem mulb {x y : Int} (h0 : 0 ≤ x) (h1 : x ≤ 1000000) (h2 : 0 ≤ y) (h3 : y ≤ 1000000) : 0 ≤ x * y ∧ x * y ≤ 1000000000000 :=
  ⟨Int.mul_nonneg h0 h2, Int.le_trans (Int.mul_le_mul h1 h3 h2 (by decide)) (by decide)⟩
theorem pc_112 (l : List Int) (n v : Int) (hl : l.length ≤ 1000000) (h0 : 0 ≤ n) (h1 : n < l.length) : PCall Try.prog 112 [slU l, .int .i64 n, .int .u8 v] (slU (l.set n.toNat v)) := by
  refine pc_of tab_ok (f := 112) (fn := Try.f112) (N := 16) (rs := [.tmp 6]) (by kernel_rfl) rfl (by kernel_rfl) rfl rfl [(0, .v (slU l)), (1, .v (.int .i64 n)), (2, .v (.int .u8 v))] ⟨rfl, rfl, rfl, trivial⟩ rfl rfl ?_
  intro B
  refine wp_seq ?_
  refine wp_reg (by kernel_rfl) ?_
  refine ar_assign rfl rfl rfl rfl ?_
  refine ar_nil ?_
  refine then_n ?_
  refine wp_seq ?_
  refine wp_reg (by kernel_rfl) ?_
  refine ar_bs_own (es := ([] : List Int).map encU) 8 [] tab_ok rfl tb70 rfl tb72 rfl rfl ⟨rfl, trivial⟩ rfl rfl rfl rfl rfl rfl rfl rfl rfl ?_
  refine ar_move rfl rfl rfl rfl ?_
  refine ar_app 10 [] tab_ok rfl tb70 rfl tb70 rfl tb72 rfl rfl rfl rfl ⟨rfl, rfl, trivial⟩ rfl (el_72 _) app_map (by constructor <;> simp <;> omega) rfl rfl rfl ?_
  refine ar_assign rfl rfl rfl rfl ?_
  refine ar_nil ?_
  refine then_n ?_
  refine wp_seq ?_
  refine wp_reg (by kernel_rfl) ?_
  refine ar_move rfl rfl rfl rfl ?_
  refine ar_move rfl rfl rfl rfl ?_
  refine ar_move rfl rfl rfl rfl ?_
  refine ar_ia_own tab_ok rfl rfl rfl rfl tb70 rfl tb72 rfl (by omega) (by simp; omega) rfl rfl rfl rfl ?_
  refine ar_st_e tab_ok rfl tb72 rfl rfl rfl rfl rfl (by simp; omega) set_map rfl rfl rfl ?_
  refine ar_nil ?_
  refine then_n ?_
  refine wp_seq ?_
  refine wp_reg (by kernel_rfl) ?_
  refine ar_move rfl rfl rfl rfl ?_
  refine ar_assign rfl rfl rfl rfl ?_
  refine ar_nil ?_
  refine then_n ?_
  refine wp_ret ?_
  refine ret_post rfl rfl ?_
  rfl
theorem pc_117 (x y : Int) : PCall Try.prog 117 [.int .u8 x, .int .u8 y] (.bool (undL x y)) := by
  refine pc_of tab_ok (f := 117) (fn := Try.f117) (N := 12) (rs := [.tmp 4]) (by kernel_rfl) rfl (by kernel_rfl) rfl rfl [(0, .v (.int .u8 x)), (1, .v (.int .u8 y))] ⟨rfl, rfl, trivial⟩ rfl rfl ?_
  intro B
  refine wp_seq ?_
  refine wp_reg (by kernel_rfl) ?_
  refine ar_assign rfl rfl rfl rfl ?_
  refine ar_nil ?_
  refine then_n ?_
  refine wp_seq ?_
  refine wp_reg (by kernel_rfl) ?_
  refine ar_move rfl rfl rfl rfl ?_
  refine ar_move rfl rfl rfl rfl ?_
  refine ar_eql_s rfl rfl rfl rfl rfl (fun h7 => ?_) (fun h7 => ?_)
  · refine ar_move rfl rfl rfl rfl ?_
    refine ar_skip rfl rfl ?_
    refine ar_skip rfl rfl ?_
    refine ar_pickT rfl rfl rfl rfl rfl ?_
    refine ar_assign rfl rfl rfl rfl ?_
    refine ar_nil ?_
    refine then_n ?_
    refine wp_ret ?_
    refine ret_post rfl rfl ?_
    simp [undL, lowT, *, eq_comm (a := y) (b := x)]
  · refine ar_move rfl rfl rfl rfl ?_
    refine ar_move rfl rfl rfl rfl ?_
    refine ar_eql rfl rfl rfl rfl rfl rfl ?_
    refine ar_pickF rfl rfl rfl rfl rfl ?_
    refine ar_assign rfl rfl rfl rfl ?_
    refine ar_nil ?_
    refine then_n ?_
    refine wp_ret ?_
    refine ret_post rfl rfl ?_
    simp [undL, lowT, *, eq_comm (a := y) (b := x)]
theorem pc_116 (xs ys : List Int) (hl : xs.length ≤ 9223372036854775807) (hl2 : ys.length ≤ 9223372036854775807) : PCall Try.prog 116 [slU xs, slU ys] (.bool (pairs undL xs ys)) := by
  refine pc_of tab_ok (f := 116) (fn := Try.f116) (N := 8) (rs := [.tmp 4]) (by kernel_rfl) rfl (by kernel_rfl) rfl rfl [(0, .v (slU xs)), (1, .v (slU ys))] ⟨rfl, rfl, trivial⟩ rfl rfl ?_
  intro B
  refine wp_seq ?_
  refine wp_reg (by kernel_rfl) ?_
  refine ar_assign rfl rfl rfl rfl ?_
  refine ar_nil ?_
  refine then_n ?_
  refine wp_seq ?_
  refine wp_reg (by kernel_rfl) ?_
  refine ar_move rfl rfl rfl rfl ?_
  refine ar_move rfl rfl rfl rfl ?_
  refine ar_call [] (pc_103 xs ys 117 [] [] undL hl hl2 (fun x y _ _ => pc_117 x y)) rfl rfl rfl rfl rfl rfl trivial (.inl rfl) rfl rfl rfl ?_
  refine ar_assign rfl rfl rfl rfl ?_
  refine ar_nil ?_
  refine then_n ?_
  refine wp_ret ?_
  refine ret_post rfl rfl ?_
  rfl
theorem pc_118 (xs : List (List Int)) (ys : List (List Int)) (f : FuncId) (fi ca : List V) (p : (List Int) → (List Int) → Bool) (hl : xs.length ≤ 9223372036854775807) (hl2 : ys.length ≤ 9223372036854775807) (hc : ∀ x y, x ∈ xs → y ∈ ys → PCall Try.prog f (fi ++ [slU x, slU y] ++ ca) (.bool (p x y))) : PCall Try.prog 118 [slUU xs, slUU ys, .fn (.func f) fi ca] (.bool (pairs p xs ys)) := by
  refine pc_of tab_ok (f := 118) (fn := Try.f118) (N := 32) (rs := [.tmp 6]) (by kernel_rfl) rfl (by kernel_rfl) rfl rfl [(0, .v (slUU xs)), (1, .v (slUU ys)), (2, .v (.fn (.func f) fi ca))] ⟨rfl, rfl, rfl, trivial⟩ rfl rfl ?_
  intro B
  refine wp_seq ?_
  refine wp_reg (by kernel_rfl) ?_
  refine ar_assign rfl rfl rfl rfl ?_
  refine ar_nil ?_
  refine then_n ?_
  refine wp_seq ?_
  refine wp_seq ?_
  refine wp_reg (by kernel_rfl) ?_
  refine ar_move rfl rfl rfl rfl ?_
  refine ar_len tab_ok rfl rfl tb99 rfl len_map rfl rfl ?_
  refine ar_move rfl rfl rfl rfl ?_
  refine ar_len tab_ok rfl rfl tb99 rfl len_map rfl rfl ?_
  refine ar_neq_s rfl rfl rfl rfl rfl (fun h14 => ?_) (fun h14 => ?_)
  · refine ar_nil ?_
    refine then_n ?_
    refine wp_condT rfl ?_
    refine wp_seq ?_
    refine wp_reg (by kernel_rfl) ?_
    refine ar_assign rfl rfl rfl rfl ?_
    refine ar_nil ?_
    refine then_n ?_
    refine wp_ret ?_
    refine then_r (ret_post rfl rfl ?_)
    rw [pairs_len (by omega)]
  · refine ar_nil ?_
    refine then_n ?_
    refine wp_condF rfl ?_
    refine wp_skip ?_
    refine then_n ?_
    refine wp_seq ?_
    refine wp_seq ?_
    refine wp_reg (by kernel_rfl) ?_
    refine ar_move rfl rfl rfl rfl ?_
    refine ar_len tab_ok rfl rfl tb99 rfl len_map rfl rfl ?_
    refine ar_move rfl rfl rfl rfl ?_
    refine ar_nil ?_
    refine then_n ?_
    refine wp_block ?_
    refine wp_loop (α := Nat) (fun j => mk [(1, .v (slUU ys)), (2, .v (.fn (.func f) fi ca)), (15, .v (slUU xs)), (16, .v (.int .i64 (xs.length : Nat))), (17, .v (.int .i64 (j : Nat)))] [] 0) (fun j => j ≤ xs.length ∧ ∀ q, q < j → p (xs.getD q default) (ys.getD q default) = true) (fun j => xs.length - j) 0 ⟨Nat.zero_le _, fun q h => absurd h (Nat.not_lt_zero q)⟩ (le_to ⟨rfl, rfl, rfl, rfl, rfl, trivial⟩ trivial rfl rfl rfl rfl) ?_
    rintro j ⟨hj1, hj2⟩
    refine wp_seq ?_
    refine wp_reg (by kernel_rfl) ?_
    refine ar_lss_s rfl rfl rfl rfl rfl (fun h18 => ?_) (fun h18 => ?_)
    · refine ar_nil ?_
      refine then_n ?_
      refine wp_seq ?_
      refine wp_condT rfl ?_
      refine wp_skip ?_
      refine then_n ?_
      refine wp_seq ?_
      refine wp_block ?_
      refine wp_seq ?_
      refine wp_reg (by kernel_rfl) ?_
      refine ar_move rfl rfl rfl rfl ?_
      refine ar_ia tab_ok rfl rfl rfl tb99 rfl tb70 (by omega) (map_get (n := j) (by omega)) rfl rfl rfl ?_
      refine ar_ld_ref tab_ok rfl rfl tb70 rfl rfl rfl rfl ?_
      refine ar_assign rfl rfl rfl rfl ?_
      refine ar_assign rfl rfl rfl rfl ?_
      refine ar_nil ?_
      refine then_n ?_
      refine wp_seq ?_
      refine wp_reg (by kernel_rfl) ?_
      refine ar_move rfl rfl rfl rfl ?_
      refine ar_move rfl rfl rfl rfl ?_
      refine ar_ia tab_ok rfl rfl rfl tb99 rfl tb70 (by omega) (map_get (n := j) (by omega)) rfl rfl rfl ?_
      refine ar_ld_ref tab_ok rfl rfl tb70 rfl rfl rfl rfl ?_
      refine ar_assign rfl rfl rfl rfl ?_
      refine ar_nil ?_
      refine then_n ?_
      refine wp_seq ?_
      refine wp_reg (by kernel_rfl) ?_
      refine ar_move rfl rfl rfl rfl ?_
      refine ar_move rfl rfl rfl rfl ?_
      refine ar_move rfl rfl rfl rfl ?_
      refine ar_call [] (hc _ _ (getD_mem (by omega)) (getD_mem (by omega))) rfl rfl rfl rfl rfl rfl trivial (.inl rfl) rfl rfl rfl ?_
      refine ar_split (fun h29 => ?_) (fun h29 => ?_)
      · refine ar_not rfl rfl rfl rfl rfl ?_
        refine ar_nil ?_
        refine then_n ?_
        refine wp_condF rfl ?_
        refine wp_skip ?_
        refine inblk_n ?_
        refine then_n ?_
        refine wp_reg (by kernel_rfl) ?_
        refine ar_addi rfl rfl rfl rfl (by omega) (by omega) rfl rfl ?_
        refine ar_move rfl rfl rfl rfl ?_
        refine ar_nil ?_
        exact loop_n (j + 1) ⟨by omega, fun q hq => (Nat.lt_succ_iff_lt_or_eq.1 hq).elim (hj2 q) (fun e => e ▸ h29)⟩ (by omega) (le_to ⟨rfl, rfl, rfl, rfl, rfl, trivial⟩ trivial rfl rfl rfl rfl)
      · refine ar_not rfl rfl rfl rfl rfl ?_
        refine ar_nil ?_
        refine then_n ?_
        refine wp_condT rfl ?_
        refine wp_seq ?_
        refine wp_reg (by kernel_rfl) ?_
        refine ar_assign rfl rfl rfl rfl ?_
        refine ar_nil ?_
        refine then_n ?_
        refine wp_ret ?_
        refine inblk_r (then_r (loop_r (inblk_r (then_r (ret_post rfl rfl ?_)))))
        rw [pairs_at (j := j) (by omega) (by assumption)]
    · refine ar_nil ?_
      refine then_n ?_
      refine wp_seq ?_
      refine wp_condF rfl ?_
      refine wp_exit ?_
      refine then_x (loop_x (inblk_e ?_))
      refine then_n ?_
      refine wp_seq ?_
      refine wp_reg (by kernel_rfl) ?_
      refine ar_assign rfl rfl rfl rfl ?_
      refine ar_nil ?_
      refine then_n ?_
      refine wp_ret ?_
      refine ret_post rfl rfl ?_
      rw [pairs_of (by omega) (fun q hq => hj2 q (by omega))]
theorem pc_75 (s t : Trace) (hs : SzT s) (hz : SzT t) : PCall Try.prog 75 [trV s, trV t] (.bool (undT s t)) := by
  refine pc_of tab_ok (f := 75) (fn := Try.f75) (N := 27) (rs := [.tmp 4]) (by kernel_rfl) rfl (by kernel_rfl) rfl rfl [(0, .v (trV s)), (1, .v (trV t))] ⟨rfl, rfl, trivial⟩ rfl rfl ?_
  intro B
  have z1 := hs.il
  have z2 := hs.nl
  have z3 := hz.il
  have z4 := hz.nl
  have z5 := hs.rl
  have z6 := hz.rl
  refine wp_seq ?_
  refine wp_reg (by kernel_rfl) ?_
  refine ar_box 2 [] rfl rfl rfl ⟨rfl, trivial⟩ rfl rfl rfl ?_
  refine ar_box 3 [] rfl rfl rfl ⟨rfl, trivial⟩ rfl rfl rfl ?_
  refine ar_assign rfl rfl rfl rfl ?_
  refine ar_nil ?_
  refine then_n ?_
  refine wp_seq ?_
  refine wp_reg (by kernel_rfl) ?_
  refine ar_assign rfl rfl rfl rfl ?_
  refine ar_nil ?_
  refine then_n ?_
  refine wp_seq ?_
  refine wp_reg (by kernel_rfl) ?_
  refine ar_fa tab_ok rfl rfl rfl tb101 rfl rfl rfl rfl rfl ?_
  refine ar_ld tab_ok rfl rfl rfl tb3 rfl rfl rfl rfl rfl ?_
  refine ar_fa tab_ok rfl rfl rfl tb101 rfl rfl rfl rfl rfl ?_
  refine ar_ld tab_ok rfl rfl rfl tb3 rfl rfl rfl rfl rfl ?_
  refine ar_eql_s rfl rfl rfl rfl rfl (fun h10 => ?_) (fun h10 => ?_)
  · refine ar_move rfl rfl rfl rfl ?_
    refine ar_move rfl rfl rfl rfl ?_
    refine ar_fa tab_ok rfl rfl rfl tb101 rfl rfl rfl rfl rfl ?_
    refine ar_ld tab_ok rfl rfl rfl tb70 rfl rfl rfl rfl rfl ?_
    refine ar_fa tab_ok rfl rfl rfl tb101 rfl rfl rfl rfl rfl ?_
    refine ar_ld tab_ok rfl rfl rfl tb70 rfl rfl rfl rfl rfl ?_
    refine ar_call [] (pc_116 s.ini t.ini (by omega) (by omega)) rfl rfl rfl rfl rfl rfl trivial (.inl rfl) rfl rfl rfl ?_
    refine ar_split (fun h17 => ?_) (fun h17 => ?_)
    · refine ar_pickT rfl rfl rfl rfl rfl ?_
      refine ar_move rfl rfl rfl rfl ?_
      refine ar_fa tab_ok rfl rfl rfl tb101 rfl rfl rfl rfl rfl ?_
      refine ar_ld tab_ok rfl rfl rfl tb99 rfl rfl rfl rfl rfl ?_
      refine ar_fa tab_ok rfl rfl rfl tb101 rfl rfl rfl rfl rfl ?_
      refine ar_ld tab_ok rfl rfl rfl tb99 rfl rfl rfl rfl rfl ?_
      refine ar_move rfl rfl rfl rfl ?_
      refine ar_call [] (pc_118 s.ins t.ins 116 [] [] (fun a b => pairs undL a b) (by omega) (by omega) (fun x y hx hy => pc_116 x y (by have := z5 x hx; omega) (by have := z6 y hy; omega))) rfl rfl rfl rfl rfl rfl trivial (.inl rfl) rfl rfl rfl ?_
      refine ar_pickT rfl rfl rfl rfl rfl ?_
      refine ar_assign rfl rfl rfl rfl ?_
      refine ar_nil ?_
      refine then_n ?_
      refine wp_ret ?_
      refine ret_post rfl rfl ?_
      have e1 := undL_row (x := s.ini) (y := t.ini)
      have e2 := undL_rows (x := s.ins) (y := t.ins)
      unfold undT
      simp_all
    · refine ar_pickT rfl rfl rfl rfl rfl ?_
      refine ar_move rfl rfl rfl rfl ?_
      refine ar_skip rfl rfl ?_
      refine ar_skip rfl rfl ?_
      refine ar_skip rfl rfl ?_
      refine ar_skip rfl rfl ?_
      refine ar_skip rfl rfl ?_
      refine ar_skip rfl rfl ?_
      refine ar_pickF rfl rfl rfl rfl rfl ?_
      refine ar_assign rfl rfl rfl rfl ?_
      refine ar_nil ?_
      refine then_n ?_
      refine wp_ret ?_
      refine ret_post rfl rfl ?_
      have e1 := undL_row (x := s.ini) (y := t.ini)
      have e2 := undL_rows (x := s.ins) (y := t.ins)
      unfold undT
      simp_all
  · refine ar_move rfl rfl rfl rfl ?_
    refine ar_skip rfl rfl ?_
    refine ar_skip rfl rfl ?_
    refine ar_skip rfl rfl ?_
    refine ar_skip rfl rfl ?_
    refine ar_skip rfl rfl ?_
    refine ar_skip rfl rfl ?_
    refine ar_pickF rfl rfl rfl rfl rfl ?_
    refine ar_move rfl rfl rfl rfl ?_
    refine ar_skip rfl rfl ?_
    refine ar_skip rfl rfl ?_
    refine ar_skip rfl rfl ?_
    refine ar_skip rfl rfl ?_
    refine ar_skip rfl rfl ?_
    refine ar_skip rfl rfl ?_
    refine ar_pickF rfl rfl rfl rfl rfl ?_
    refine ar_assign rfl rfl rfl rfl ?_
    refine ar_nil ?_
    refine then_n ?_
    refine wp_ret ?_
    refine ret_post rfl rfl ?_
    have e1 := undL_row (x := s.ini) (y := t.ini)
    have e2 := undL_rows (x := s.ins) (y := t.ins)
    unfold undT
    simp_all
theorem pc_69 (s t : Trace) (hs : SzT s) (hz : SzT t) : PCall Try.prog 69 [trV s, trV t] (.bool (sameT s t)) := by
  refine pc_of tab_ok (f := 69) (fn := Try.f69) (N := 51) (rs := [.tmp 4]) (by kernel_rfl) rfl (by kernel_rfl) rfl rfl [(0, .v (trV s)), (1, .v (trV t))] ⟨rfl, rfl, trivial⟩ rfl rfl ?_
  intro B
  have z1 := hs.il
  have z2 := hs.nl
  have z3 := hz.il
  have z4 := hz.nl
  have z5 := hs.rl
  have z6 := hz.rl
  refine wp_seq ?_
  refine wp_reg (by kernel_rfl) ?_
  refine ar_box 2 [] rfl rfl rfl ⟨rfl, trivial⟩ rfl rfl rfl ?_
  refine ar_box 3 [] rfl rfl rfl ⟨rfl, trivial⟩ rfl rfl rfl ?_
  refine ar_assign rfl rfl rfl rfl ?_
  refine ar_nil ?_
  refine then_n ?_
  refine wp_seq ?_
  refine wp_reg (by kernel_rfl) ?_
  refine ar_fa tab_ok rfl rfl rfl tb101 rfl rfl rfl rfl rfl ?_
  refine ar_ld tab_ok rfl rfl rfl tb70 rfl rfl rfl rfl rfl ?_
  refine ar_fa tab_ok rfl rfl rfl tb101 rfl rfl rfl rfl rfl ?_
  refine ar_ld tab_ok rfl rfl rfl tb70 rfl rfl rfl rfl rfl ?_
  refine ar_call [] (pc_60 s.ini t.ini (by omega) (by omega)) rfl rfl rfl rfl rfl rfl trivial (.inl rfl) rfl rfl rfl ?_
  refine ar_split (fun h12 => ?_) (fun h12 => ?_)
  · refine ar_assign rfl rfl rfl rfl ?_
    refine ar_nil ?_
    refine then_n ?_
    refine wp_seq ?_
    refine wp_seq ?_
    refine wp_reg (by kernel_rfl) ?_
    refine ar_move rfl rfl rfl rfl ?_
    refine ar_not rfl rfl rfl rfl rfl ?_
    refine ar_move rfl rfl rfl rfl ?_
    refine ar_fa tab_ok rfl rfl rfl tb101 rfl rfl rfl rfl rfl ?_
    refine ar_ld tab_ok rfl rfl rfl tb3 rfl rfl rfl rfl rfl ?_
    refine ar_fa tab_ok rfl rfl rfl tb101 rfl rfl rfl rfl rfl ?_
    refine ar_ld tab_ok rfl rfl rfl tb3 rfl rfl rfl rfl rfl ?_
    refine ar_neq_s rfl rfl rfl rfl rfl (fun h20 => ?_) (fun h20 => ?_)
    · refine ar_pickF rfl rfl rfl rfl rfl ?_
      refine ar_move rfl rfl rfl rfl ?_
      refine ar_skip rfl rfl ?_
      refine ar_skip rfl rfl ?_
      refine ar_skip rfl rfl ?_
      refine ar_skip rfl rfl ?_
      refine ar_skip rfl rfl ?_
      refine ar_skip rfl rfl ?_
      refine ar_skip rfl rfl ?_
      refine ar_pickT rfl rfl rfl rfl rfl ?_
      refine ar_nil ?_
      refine then_n ?_
      refine wp_condT rfl ?_
      refine wp_seq ?_
      refine wp_reg (by kernel_rfl) ?_
      refine ar_assign rfl rfl rfl rfl ?_
      refine ar_nil ?_
      refine then_n ?_
      refine wp_ret ?_
      refine then_r (ret_post rfl rfl ?_)
      unfold sameT
      first
        | (rw [pairs_of (by omega) (fun q hq => hj2 q (by omega))]; simp_all; done)
        | (rw [pairs_at (j := j) (by omega) (by simpa using h48)]; simp; done)
        | (rw [pairs_len (by omega)]; simp; done)
        | (simp_all; done)
    · refine ar_pickF rfl rfl rfl rfl rfl ?_
      refine ar_move rfl rfl rfl rfl ?_
      refine ar_fa tab_ok rfl rfl rfl tb101 rfl rfl rfl rfl rfl ?_
      refine ar_ld tab_ok rfl rfl rfl tb99 rfl rfl rfl rfl rfl ?_
      refine ar_len tab_ok rfl rfl tb99 rfl len_map rfl rfl ?_
      refine ar_fa tab_ok rfl rfl rfl tb101 rfl rfl rfl rfl rfl ?_
      refine ar_ld tab_ok rfl rfl rfl tb99 rfl rfl rfl rfl rfl ?_
      refine ar_len tab_ok rfl rfl tb99 rfl len_map rfl rfl ?_
      refine ar_neq_s rfl rfl rfl rfl rfl (fun h29 => ?_) (fun h29 => ?_)
      · refine ar_pickF rfl rfl rfl rfl rfl ?_
        refine ar_nil ?_
        refine then_n ?_
        refine wp_condT rfl ?_
        refine wp_seq ?_
        refine wp_reg (by kernel_rfl) ?_
        refine ar_assign rfl rfl rfl rfl ?_
        refine ar_nil ?_
        refine then_n ?_
        refine wp_ret ?_
        refine then_r (ret_post rfl rfl ?_)
        unfold sameT
        first
          | (rw [pairs_of (by omega) (fun q hq => hj2 q (by omega))]; simp_all; done)
          | (rw [pairs_at (j := j) (by omega) (by simpa using h48)]; simp; done)
          | (rw [pairs_len (by omega)]; simp; done)
          | (simp_all; done)
      · refine ar_pickF rfl rfl rfl rfl rfl ?_
        refine ar_nil ?_
        refine then_n ?_
        refine wp_condF rfl ?_
        refine wp_skip ?_
        refine then_n ?_
        refine wp_seq ?_
        refine wp_seq ?_
        refine wp_reg (by kernel_rfl) ?_
        refine ar_assign rfl rfl rfl rfl ?_
        refine ar_nil ?_
        refine then_n ?_
        refine wp_block ?_
        refine wp_loop (α := Nat) (fun j => mk [(2, .ptr 2 0), (3, .ptr 3 0), (6, .v (.int .i64 (j : Nat)))] [(2, .box ((encT s).map .v)), (3, .box ((encT t).map .v))] 0) (fun j => j ≤ s.ins.length ∧ ∀ q, q < j → decide (s.ins.getD q default = t.ins.getD q default) = true) (fun j => s.ins.length - j) 0 ⟨Nat.zero_le _, fun q h => absurd h (Nat.not_lt_zero q)⟩ (le_to ⟨rfl, rfl, rfl, trivial⟩ ⟨rfl, rfl, trivial⟩ rfl rfl rfl rfl) ?_
        rintro j ⟨hj1, hj2⟩
        refine wp_seq ?_
        refine wp_seq ?_
        refine wp_reg (by kernel_rfl) ?_
        refine ar_move rfl rfl rfl rfl ?_
        refine ar_fa tab_ok rfl rfl rfl tb101 rfl rfl rfl rfl rfl ?_
        refine ar_ld tab_ok rfl rfl rfl tb99 rfl rfl rfl rfl rfl ?_
        refine ar_len tab_ok rfl rfl tb99 rfl len_map rfl rfl ?_
        refine ar_lss_s rfl rfl rfl rfl rfl (fun h35 => ?_) (fun h35 => ?_)
        · refine ar_nil ?_
          refine then_n ?_
          refine wp_condT rfl ?_
          refine wp_skip ?_
          refine then_n ?_
          refine wp_seq ?_
          refine wp_block ?_
          refine wp_seq ?_
          refine wp_draw (L := [([2], []), ([2], []), ([], []), ([], []), ([], []), ([3], []), ([3], []), ([], []), ([], []), ([], []), ([], []), ([], [])]) (by kernel_rfl) mixed (by kernel_rfl) ?_
          refine ar_fa tab_ok rfl rfl rfl tb101 rfl rfl rfl rfl rfl ?_
          refine ar_ld tab_ok rfl rfl rfl tb99 rfl rfl rfl rfl rfl ?_
          refine ar_move rfl rfl rfl rfl ?_
          refine ar_ia tab_ok rfl rfl rfl tb99 rfl tb70 (by omega) (map_get (n := j) (by omega)) rfl rfl rfl ?_
          refine ar_ld_ref tab_ok rfl rfl tb70 rfl rfl rfl rfl ?_
          refine ar_fa tab_ok rfl rfl rfl tb101 rfl rfl rfl rfl rfl ?_
          refine ar_ld tab_ok rfl rfl rfl tb99 rfl rfl rfl rfl rfl ?_
          refine ar_move rfl rfl rfl rfl ?_
          refine ar_ia tab_ok rfl rfl rfl tb99 rfl tb70 (by omega) (map_get (n := j) (by omega)) rfl rfl rfl ?_
          refine ar_ld_ref tab_ok rfl rfl tb70 rfl rfl rfl rfl ?_
          refine ar_call [] (pc_60 (s.ins.getD j default) (t.ins.getD j default) (by have := z5 _ (getD_mem (xs := s.ins) (n := j) (by omega)); omega) (by have := z6 _ (getD_mem (xs := t.ins) (n := j) (by omega)); omega)) rfl rfl rfl rfl rfl rfl trivial (.inl rfl) rfl rfl rfl ?_
          refine ar_split (fun h48 => ?_) (fun h48 => ?_)
          · refine ar_assign rfl rfl rfl rfl ?_
            refine ar_nil ?_
            refine then_n ?_
            refine wp_seq ?_
            refine wp_reg (by kernel_rfl) ?_
            refine ar_move rfl rfl rfl rfl ?_
            refine ar_not rfl rfl rfl rfl rfl ?_
            refine ar_nil ?_
            refine then_n ?_
            refine wp_condF rfl ?_
            refine wp_skip ?_
            refine inblk_n ?_
            refine then_n ?_
            refine wp_reg (by kernel_rfl) ?_
            refine ar_move rfl rfl rfl rfl ?_
            refine ar_addi rfl rfl rfl rfl (by omega) (by omega) rfl rfl ?_
            refine ar_assign rfl rfl rfl rfl ?_
            refine ar_nil ?_
            exact loop_n (j + 1) ⟨by omega, fun q hq => (Nat.lt_succ_iff_lt_or_eq.1 hq).elim (hj2 q) (fun e => e ▸ h48)⟩ (by omega) (le_to ⟨rfl, rfl, rfl, trivial⟩ ⟨rfl, rfl, trivial⟩ rfl rfl rfl rfl)
          · refine ar_assign rfl rfl rfl rfl ?_
            refine ar_nil ?_
            refine then_n ?_
            refine wp_seq ?_
            refine wp_reg (by kernel_rfl) ?_
            refine ar_move rfl rfl rfl rfl ?_
            refine ar_not rfl rfl rfl rfl rfl ?_
            refine ar_nil ?_
            refine then_n ?_
            refine wp_condT rfl ?_
            refine wp_seq ?_
            refine wp_reg (by kernel_rfl) ?_
            refine ar_assign rfl rfl rfl rfl ?_
            refine ar_nil ?_
            refine then_n ?_
            refine wp_ret ?_
            refine inblk_r (then_r (loop_r (inblk_r (then_r (ret_post rfl rfl ?_)))))
            unfold sameT
            first
              | (rw [pairs_of (by omega) (fun q hq => hj2 q (by omega))]; simp_all; done)
              | (rw [pairs_at (j := j) (by omega) (by simpa using h48)]; simp; done)
              | (rw [pairs_len (by omega)]; simp; done)
              | (simp_all; done)
        · refine ar_nil ?_
          refine then_n ?_
          refine wp_condF rfl ?_
          refine wp_exit ?_
          refine then_x (loop_x (inblk_e ?_))
          refine then_n ?_
          refine wp_seq ?_
          refine wp_reg (by kernel_rfl) ?_
          refine ar_assign rfl rfl rfl rfl ?_
          refine ar_nil ?_
          refine then_n ?_
          refine wp_ret ?_
          refine ret_post rfl rfl ?_
          unfold sameT
          first
            | (rw [pairs_of (by omega) (fun q hq => hj2 q (by omega))]; simp_all; done)
            | (rw [pairs_at (j := j) (by omega) (by simpa using h48)]; simp; done)
            | (rw [pairs_len (by omega)]; simp; done)
            | (simp_all; done)
  · refine ar_assign rfl rfl rfl rfl ?_
    refine ar_nil ?_
    refine then_n ?_
    refine wp_seq ?_
    refine wp_seq ?_
    refine wp_reg (by kernel_rfl) ?_
    refine ar_move rfl rfl rfl rfl ?_
    refine ar_not rfl rfl rfl rfl rfl ?_
    refine ar_move rfl rfl rfl rfl ?_
    refine ar_skip rfl rfl ?_
    refine ar_skip rfl rfl ?_
    refine ar_skip rfl rfl ?_
    refine ar_skip rfl rfl ?_
    refine ar_skip rfl rfl ?_
    refine ar_pickT rfl rfl rfl rfl rfl ?_
    refine ar_move rfl rfl rfl rfl ?_
    refine ar_skip rfl rfl ?_
    refine ar_skip rfl rfl ?_
    refine ar_skip rfl rfl ?_
    refine ar_skip rfl rfl ?_
    refine ar_skip rfl rfl ?_
    refine ar_skip rfl rfl ?_
    refine ar_skip rfl rfl ?_
    refine ar_pickT rfl rfl rfl rfl rfl ?_
    refine ar_nil ?_
    refine then_n ?_
    refine wp_condT rfl ?_
    refine wp_seq ?_
    refine wp_reg (by kernel_rfl) ?_
    refine ar_assign rfl rfl rfl rfl ?_
    refine ar_nil ?_
    refine then_n ?_
    refine wp_ret ?_
    refine then_r (ret_post rfl rfl ?_)
    unfold sameT
    first
      | (rw [pairs_of (by omega) (fun q hq => hj2 q (by omega))]; simp_all; done)
      | (rw [pairs_at (j := j) (by omega) (by simpa using h48)]; simp; done)
      | (rw [pairs_len (by omega)]; simp; done)
      | (simp_all; done)
theorem pc_70 (s t : Trace) (hs : SzT s) (hz : SzT t) : PCall Try.prog 70 [trV s, trV t] (.bool (undT s t)) := by
  refine pc_of tab_ok (f := 70) (fn := Try.f70) (N := 51) (rs := [.tmp 4]) (by kernel_rfl) rfl (by kernel_rfl) rfl rfl [(0, .v (trV s)), (1, .v (trV t))] ⟨rfl, rfl, trivial⟩ rfl rfl ?_
  intro B
  have z1 := hs.il
  have z2 := hs.nl
  have z3 := hz.il
  have z4 := hz.nl
  have z5 := hs.rl
  have z6 := hz.rl
  refine wp_seq ?_
  refine wp_reg (by kernel_rfl) ?_
  refine ar_box 2 [] rfl rfl rfl ⟨rfl, trivial⟩ rfl rfl rfl ?_
  refine ar_box 3 [] rfl rfl rfl ⟨rfl, trivial⟩ rfl rfl rfl ?_
  refine ar_assign rfl rfl rfl rfl ?_
  refine ar_nil ?_
  refine then_n ?_
  refine wp_seq ?_
  refine wp_reg (by kernel_rfl) ?_
  refine ar_fa tab_ok rfl rfl rfl tb101 rfl rfl rfl rfl rfl ?_
  refine ar_ld tab_ok rfl rfl rfl tb70 rfl rfl rfl rfl rfl ?_
  refine ar_fa tab_ok rfl rfl rfl tb101 rfl rfl rfl rfl rfl ?_
  refine ar_ld tab_ok rfl rfl rfl tb70 rfl rfl rfl rfl rfl ?_
  refine ar_call [] (pc_52 t.ini s.ini (by omega) (by omega)) rfl rfl rfl rfl rfl rfl trivial (.inl rfl) rfl rfl rfl ?_
  refine ar_split (fun h12 => ?_) (fun h12 => ?_)
  · refine ar_assign rfl rfl rfl rfl ?_
    refine ar_nil ?_
    refine then_n ?_
    refine wp_seq ?_
    refine wp_seq ?_
    refine wp_reg (by kernel_rfl) ?_
    refine ar_move rfl rfl rfl rfl ?_
    refine ar_not rfl rfl rfl rfl rfl ?_
    refine ar_move rfl rfl rfl rfl ?_
    refine ar_fa tab_ok rfl rfl rfl tb101 rfl rfl rfl rfl rfl ?_
    refine ar_ld tab_ok rfl rfl rfl tb3 rfl rfl rfl rfl rfl ?_
    refine ar_fa tab_ok rfl rfl rfl tb101 rfl rfl rfl rfl rfl ?_
    refine ar_ld tab_ok rfl rfl rfl tb3 rfl rfl rfl rfl rfl ?_
    refine ar_neq_s rfl rfl rfl rfl rfl (fun h20 => ?_) (fun h20 => ?_)
    · refine ar_pickF rfl rfl rfl rfl rfl ?_
      refine ar_move rfl rfl rfl rfl ?_
      refine ar_skip rfl rfl ?_
      refine ar_skip rfl rfl ?_
      refine ar_skip rfl rfl ?_
      refine ar_skip rfl rfl ?_
      refine ar_skip rfl rfl ?_
      refine ar_skip rfl rfl ?_
      refine ar_skip rfl rfl ?_
      refine ar_pickT rfl rfl rfl rfl rfl ?_
      refine ar_nil ?_
      refine then_n ?_
      refine wp_condT rfl ?_
      refine wp_seq ?_
      refine wp_reg (by kernel_rfl) ?_
      refine ar_assign rfl rfl rfl rfl ?_
      refine ar_nil ?_
      refine then_n ?_
      refine wp_ret ?_
      refine then_r (ret_post rfl rfl ?_)
      unfold undT
      first
        | (rw [show lowR t.ins s.ins = true from pairs_of (by omega) (fun q hq => hj2 q (by omega))]; simp_all [belowT]; done)
        | (rw [show lowR t.ins s.ins = false from pairs_at (j := j) (by omega) h48]; simp; done)
        | (rw [show lowR t.ins s.ins = false from pairs_len (by omega)]; simp; done)
        | (simp_all [belowT]; done)
    · refine ar_pickF rfl rfl rfl rfl rfl ?_
      refine ar_move rfl rfl rfl rfl ?_
      refine ar_fa tab_ok rfl rfl rfl tb101 rfl rfl rfl rfl rfl ?_
      refine ar_ld tab_ok rfl rfl rfl tb99 rfl rfl rfl rfl rfl ?_
      refine ar_len tab_ok rfl rfl tb99 rfl len_map rfl rfl ?_
      refine ar_fa tab_ok rfl rfl rfl tb101 rfl rfl rfl rfl rfl ?_
      refine ar_ld tab_ok rfl rfl rfl tb99 rfl rfl rfl rfl rfl ?_
      refine ar_len tab_ok rfl rfl tb99 rfl len_map rfl rfl ?_
      refine ar_neq_s rfl rfl rfl rfl rfl (fun h29 => ?_) (fun h29 => ?_)
      · refine ar_pickF rfl rfl rfl rfl rfl ?_
        refine ar_nil ?_
        refine then_n ?_
        refine wp_condT rfl ?_
        refine wp_seq ?_
        refine wp_reg (by kernel_rfl) ?_
        refine ar_assign rfl rfl rfl rfl ?_
        refine ar_nil ?_
        refine then_n ?_
        refine wp_ret ?_
        refine then_r (ret_post rfl rfl ?_)
        unfold undT
        first
          | (rw [show lowR t.ins s.ins = true from pairs_of (by omega) (fun q hq => hj2 q (by omega))]; simp_all [belowT]; done)
          | (rw [show lowR t.ins s.ins = false from pairs_at (j := j) (by omega) h48]; simp; done)
          | (rw [show lowR t.ins s.ins = false from pairs_len (by omega)]; simp; done)
          | (simp_all [belowT]; done)
      · refine ar_pickF rfl rfl rfl rfl rfl ?_
        refine ar_nil ?_
        refine then_n ?_
        refine wp_condF rfl ?_
        refine wp_skip ?_
        refine then_n ?_
        refine wp_seq ?_
        refine wp_seq ?_
        refine wp_reg (by kernel_rfl) ?_
        refine ar_assign rfl rfl rfl rfl ?_
        refine ar_nil ?_
        refine then_n ?_
        refine wp_block ?_
        refine wp_loop (α := Nat) (fun j => mk [(2, .ptr 2 0), (3, .ptr 3 0), (6, .v (.int .i64 (j : Nat)))] [(2, .box ((encT s).map .v)), (3, .box ((encT t).map .v))] 0) (fun j => j ≤ s.ins.length ∧ ∀ q, q < j → belowT (t.ins.getD q default) (s.ins.getD q default) = true) (fun j => s.ins.length - j) 0 ⟨Nat.zero_le _, fun q h => absurd h (Nat.not_lt_zero q)⟩ (le_to ⟨rfl, rfl, rfl, trivial⟩ ⟨rfl, rfl, trivial⟩ rfl rfl rfl rfl) ?_
        rintro j ⟨hj1, hj2⟩
        refine wp_seq ?_
        refine wp_seq ?_
        refine wp_reg (by kernel_rfl) ?_
        refine ar_move rfl rfl rfl rfl ?_
        refine ar_fa tab_ok rfl rfl rfl tb101 rfl rfl rfl rfl rfl ?_
        refine ar_ld tab_ok rfl rfl rfl tb99 rfl rfl rfl rfl rfl ?_
        refine ar_len tab_ok rfl rfl tb99 rfl len_map rfl rfl ?_
        refine ar_lss_s rfl rfl rfl rfl rfl (fun h35 => ?_) (fun h35 => ?_)
        · refine ar_nil ?_
          refine then_n ?_
          refine wp_condT rfl ?_
          refine wp_skip ?_
          refine then_n ?_
          refine wp_seq ?_
          refine wp_block ?_
          refine wp_seq ?_
          refine wp_draw (L := [([3], []), ([3], []), ([], []), ([], []), ([], []), ([2], []), ([2], []), ([], []), ([], []), ([], []), ([], []), ([], [])]) (by kernel_rfl) mixed (by kernel_rfl) ?_
          refine ar_fa tab_ok rfl rfl rfl tb101 rfl rfl rfl rfl rfl ?_
          refine ar_ld tab_ok rfl rfl rfl tb99 rfl rfl rfl rfl rfl ?_
          refine ar_move rfl rfl rfl rfl ?_
          refine ar_ia tab_ok rfl rfl rfl tb99 rfl tb70 (by omega) (map_get (n := j) (by omega)) rfl rfl rfl ?_
          refine ar_ld_ref tab_ok rfl rfl tb70 rfl rfl rfl rfl ?_
          refine ar_fa tab_ok rfl rfl rfl tb101 rfl rfl rfl rfl rfl ?_
          refine ar_ld tab_ok rfl rfl rfl tb99 rfl rfl rfl rfl rfl ?_
          refine ar_move rfl rfl rfl rfl ?_
          refine ar_ia tab_ok rfl rfl rfl tb99 rfl tb70 (by omega) (map_get (n := j) (by omega)) rfl rfl rfl ?_
          refine ar_ld_ref tab_ok rfl rfl tb70 rfl rfl rfl rfl ?_
          refine ar_call [] (pc_52 (t.ins.getD j default) (s.ins.getD j default) (by have := z6 _ (getD_mem (xs := t.ins) (n := j) (by omega)); omega) (by have := z5 _ (getD_mem (xs := s.ins) (n := j) (by omega)); omega)) rfl rfl rfl rfl rfl rfl trivial (.inl rfl) rfl rfl rfl ?_
          refine ar_split (fun h48 => ?_) (fun h48 => ?_)
          · refine ar_assign rfl rfl rfl rfl ?_
            refine ar_nil ?_
            refine then_n ?_
            refine wp_seq ?_
            refine wp_reg (by kernel_rfl) ?_
            refine ar_move rfl rfl rfl rfl ?_
            refine ar_not rfl rfl rfl rfl rfl ?_
            refine ar_nil ?_
            refine then_n ?_
            refine wp_condF rfl ?_
            refine wp_skip ?_
            refine inblk_n ?_
            refine then_n ?_
            refine wp_reg (by kernel_rfl) ?_
            refine ar_move rfl rfl rfl rfl ?_
            refine ar_addi rfl rfl rfl rfl (by omega) (by omega) rfl rfl ?_
            refine ar_assign rfl rfl rfl rfl ?_
            refine ar_nil ?_
            exact loop_n (j + 1) ⟨by omega, fun q hq => (Nat.lt_succ_iff_lt_or_eq.1 hq).elim (hj2 q) (fun e => e ▸ h48)⟩ (by omega) (le_to ⟨rfl, rfl, rfl, trivial⟩ ⟨rfl, rfl, trivial⟩ rfl rfl rfl rfl)
          · refine ar_assign rfl rfl rfl rfl ?_
            refine ar_nil ?_
            refine then_n ?_
            refine wp_seq ?_
            refine wp_reg (by kernel_rfl) ?_
            refine ar_move rfl rfl rfl rfl ?_
            refine ar_not rfl rfl rfl rfl rfl ?_
            refine ar_nil ?_
            refine then_n ?_
            refine wp_condT rfl ?_
            refine wp_seq ?_
            refine wp_reg (by kernel_rfl) ?_
            refine ar_assign rfl rfl rfl rfl ?_
            refine ar_nil ?_
            refine then_n ?_
            refine wp_ret ?_
            refine inblk_r (then_r (loop_r (inblk_r (then_r (ret_post rfl rfl ?_)))))
            unfold undT
            first
              | (rw [show lowR t.ins s.ins = true from pairs_of (by omega) (fun q hq => hj2 q (by omega))]; simp_all [belowT]; done)
              | (rw [show lowR t.ins s.ins = false from pairs_at (j := j) (by omega) h48]; simp; done)
              | (rw [show lowR t.ins s.ins = false from pairs_len (by omega)]; simp; done)
              | (simp_all [belowT]; done)
        · refine ar_nil ?_
          refine then_n ?_
          refine wp_condF rfl ?_
          refine wp_exit ?_
          refine then_x (loop_x (inblk_e ?_))
          refine then_n ?_
          refine wp_seq ?_
          refine wp_reg (by kernel_rfl) ?_
          refine ar_assign rfl rfl rfl rfl ?_
          refine ar_nil ?_
          refine then_n ?_
          refine wp_ret ?_
          refine ret_post rfl rfl ?_
          unfold undT
          first
            | (rw [show lowR t.ins s.ins = true from pairs_of (by omega) (fun q hq => hj2 q (by omega))]; simp_all [belowT]; done)
            | (rw [show lowR t.ins s.ins = false from pairs_at (j := j) (by omega) h48]; simp; done)
            | (rw [show lowR t.ins s.ins = false from pairs_len (by omega)]; simp; done)
            | (simp_all [belowT]; done)
  · refine ar_assign rfl rfl rfl rfl ?_
    refine ar_nil ?_
    refine then_n ?_
    refine wp_seq ?_
    refine wp_seq ?_
    refine wp_reg (by kernel_rfl) ?_
    refine ar_move rfl rfl rfl rfl ?_
    refine ar_not rfl rfl rfl rfl rfl ?_
    refine ar_move rfl rfl rfl rfl ?_
    refine ar_skip rfl rfl ?_
    refine ar_skip rfl rfl ?_
    refine ar_skip rfl rfl ?_
    refine ar_skip rfl rfl ?_
    refine ar_skip rfl rfl ?_
    refine ar_pickT rfl rfl rfl rfl rfl ?_
    refine ar_move rfl rfl rfl rfl ?_
    refine ar_skip rfl rfl ?_
    refine ar_skip rfl rfl ?_
    refine ar_skip rfl rfl ?_
    refine ar_skip rfl rfl ?_
    refine ar_skip rfl rfl ?_
    refine ar_skip rfl rfl ?_
    refine ar_skip rfl rfl ?_
    refine ar_pickT rfl rfl rfl rfl rfl ?_
    refine ar_nil ?_
    refine then_n ?_
    refine wp_condT rfl ?_
    refine wp_seq ?_
    refine wp_reg (by kernel_rfl) ?_
    refine ar_assign rfl rfl rfl rfl ?_
    refine ar_nil ?_
    refine then_n ?_
    refine wp_ret ?_
    refine then_r (ret_post rfl rfl ?_)
    unfold undT
    first
      | (rw [show lowR t.ins s.ins = true from pairs_of (by omega) (fun q hq => hj2 q (by omega))]; simp_all [belowT]; done)
      | (rw [show lowR t.ins s.ins = false from pairs_at (j := j) (by omega) h48]; simp; done)
      | (rw [show lowR t.ins s.ins = false from pairs_len (by omega)]; simp; done)
      | (simp_all [belowT]; done)
theorem pc_71 (a : Aig) (t : Trace) (hf : Fit a) (hbd : Bd a) (hz : SzT t) : PCall Try.prog 71 [aigV a, trV t] (.int .i64 (manyP a t)) := by
  refine pc_of tab_ok (f := 71) (fn := Try.f71) (N := 30) (rs := [.tmp 4]) (by kernel_rfl) rfl (by kernel_rfl) rfl rfl [(0, .v (aigV a)), (1, .v (trV t))] ⟨rfl, rfl, trivial⟩ rfl rfl ?_
  intro B
  have hm := mulb (x := a.i) (y := (t.ins.length : Nat)) hbd.i0 (by have := hbd.i1; omega) (by omega) (by have := hz.nl; omega)
  have hb3 := hbd.l1
  refine wp_seq ?_
  refine wp_reg (by kernel_rfl) ?_
  refine ar_box 2 [] rfl rfl rfl ⟨rfl, trivial⟩ rfl rfl rfl ?_
  refine ar_box 3 [] rfl rfl rfl ⟨rfl, trivial⟩ rfl rfl rfl ?_
  refine ar_assign rfl rfl rfl rfl ?_
  refine ar_nil ?_
  refine then_n ?_
  refine wp_seq ?_
  refine wp_reg (by kernel_rfl) ?_
  refine ar_fa tab_ok rfl rfl rfl tb27 rfl rfl rfl rfl rfl ?_
  refine ar_ld tab_ok rfl rfl rfl tb3 rfl rfl rfl rfl rfl ?_
  refine ar_fa tab_ok rfl rfl rfl tb101 rfl rfl rfl rfl rfl ?_
  refine ar_ld tab_ok rfl rfl rfl tb99 rfl rfl rfl rfl rfl ?_
  refine ar_len tab_ok rfl rfl tb99 rfl len_map rfl rfl ?_
  refine ar_muli rfl rfl rfl rfl (by omega) (by omega) rfl rfl ?_
  refine ar_assign rfl rfl rfl rfl ?_
  refine ar_nil ?_
  refine then_n ?_
  refine wp_seq ?_
  refine wp_seq ?_
  refine wp_reg (by kernel_rfl) ?_
  refine ar_assign rfl rfl rfl rfl ?_
  refine ar_nil ?_
  refine then_n ?_
  refine wp_block ?_
  refine wp_loop (α := Nat) (fun j => mk [(2, .ptr 2 0), (5, .v (.int .i64 (a.i * (t.ins.length : Nat) + (cntL a.l j : Nat)))), (6, .v (.int .i64 (j : Nat)))] [(2, .box ((encA a).map .v))] 0) (fun j => j ≤ a.l.length) (fun j => a.l.length - j) 0 (Nat.zero_le _) (le_to ⟨rfl, (int_eq rfl (by simp [cntL])), rfl, trivial⟩ ⟨rfl, trivial⟩ rfl rfl rfl rfl) ?_
  rintro j hinv
  have hcl := cntL_le a.l j
  refine wp_seq ?_
  refine wp_seq ?_
  refine wp_reg (by kernel_rfl) ?_
  refine ar_move rfl rfl rfl rfl ?_
  refine ar_fa tab_ok rfl rfl rfl tb27 rfl rfl rfl rfl rfl ?_
  refine ar_ld tab_ok rfl rfl rfl tb22 rfl rfl rfl rfl rfl ?_
  refine ar_len tab_ok rfl rfl tb22 rfl len_map rfl rfl ?_
  refine ar_lss_s rfl rfl rfl rfl rfl (fun h17 => ?_) (fun h17 => ?_)
  · refine ar_nil ?_
    refine then_n ?_
    refine wp_condT rfl ?_
    refine wp_skip ?_
    refine then_n ?_
    refine wp_seq ?_
    refine wp_block ?_
    refine wp_seq ?_
    refine wp_reg (by kernel_rfl) ?_
    refine ar_fa tab_ok rfl rfl rfl tb27 rfl rfl rfl rfl rfl ?_
    refine ar_ld tab_ok rfl rfl rfl tb22 rfl rfl rfl rfl rfl ?_
    refine ar_move rfl rfl rfl rfl ?_
    refine ar_ia tab_ok rfl rfl rfl tb22 rfl tb63 (by omega) (map_get (n := j) (by omega)) rfl rfl rfl ?_
    refine ar_fa_ref tab_ok rfl rfl tb63 rfl rfl rfl rfl ?_
    refine ar_ld_ref tab_ok rfl rfl tb3 rfl rfl rfl rfl ?_
    refine ar_gtr_s rfl rfl rfl rfl rfl (fun h26 => ?_) (fun h26 => ?_)
    · refine ar_nil ?_
      refine then_n ?_
      refine wp_condT rfl ?_
      refine wp_reg (by kernel_rfl) ?_
      refine ar_move rfl rfl rfl rfl ?_
      refine ar_addi rfl rfl rfl rfl (by omega) (by omega) rfl rfl ?_
      refine ar_assign rfl rfl rfl rfl ?_
      refine ar_nil ?_
      refine inblk_n ?_
      refine then_n ?_
      refine wp_reg (by kernel_rfl) ?_
      refine ar_move rfl rfl rfl rfl ?_
      refine ar_addi rfl rfl rfl rfl (by omega) (by omega) rfl rfl ?_
      refine ar_assign rfl rfl rfl rfl ?_
      refine ar_nil ?_
      exact loop_n (j + 1) (by omega) (by omega) (le_to ⟨rfl, (int_eq rfl (by first | (rw [cntL_T (by omega) h26]; omega) | (rw [cntL_F (by omega) h26]))), rfl, trivial⟩ ⟨rfl, trivial⟩ rfl rfl rfl rfl)
    · refine ar_nil ?_
      refine then_n ?_
      refine wp_condF rfl ?_
      refine wp_skip ?_
      refine inblk_n ?_
      refine then_n ?_
      refine wp_reg (by kernel_rfl) ?_
      refine ar_move rfl rfl rfl rfl ?_
      refine ar_addi rfl rfl rfl rfl (by omega) (by omega) rfl rfl ?_
      refine ar_assign rfl rfl rfl rfl ?_
      refine ar_nil ?_
      exact loop_n (j + 1) (by omega) (by omega) (le_to ⟨rfl, (int_eq rfl (by first | (rw [cntL_T (by omega) h26]; omega) | (rw [cntL_F (by omega) h26]))), rfl, trivial⟩ ⟨rfl, trivial⟩ rfl rfl rfl rfl)
  · refine ar_nil ?_
    refine then_n ?_
    refine wp_condF rfl ?_
    refine wp_exit ?_
    refine then_x (loop_x (inblk_e ?_))
    refine then_n ?_
    refine wp_seq ?_
    refine wp_reg (by kernel_rfl) ?_
    refine ar_move rfl rfl rfl rfl ?_
    refine ar_assign rfl rfl rfl rfl ?_
    refine ar_nil ?_
    refine then_n ?_
    refine wp_ret ?_
    refine ret_post rfl rfl ?_
    have hi : j = a.l.length := by omega
    subst hi; rfl
theorem pc_78 (t : Trace) (hz : SzT t) : PCall Try.prog 78 [trV t] (.bool (trisT t)) := by
  refine pc_of tab_ok (f := 78) (fn := Try.f78) (N := 26) (rs := [.tmp 2]) (by kernel_rfl) rfl (by kernel_rfl) rfl rfl [(0, .v (trV t))] ⟨rfl, trivial⟩ rfl rfl ?_
  intro B
  have z1 := hz.nl
  refine wp_seq ?_
  refine wp_reg (by kernel_rfl) ?_
  refine ar_box 1 [] rfl rfl rfl ⟨rfl, trivial⟩ rfl rfl rfl ?_
  refine ar_assign rfl rfl rfl rfl ?_
  refine ar_nil ?_
  refine then_n ?_
  refine wp_seq ?_
  refine wp_reg (by kernel_rfl) ?_
  refine ar_fa tab_ok rfl rfl rfl tb101 rfl rfl rfl rfl rfl ?_
  refine ar_ld tab_ok rfl rfl rfl tb70 rfl rfl rfl rfl rfl ?_
  refine ar_call [] (pc_46 t.ini (by have := hz.il; omega)) rfl rfl rfl rfl rfl rfl trivial (.inl rfl) rfl rfl rfl ?_
  refine ar_split (fun h8 => ?_) (fun h8 => ?_)
  · refine ar_assign rfl rfl rfl rfl ?_
    refine ar_nil ?_
    refine then_n ?_
    refine wp_seq ?_
    refine wp_seq ?_
    refine wp_reg (by kernel_rfl) ?_
    refine ar_move rfl rfl rfl rfl ?_
    refine ar_not rfl rfl rfl rfl rfl ?_
    refine ar_nil ?_
    refine then_n ?_
    refine wp_condF rfl ?_
    refine wp_skip ?_
    refine then_n ?_
    refine wp_seq ?_
    refine wp_seq ?_
    refine wp_reg (by kernel_rfl) ?_
    refine ar_assign rfl rfl rfl rfl ?_
    refine ar_nil ?_
    refine then_n ?_
    refine wp_block ?_
    refine wp_loop (α := Nat) (fun j => mk [(1, .ptr 1 0), (4, .v (.int .i64 (j : Nat)))] [(1, .box ((encT t).map .v))] 0) (fun j => j ≤ t.ins.length ∧ ∀ q, q < j → oddRow (t.ins.getD q default) = false) (fun j => t.ins.length - j) 0 ⟨Nat.zero_le _, fun q h => absurd h (Nat.not_lt_zero q)⟩ (le_to ⟨rfl, rfl, trivial⟩ ⟨rfl, trivial⟩ rfl rfl rfl rfl) ?_
    rintro j ⟨hj1, hj2⟩
    refine wp_seq ?_
    refine wp_seq ?_
    refine wp_reg (by kernel_rfl) ?_
    refine ar_move rfl rfl rfl rfl ?_
    refine ar_fa tab_ok rfl rfl rfl tb101 rfl rfl rfl rfl rfl ?_
    refine ar_ld tab_ok rfl rfl rfl tb99 rfl rfl rfl rfl rfl ?_
    refine ar_len tab_ok rfl rfl tb99 rfl len_map rfl rfl ?_
    refine ar_lss_s rfl rfl rfl rfl rfl (fun h15 => ?_) (fun h15 => ?_)
    · refine ar_nil ?_
      refine then_n ?_
      refine wp_condT rfl ?_
      refine wp_skip ?_
      refine then_n ?_
      refine wp_seq ?_
      refine wp_block ?_
      refine wp_seq ?_
      refine wp_reg (by kernel_rfl) ?_
      refine ar_fa tab_ok rfl rfl rfl tb101 rfl rfl rfl rfl rfl ?_
      refine ar_ld tab_ok rfl rfl rfl tb99 rfl rfl rfl rfl rfl ?_
      refine ar_move rfl rfl rfl rfl ?_
      refine ar_ia tab_ok rfl rfl rfl tb99 rfl tb70 (by omega) (map_get (n := j) (by omega)) rfl rfl rfl ?_
      refine ar_ld_ref tab_ok rfl rfl tb70 rfl rfl rfl rfl ?_
      refine ar_call [] (pc_46 (t.ins.getD j default) (by have := hz.rl _ (getD_mem (xs := t.ins) (n := j) (by omega)); omega)) rfl rfl rfl rfl rfl rfl trivial (.inl rfl) rfl rfl rfl ?_
      refine ar_split (fun h23 => ?_) (fun h23 => ?_)
      · refine ar_assign rfl rfl rfl rfl ?_
        refine ar_nil ?_
        refine then_n ?_
        refine wp_seq ?_
        refine wp_reg (by kernel_rfl) ?_
        refine ar_move rfl rfl rfl rfl ?_
        refine ar_not rfl rfl rfl rfl rfl ?_
        refine ar_nil ?_
        refine then_n ?_
        refine wp_condF rfl ?_
        refine wp_skip ?_
        refine inblk_n ?_
        refine then_n ?_
        refine wp_reg (by kernel_rfl) ?_
        refine ar_move rfl rfl rfl rfl ?_
        refine ar_addi rfl rfl rfl rfl (by omega) (by omega) rfl rfl ?_
        refine ar_assign rfl rfl rfl rfl ?_
        refine ar_nil ?_
        exact loop_n (j + 1) ⟨by omega, fun q hq => (Nat.lt_succ_iff_lt_or_eq.1 hq).elim (hj2 q) (fun e => e ▸ (by unfold oddRow; rw [h23]; rfl))⟩ (by omega) (le_to ⟨rfl, rfl, trivial⟩ ⟨rfl, trivial⟩ rfl rfl rfl rfl)
      · refine ar_assign rfl rfl rfl rfl ?_
        refine ar_nil ?_
        refine then_n ?_
        refine wp_seq ?_
        refine wp_reg (by kernel_rfl) ?_
        refine ar_move rfl rfl rfl rfl ?_
        refine ar_not rfl rfl rfl rfl rfl ?_
        refine ar_nil ?_
        refine then_n ?_
        refine wp_condT rfl ?_
        refine wp_seq ?_
        refine wp_reg (by kernel_rfl) ?_
        refine ar_assign rfl rfl rfl rfl ?_
        refine ar_nil ?_
        refine then_n ?_
        refine wp_ret ?_
        refine inblk_r (then_r (loop_r (inblk_r (then_r (ret_post rfl rfl ?_)))))
        unfold trisT
        first
          | (rw [any_no (fun q hq => hj2 q (by omega)), h8]; rfl)
          | (rw [any_of (j := j) (by omega) (by unfold oddRow; rw [h23]; rfl)]; simp; done)
          | (rw [h8]; rfl)
    · refine ar_nil ?_
      refine then_n ?_
      refine wp_condF rfl ?_
      refine wp_exit ?_
      refine then_x (loop_x (inblk_e ?_))
      refine then_n ?_
      refine wp_seq ?_
      refine wp_reg (by kernel_rfl) ?_
      refine ar_assign rfl rfl rfl rfl ?_
      refine ar_nil ?_
      refine then_n ?_
      refine wp_ret ?_
      refine ret_post rfl rfl ?_
      unfold trisT
      first
        | (rw [any_no (fun q hq => hj2 q (by omega)), h8]; rfl)
        | (rw [any_of (j := j) (by omega) (by unfold oddRow; rw [h23]; rfl)]; simp; done)
        | (rw [h8]; rfl)
  · refine ar_assign rfl rfl rfl rfl ?_
    refine ar_nil ?_
    refine then_n ?_
    refine wp_seq ?_
    refine wp_seq ?_
    refine wp_reg (by kernel_rfl) ?_
    refine ar_move rfl rfl rfl rfl ?_
    refine ar_not rfl rfl rfl rfl rfl ?_
    refine ar_nil ?_
    refine then_n ?_
    refine wp_condT rfl ?_
    refine wp_seq ?_
    refine wp_reg (by kernel_rfl) ?_
    refine ar_assign rfl rfl rfl rfl ?_
    refine ar_nil ?_
    refine then_n ?_
    refine wp_ret ?_
    refine then_r (ret_post rfl rfl ?_)
    unfold trisT
    first
      | (rw [any_no (fun q hq => hj2 q (by omega)), h8]; rfl)
      | (rw [any_of (j := j) (by omega) (by unfold oddRow; rw [h23]; rfl)]; simp; done)
      | (rw [h8]; rfl)
theorem pce_66 (a : Aig) (t : Trace) (hf : Fit a) (h1 : t.ini.length ≤ 9223372036854775807) (h2 : t.ins.length ≤ 9223372036854775807) : PCallE Try.prog 66 [aigV a, trV t] (fun r => ∃ b : Bool, r = .bool b ∧ (b = true → Good a ∧ SmallT t 20)) := by
  refine pce_of tab_ok (f := 66) (fn := Try.f66) (N := 15) (rs := [.tmp 4]) (by kernel_rfl) rfl (by kernel_rfl) rfl rfl [(0, .v (aigV a)), (1, .v (trV t))] ⟨rfl, rfl, trivial⟩ rfl rfl ?_
  intro B
  refine wp_seq ?_
  refine wp_reg (by kernel_rfl) ?_
  refine ar_box 2 [] rfl rfl rfl ⟨rfl, trivial⟩ rfl rfl rfl ?_
  refine ar_box 3 [] rfl rfl rfl ⟨rfl, trivial⟩ rfl rfl rfl ?_
  refine ar_assign rfl rfl rfl rfl ?_
  refine ar_nil ?_
  refine then_n ?_
  refine wp_seq ?_
  refine wp_reg (by kernel_rfl) ?_
  refine ar_lda tab_ok rfl rfl rfl tb27 rfl rfl rfl rfl rfl rfl ?_
  refine ar_callE [] (pce_55 a hf) rfl rfl rfl rfl rfl rfl trivial (.inl rfl) rfl rfl rfl ?_
  rintro _ ⟨b8, rfl, hb8⟩
  refine ar_split (fun h8 => ?_) (fun h8 => ?_)
  · refine ar_assign rfl rfl rfl rfl ?_
    refine ar_nil ?_
    refine then_n ?_
    refine wp_seq ?_
    refine wp_reg (by kernel_rfl) ?_
    refine ar_lda tab_ok rfl rfl rfl tb101 rfl rfl rfl rfl rfl rfl ?_
    refine ar_callE [] (pce_81 t 20 h1 h2 (by decide)) rfl rfl rfl rfl rfl rfl trivial (.inl rfl) rfl rfl rfl ?_
    rintro _ ⟨b10, rfl, hb10⟩
    refine ar_assign rfl rfl rfl rfl ?_
    refine ar_nil ?_
    refine then_n ?_
    refine wp_seq ?_
    refine wp_reg (by kernel_rfl) ?_
    refine ar_move rfl rfl rfl rfl ?_
    refine ar_move rfl rfl rfl rfl ?_
    refine ar_move rfl rfl rfl rfl ?_
    refine ar_pickT rfl rfl rfl rfl rfl ?_
    refine ar_assign rfl rfl rfl rfl ?_
    refine ar_nil ?_
    refine then_n ?_
    refine wp_ret ?_
    refine ret_postE rfl rfl ?_
    first | exact ⟨_, rfl, fun _ => ⟨hb8 (by assumption), hb10 (by assumption)⟩⟩ | exact ⟨_, rfl, fun h => (Bool.false_ne_true h).elim⟩ | (refine ⟨_, rfl, fun h => ?_⟩; simp_all)
  · refine ar_assign rfl rfl rfl rfl ?_
    refine ar_nil ?_
    refine then_n ?_
    refine wp_seq ?_
    refine wp_reg (by kernel_rfl) ?_
    refine ar_lda tab_ok rfl rfl rfl tb101 rfl rfl rfl rfl rfl rfl ?_
    refine ar_callE [] (pce_81 t 20 h1 h2 (by decide)) rfl rfl rfl rfl rfl rfl trivial (.inl rfl) rfl rfl rfl ?_
    rintro _ ⟨b10, rfl, hb10⟩
    refine ar_assign rfl rfl rfl rfl ?_
    refine ar_nil ?_
    refine then_n ?_
    refine wp_seq ?_
    refine wp_reg (by kernel_rfl) ?_
    refine ar_move rfl rfl rfl rfl ?_
    refine ar_move rfl rfl rfl rfl ?_
    refine ar_skip rfl rfl ?_
    refine ar_pickF rfl rfl rfl rfl rfl ?_
    refine ar_assign rfl rfl rfl rfl ?_
    refine ar_nil ?_
    refine then_n ?_
    refine wp_ret ?_
    refine ret_postE rfl rfl ?_
    first | exact ⟨_, rfl, fun _ => ⟨hb8 (by assumption), hb10 (by assumption)⟩⟩ | exact ⟨_, rfl, fun h => (Bool.false_ne_true h).elim⟩ | (refine ⟨_, rfl, fun h => ?_⟩; simp_all)
end Go.Vd
namespace Go.Vd
open Go.Proofs
def placeAt (a : Aig) (t : Trace) (n : Nat) : Nat × Nat := (placesI a (rowsT t)).getD n (0, 0)
abbrev atT (t : Trace) (p : Nat × Nat) : Trace := trOf t.bad (putX (rowsT t) p 2)
theorem placeAt_init {a : Aig} {t : Trace} {n j : Nat} (h : j < a.l.length) (hx : ¬ (a.l.getD j default).reset < 2) (hn : n = cntL a.l j) : placeAt a t n = (0, j) := by
  have hg := initP_get 0 a.l 0 j (a.l.getD j default) (by rw [List.getD_eq_getElem?_getD, List.getElem?_eq_getElem h]; rfl) (decide_eq_true (by omega))
  unfold placeAt placesI
  rw [hn, List.getD_eq_getElem?_getD, List.getElem?_append_left (List.getElem?_eq_some_iff.1 hg).1, hg, Nat.zero_add]; rfl
theorem rowsI_get {I : Nat} (hI : 0 < I) : ∀ {ls : List (List Int)} {k N : Nat}, (∀ r, r ∈ ls → r.length = I) → N < I * ls.length → (rowsI k ls)[N]? = some (k + N / I, N % I)
  | [], _, _, _, h => by simp at h
  | l :: ls, k, N, hl, h => by
    have h0 := hl l List.mem_cons_self
    show (rowP k l.length ++ rowsI (k + 1) ls)[N]? = _
    have hlen : (rowP k l.length).length = I := by simp [rowP, h0]
    by_cases hN : N < I
    · rw [List.getElem?_append_left (by omega), Nat.div_eq_of_lt hN, Nat.mod_eq_of_lt hN]
      simp [rowP, h0, hN]
    · rw [List.getElem?_append_right (by omega), hlen, rowsI_get hI (fun r hr => hl r (List.mem_cons_of_mem _ hr)) (by
        rw [List.length_cons, Nat.mul_add, Nat.mul_one] at h; omega)]
      have h1 : N / I = (N - I) / I + 1 := by rw [Nat.div_eq_sub_div hI (by omega)]
      have h2 : N % I = (N - I) % I := by rw [Nat.mod_eq_sub_mod (by omega)]
      rw [h1, h2]
      congr 2; omega
theorem placeAt_row {a : Aig} {t : Trace} {n N I : Nat} (hI : 0 < I) (hl : ∀ r, r ∈ t.ins → r.length = I) (hn : n = cntL a.l a.l.length + N) (hN : N < I * t.ins.length) : placeAt a t n = (N / I + 1, N % I) := by
  have hlen : (initP 0 0 a.l).length = cntL a.l a.l.length := by rw [initP_len]; unfold cntL; rw [List.take_length]
  have h := rowsI_get hI (k := 1) hl hN
  unfold placeAt placesI
  rw [List.getD_eq_getElem?_getD, List.getElem?_append_right (by omega), hlen, show n - cntL a.l a.l.length = N by omega]
  show ((rowsI 1 t.ins)[N]?).getD (0, 0) = _
  rw [h, Nat.add_comm]; rfl
theorem rowsI_len {I : Nat} : ∀ {ls : List (List Int)} {k : Nat}, (∀ r, r ∈ ls → r.length = I) → (rowsI k ls).length = I * ls.length
  | [], _, _ => rfl
  | l :: ls, k, hl => by
    show (rowP k l.length ++ rowsI (k + 1) ls).length = _
    rw [List.length_append, rowsI_len (fun r hr => hl r (List.mem_cons_of_mem _ hr)), List.length_cons, Nat.mul_add, Nat.mul_one]
    simp [rowP, hl l List.mem_cons_self]; omega
theorem many_len {a : Aig} {t : Trace} (h0 : 0 ≤ a.i) (h : RightT a t) : manyP a t = ((placesI a (rowsT t)).length : Nat) := by
  obtain ⟨I, hI⟩ := Int.eq_ofNat_of_zero_le h0
  have hl : ∀ r, r ∈ t.ins → r.length = I := fun r hr => by have := h.rl r hr; omega
  have hlen : (initP 0 0 a.l).length = cntL a.l a.l.length := by rw [initP_len]; unfold cntL; rw [List.take_length]
  unfold manyP placesI
  rw [List.length_append, hlen, hI]
  show _ = (((cntL a.l a.l.length) + (rowsI 1 t.ins).length : Nat) : Int)
  rw [rowsI_len hl]
  push_cast
  omega
theorem placeAt_mem {a : Aig} {t : Trace} {n : Nat} (h0 : 0 ≤ a.i) (h : RightT a t) (hn : (n : Int) < manyP a t) : placeAt a t n ∈ placesI a (rowsT t) := by
  rw [many_len h0 h] at hn
  unfold placeAt
  rw [List.getD_eq_getElem?_getD, List.getElem?_eq_getElem (by omega)]
  exact List.getElem_mem _
theorem quo_nat {N I q : Nat} {x : Int} (h : x = I) (hN : N ≤ 1000000000000) (hq : N / I = q) : IntKind.i64.wrap (((N : Nat) : Int).tdiv x) = (q : Nat) := by
  subst h
  rw [← Int.ofNat_tdiv]
  have h1 := Nat.div_le_self N I
  rw [hq] at h1 ⊢
  exact IntWalk.i64_in _ ⟨by omega, by omega⟩
theorem rem_nat {N I c : Nat} {x : Int} (h : x = I) (hc : N % I = c) : ((N : Nat) : Int).tmod x = (c : Nat) := by
  subst h; subst hc
  rw [← Int.ofNat_tmod]
theorem pc_72 (a : Aig) (t : Trace) (n : Nat) (hf : Fit a) (hbd : Bd a) (hz : SzT t) (hr0 : RightT a t) (h1 : (n : Int) < manyP a t) : PCall Try.prog 72 [aigV a, trV t, .int .i64 (n : Nat)] (.tup [trV (atT t (placeAt a t n)), .int .u8 (cell (rowsT t) (placeAt a t n).1 (placeAt a t n).2)]) := by
  refine pc_of tab_ok (f := 72) (fn := Try.f72) (N := 85) (rs := [.cell 6 101, .tmp 7]) (by kernel_rfl) rfl (by kernel_rfl) rfl rfl [(0, .v (aigV a)), (1, .v (trV t)), (2, .v (.int .i64 (n : Nat)))] ⟨rfl, rfl, rfl, trivial⟩ rfl rfl ?_
  intro B
  have hil := hr0.il
  have hb3 := hbd.l1
  have hmb := mulb (x := a.i) (y := (t.ins.length : Nat)) hbd.i0 (by have := hbd.i1; omega) (by omega) (by have := hz.nl; omega)
  have hcl0 := cntL_le a.l a.l.length
  have hnb : n ≤ 1000001000000 := by unfold manyP at h1; omega
  refine wp_seq ?_
  refine wp_reg (by kernel_rfl) ?_
  refine ar_box 3 [] rfl rfl rfl ⟨rfl, trivial⟩ rfl rfl rfl ?_
  refine ar_box 4 [] rfl rfl rfl ⟨rfl, trivial⟩ rfl rfl rfl ?_
  refine ar_alloc (id := 6) tab_ok rfl rfl tb101 rfl rfl rfl rfl ?_
  refine ar_assign rfl rfl rfl rfl ?_
  refine ar_nil ?_
  refine then_n ?_
  refine wp_seq ?_
  refine wp_seq ?_
  refine wp_reg (by kernel_rfl) ?_
  refine ar_assign rfl rfl rfl rfl ?_
  refine ar_nil ?_
  refine then_n ?_
  refine wp_block ?_
  refine wp_loop (α := Nat) (fun j => mk [(2, .v (.int .i64 (n - cntL a.l j : Nat))), (3, .ptr 3 0), (4, .ptr 4 0), (6, .ptr 6 0), (8, .v (.int .i64 (j : Nat)))] [(3, .box ((encA a).map .v)), (4, .box ((encT t).map .v)), (6, .box [.v (.int .i64 0), .nils, .nils])] 0) (fun j => j ≤ a.l.length ∧ cntL a.l j ≤ n) (fun j => a.l.length - j) 0 ⟨Nat.zero_le _, Nat.zero_le _⟩ (le_to ⟨rfl, rfl, rfl, rfl, rfl, trivial⟩ ⟨rfl, rfl, rfl, trivial⟩ rfl rfl rfl rfl) ?_
  rintro j ⟨hj1, hj2⟩
  have hcl := cntL_le a.l j
  refine wp_seq ?_
  refine wp_seq ?_
  refine wp_reg (by kernel_rfl) ?_
  refine ar_move rfl rfl rfl rfl ?_
  refine ar_fa tab_ok rfl rfl rfl tb27 rfl rfl rfl rfl rfl ?_
  refine ar_ld tab_ok rfl rfl rfl tb22 rfl rfl rfl rfl rfl ?_
  refine ar_len tab_ok rfl rfl tb22 rfl len_map rfl rfl ?_
  refine ar_lss_s rfl rfl rfl rfl rfl (fun h15 => ?_) (fun h15 => ?_)
  · refine ar_nil ?_
    refine then_n ?_
    refine wp_condT rfl ?_
    refine wp_skip ?_
    refine then_n ?_
    refine wp_seq ?_
    refine wp_block ?_
    refine wp_seq ?_
    refine wp_seq ?_
    refine wp_reg (by kernel_rfl) ?_
    refine ar_fa tab_ok rfl rfl rfl tb27 rfl rfl rfl rfl rfl ?_
    refine ar_ld tab_ok rfl rfl rfl tb22 rfl rfl rfl rfl rfl ?_
    refine ar_move rfl rfl rfl rfl ?_
    refine ar_ia tab_ok rfl rfl rfl tb22 rfl tb63 (by omega) (map_get (n := j) (by omega)) rfl rfl rfl ?_
    refine ar_fa_ref tab_ok rfl rfl tb63 rfl rfl rfl rfl ?_
    refine ar_ld_ref tab_ok rfl rfl tb3 rfl rfl rfl rfl ?_
    refine ar_lss_s rfl rfl rfl rfl rfl (fun h24 => ?_) (fun h24 => ?_)
    · refine ar_nil ?_
      refine then_n ?_
      refine wp_condT rfl ?_
      refine wp_exit ?_
      refine then_x (inblk_e ?_)
      refine then_n ?_
      refine wp_reg (by kernel_rfl) ?_
      refine ar_move rfl rfl rfl rfl ?_
      refine ar_addi rfl rfl rfl rfl (by omega) (by omega) rfl rfl ?_
      refine ar_assign rfl rfl rfl rfl ?_
      refine ar_nil ?_
      exact loop_n (j + 1) ⟨by omega, by first | (rw [cntL_T (by omega) (by omega)]; omega) | (rw [cntL_F (by omega) (by omega)]; omega)⟩ (by omega) (le_to ⟨(int_eq rfl (by first | (rw [cntL_T (by omega) (by omega)]; omega) | (rw [cntL_F (by omega) (by omega)]))), rfl, rfl, rfl, rfl, trivial⟩ ⟨rfl, rfl, rfl, trivial⟩ rfl rfl rfl rfl)
    · refine ar_nil ?_
      refine then_n ?_
      refine wp_condF rfl ?_
      refine wp_skip ?_
      refine then_n ?_
      refine wp_seq ?_
      refine wp_seq ?_
      refine wp_reg (by kernel_rfl) ?_
      refine ar_move rfl rfl rfl rfl ?_
      refine ar_eql_s rfl rfl rfl rfl rfl (fun h26 => ?_) (fun h26 => ?_)
      · refine ar_nil ?_
        refine then_n ?_
        refine wp_condT rfl ?_
        refine wp_seq ?_
        refine wp_draw (L := [([4], []), ([4], []), ([4], []), ([4], []), ([], []), ([], []), ([4], []), ([4], []), ([], []), ([4], []), ([4], []), ([], []), ([], []), ([], []), ([6], [6]), ([], [])]) (by kernel_rfl) mixed (by kernel_rfl) ?_
        refine ar_fa tab_ok rfl rfl rfl tb101 rfl rfl rfl rfl rfl ?_
        refine ar_ld tab_ok rfl rfl rfl tb3 rfl rfl rfl rfl rfl ?_
        refine ar_fa tab_ok rfl rfl rfl tb101 rfl rfl rfl rfl rfl ?_
        refine ar_ld tab_ok rfl rfl rfl tb70 rfl rfl rfl rfl rfl ?_
        refine ar_move rfl rfl rfl rfl ?_
        refine ar_call [] (pc_112 t.ini (j : Nat) 2 hz.il (by omega) (by omega)) rfl rfl rfl rfl rfl rfl trivial (.inl rfl) rfl rfl rfl ?_
        refine ar_fa tab_ok rfl rfl rfl tb101 rfl rfl rfl rfl rfl ?_
        refine ar_ld tab_ok rfl rfl rfl tb99 rfl rfl rfl rfl rfl ?_
        refine ar_build [] tab_ok rfl tb101 rfl rfl trivial rfl rfl rfl rfl rfl rfl ?_
        refine ar_fa tab_ok rfl rfl rfl tb101 rfl rfl rfl rfl rfl ?_
        refine ar_ld tab_ok rfl rfl rfl tb70 rfl rfl rfl rfl rfl ?_
        refine ar_move rfl rfl rfl rfl ?_
        refine ar_ia tab_ok rfl rfl rfl tb70 rfl tb72 (by omega) (map_get (n := j) (by omega)) rfl rfl rfl ?_
        refine ar_ld_ref tab_ok rfl rfl tb72 rfl rfl rfl rfl ?_
        refine ar_st [] tab_ok rfl tb101 rfl rfl rfl trivial rfl rfl rfl rfl rfl rfl rfl rfl ?_
        refine ar_assign rfl rfl rfl rfl ?_
        refine ar_nil ?_
        refine then_n ?_
        refine wp_ret ?_
        refine then_r (inblk_r (then_r (loop_r (inblk_r (then_r (ret_post rfl rfl ?_))))))
        rw [placeAt_init (a := a) (t := t) (n := n) (j := j) (by omega) h24 (by omega)]; rfl
      · refine ar_nil ?_
        refine then_n ?_
        refine wp_condF rfl ?_
        refine wp_skip ?_
        refine then_n ?_
        refine wp_reg (by kernel_rfl) ?_
        refine ar_move rfl rfl rfl rfl ?_
        refine ar_subi rfl rfl rfl rfl (by omega) (by omega) rfl rfl ?_
        refine ar_assign rfl rfl rfl rfl ?_
        refine ar_nil ?_
        refine inblk_n ?_
        refine then_n ?_
        refine wp_reg (by kernel_rfl) ?_
        refine ar_move rfl rfl rfl rfl ?_
        refine ar_addi rfl rfl rfl rfl (by omega) (by omega) rfl rfl ?_
        refine ar_assign rfl rfl rfl rfl ?_
        refine ar_nil ?_
        exact loop_n (j + 1) ⟨by omega, by first | (rw [cntL_T (by omega) (by omega)]; omega) | (rw [cntL_F (by omega) (by omega)]; omega)⟩ (by omega) (le_to ⟨(int_eq rfl (by first | (rw [cntL_T (by omega) (by omega)]; omega) | (rw [cntL_F (by omega) (by omega)]))), rfl, rfl, rfl, rfl, trivial⟩ ⟨rfl, rfl, rfl, trivial⟩ rfl rfl rfl rfl)
  · refine ar_nil ?_
    refine then_n ?_
    refine wp_condF rfl ?_
    refine wp_exit ?_
    refine then_x (loop_x (inblk_e ?_))
    refine then_n ?_
    refine wp_seq ?_
    have hjl : j = a.l.length := by omega
    subst hjl
    have hpos : 0 < a.i := by
      rcases Int.lt_or_eq_of_le hbd.i0 with h | h
      · exact h
      · exfalso
        unfold manyP at h1
        rw [← h] at h1
        omega
    obtain ⟨I, hI⟩ := Int.eq_ofNat_of_zero_le hbd.i0
    have hI0 : 0 < I := by omega
    have hrl : ∀ r, r ∈ t.ins → r.length = I := fun r hr => by have := hr0.rl r hr; omega
    have hN : n - cntL a.l a.l.length < I * t.ins.length := by
      have e : manyP a t = ((I * t.ins.length : Nat) : Int) + (cntL a.l a.l.length : Nat) := by unfold manyP; rw [hI]; push_cast; omega
      rw [e] at h1
      omega
    have hN1 : n - cntL a.l a.l.length ≤ 1000000000000 := by
      have q1 : I * t.ins.length ≤ 1000000 * 1000000 := Nat.mul_le_mul (by have := hbd.i1; omega) hz.nl
      omega
    have hpl := placeAt_row (a := a) (t := t) hI0 hrl (n := n) (N := n - cntL a.l a.l.length) (by omega) hN
    have hq1 := Nat.div_lt_of_lt_mul hN
    have hc1 := Nat.mod_lt (n - cntL a.l a.l.length) hI0
    obtain ⟨q, hq⟩ : ∃ q, (n - cntL a.l a.l.length) / I = q := ⟨_, rfl⟩
    obtain ⟨c, hc⟩ : ∃ c, (n - cntL a.l a.l.length) % I = c := ⟨_, rfl⟩
    rw [hq, hc] at hpl
    rw [hq] at hq1
    rw [hc] at hc1
    have hrq := hrl (t.ins.getD q default) (getD_mem hq1)
    have hsz := hz.rl (t.ins.getD q default) (getD_mem hq1)
    have hzn := hz.nl
    refine wp_reg (by kernel_rfl) ?_
    refine ar_bs_own (es := ([] : List (List Int)).map encUs) 43 [] tab_ok rfl tb99 rfl tb70 rfl rfl ⟨rfl, trivial⟩ rfl rfl rfl rfl rfl rfl rfl rfl rfl ?_
    refine ar_fa tab_ok rfl rfl rfl tb101 rfl rfl rfl rfl rfl ?_
    refine ar_ld tab_ok rfl rfl rfl tb99 rfl rfl rfl rfl rfl ?_
    refine ar_app 46 [] tab_ok rfl tb99 rfl tb99 rfl tb70 rfl rfl rfl rfl ⟨rfl, rfl, trivial⟩ rfl (el_70 _) app_map (by constructor <;> simp [maxLen] <;> omega) rfl rfl rfl ?_
    refine ar_assign rfl rfl rfl rfl ?_
    refine ar_nil ?_
    refine then_n ?_
    refine wp_seq ?_
    refine wp_draw (L := [([], []), ([], []), ([3], []), ([3], []), ([], []), ([46], []), ([46], []), ([], []), ([3], []), ([3], []), ([], []), ([], []), ([], []), ([], [])]) (by kernel_rfl) mixed (by kernel_rfl) ?_
    refine ar_move rfl rfl rfl rfl ?_
    refine ar_move rfl rfl rfl rfl ?_
    refine ar_fa tab_ok rfl rfl rfl tb27 rfl rfl rfl rfl rfl ?_
    refine ar_ld tab_ok rfl rfl rfl tb3 rfl rfl rfl rfl rfl ?_
    refine ar_quo rfl rfl rfl (by omega) (quo_nat hI hN1 hq) rfl rfl ?_
    refine ar_ia_own tab_ok rfl rfl rfl rfl tb99 rfl tb70 rfl (by omega) (by simp; omega) rfl rfl rfl rfl ?_
    refine ar_ld_eptr tab_ok rfl rfl rfl tb70 rfl (map_get (enc := encUs) (xs := t.ins) (n := q) (by omega)) rfl rfl rfl ?_
    refine ar_move rfl rfl rfl rfl ?_
    refine ar_fa tab_ok rfl rfl rfl tb27 rfl rfl rfl rfl rfl ?_
    refine ar_ld tab_ok rfl rfl rfl tb3 rfl rfl rfl rfl rfl ?_
    refine ar_rem rfl rfl rfl (by omega) (rem_nat hI hc) rfl rfl ?_
    refine ar_ia tab_ok rfl rfl rfl tb70 rfl tb72 (by omega) (map_get (n := c) (by omega)) rfl rfl rfl ?_
    refine ar_ld_ref tab_ok rfl rfl tb72 rfl rfl rfl rfl ?_
    refine ar_assign rfl rfl rfl rfl ?_
    refine ar_nil ?_
    refine then_n ?_
    refine wp_seq ?_
    refine wp_draw (L := [([], []), ([], []), ([3], []), ([3], []), ([], []), ([], []), ([], []), ([3], []), ([3], []), ([], []), ([46], []), ([46], []), ([], []), ([3], []), ([3], []), ([], []), ([], []), ([46], []), ([46], [46])]) (by kernel_rfl) mixed (by kernel_rfl) ?_
    refine ar_move rfl rfl rfl rfl ?_
    refine ar_move rfl rfl rfl rfl ?_
    refine ar_fa tab_ok rfl rfl rfl tb27 rfl rfl rfl rfl rfl ?_
    refine ar_ld tab_ok rfl rfl rfl tb3 rfl rfl rfl rfl rfl ?_
    refine ar_quo rfl rfl rfl (by omega) (quo_nat hI hN1 hq) rfl rfl ?_
    refine ar_move rfl rfl rfl rfl ?_
    refine ar_move rfl rfl rfl rfl ?_
    refine ar_fa tab_ok rfl rfl rfl tb27 rfl rfl rfl rfl rfl ?_
    refine ar_ld tab_ok rfl rfl rfl tb3 rfl rfl rfl rfl rfl ?_
    refine ar_quo rfl rfl rfl (by omega) (quo_nat hI hN1 hq) rfl rfl ?_
    refine ar_ia_own tab_ok rfl rfl rfl rfl tb99 rfl tb70 rfl (by omega) (by simp; omega) rfl rfl rfl rfl ?_
    refine ar_ld_eptr tab_ok rfl rfl rfl tb70 rfl (map_get (enc := encUs) (xs := t.ins) (n := q) (by omega)) rfl rfl rfl ?_
    refine ar_move rfl rfl rfl rfl ?_
    refine ar_fa tab_ok rfl rfl rfl tb27 rfl rfl rfl rfl rfl ?_
    refine ar_ld tab_ok rfl rfl rfl tb3 rfl rfl rfl rfl rfl ?_
    refine ar_rem rfl rfl rfl (by omega) (rem_nat hI hc) rfl rfl ?_
    refine ar_call [] (pc_112 (t.ins.getD q default) (c : Nat) 2 (by omega) (by omega) (by omega)) rfl rfl rfl rfl rfl rfl trivial (.inl rfl) rfl rfl rfl ?_
    refine ar_ia_own tab_ok rfl rfl rfl rfl tb99 rfl tb70 rfl (by omega) (by simp; omega) rfl rfl rfl rfl ?_
    refine ar_st_e tab_ok rfl tb70 rfl rfl rfl rfl rfl (by simp; omega) set_map rfl rfl rfl ?_
    refine ar_nil ?_
    refine then_n ?_
    refine wp_seq ?_
    refine wp_reg (by kernel_rfl) ?_
    refine ar_fa tab_ok rfl rfl rfl tb101 rfl rfl rfl rfl rfl ?_
    refine ar_ld tab_ok rfl rfl rfl tb3 rfl rfl rfl rfl rfl ?_
    refine ar_fa tab_ok rfl rfl rfl tb101 rfl rfl rfl rfl rfl ?_
    refine ar_ld tab_ok rfl rfl rfl tb70 rfl rfl rfl rfl rfl ?_
    refine ar_move rfl rfl rfl rfl ?_
    refine ar_build [(46, _)] tab_ok rfl tb101 rfl rfl ⟨rfl, trivial⟩ rfl rfl rfl rfl rfl rfl ?_
    refine ar_move rfl rfl rfl rfl ?_
    refine ar_st [(46, _)] tab_ok rfl tb101 rfl rfl rfl ⟨rfl, trivial⟩ rfl rfl rfl rfl rfl rfl rfl rfl ?_
    refine ar_assign rfl rfl rfl rfl ?_
    refine ar_nil ?_
    refine then_n ?_
    refine wp_ret ?_
    refine ret_post rfl rfl ?_
    rw [hpl]; rfl
end Go.Vd
namespace Go.Vd
open Go.Proofs
def exS : Aig := ⟨2, [], [], [], [2], [], []⟩
theorem exS_fit : Fit exS := ⟨by decide, by decide, by decide, by decide, by decide, by decide, fun j hj => absurd hj (Nat.not_lt_zero j)⟩
theorem exS_bd : Bd exS := ⟨by decide, by decide, by decide, by decide, by decide, by decide, by decide⟩
abbrev trS (x y : Int) : Trace := ⟨0, [], [[x, y]]⟩
theorem trS_sz (x y : Int) : SzT (trS x y) := ⟨by simp, by simp, fun r hr => by
  have : r = [x, y] := by simpa using hr
  subst this; simp⟩
theorem trS_n (x y : Int) : Nn (trS x y).ini := fun z hz => by cases hz
theorem trS_n2 {x y : Int} (h : 0 ≤ x) (h' : 0 ≤ y) : ∀ r, r ∈ (trS x y).ins → Nn r := fun r hr z hz => by
  have : r = [x, y] := by simpa using hr
  subst this
  have : z = x ∨ z = y := by simpa using hz
  omega
theorem pc_65  : PCall Try.prog 65 [] (.bool true) := by
  refine pc_of tab_ok (f := 65) (fn := Try.f65) (N := 72) (rs := [.tmp 0]) (by kernel_rfl) rfl (by kernel_rfl) rfl rfl [] trivial rfl rfl ?_
  intro B
  refine wp_seq ?_
  refine wp_reg (by kernel_rfl) ?_
  refine ar_assign rfl rfl rfl rfl ?_
  refine ar_nil ?_
  refine then_n ?_
  refine wp_seq ?_
  refine wp_reg (by kernel_rfl) ?_
  refine ar_bs [] tab_ok rfl tb24 rfl tb3 rfl trivial rfl rfl rfl rfl rfl rfl rfl rfl ?_
  refine ar_build [] tab_ok rfl tb27 rfl rfl trivial rfl rfl rfl rfl rfl rfl ?_
  refine ar_alloc (id := 1) tab_ok rfl rfl tb27 rfl rfl rfl rfl ?_
  refine ar_st [] tab_ok rfl tb27 rfl rfl rfl trivial rfl rfl rfl rfl rfl rfl rfl rfl ?_
  refine ar_nil ?_
  refine then_n ?_
  refine wp_seq ?_
  refine wp_reg (by kernel_rfl) ?_
  refine ar_bs [] tab_ok rfl tb70 rfl tb72 rfl trivial rfl rfl rfl rfl rfl rfl rfl rfl ?_
  refine ar_bs [] tab_ok rfl tb99 rfl tb70 rfl trivial rfl rfl rfl rfl rfl rfl rfl rfl ?_
  refine ar_build [] tab_ok rfl tb101 rfl rfl trivial rfl rfl rfl rfl rfl rfl ?_
  refine ar_alloc (id := 2) tab_ok rfl rfl tb101 rfl rfl rfl rfl ?_
  refine ar_st [] tab_ok rfl tb101 rfl rfl rfl trivial rfl rfl rfl rfl rfl rfl rfl rfl ?_
  refine ar_nil ?_
  refine then_n ?_
  refine wp_seq ?_
  refine wp_reg (by kernel_rfl) ?_
  refine ar_lda tab_ok rfl rfl rfl tb27 rfl rfl rfl rfl rfl rfl ?_
  refine ar_lda tab_ok rfl rfl rfl tb101 rfl rfl rfl rfl rfl rfl ?_
  refine ar_call [] (pc_67 exS (trS 1 1) exS_fit exS_bd (trS_sz _ _) (trS_n _ _) (trS_n2 (by decide) (by decide))) rfl rfl rfl rfl rfl rfl trivial (.inl rfl) rfl rfl rfl ?_
  refine ar_to (d' := .v (.tup [trV (trS 1 2), .int .i64 0])) (by kernel_rfl) ?_
  refine ar_move rfl rfl rfl rfl ?_
  refine ar_ext rfl rfl rfl rfl rfl ?_
  refine ar_ext rfl rfl rfl rfl rfl ?_
  refine ar_alloc (id := 3) tab_ok rfl rfl tb101 rfl rfl rfl rfl ?_
  refine ar_st [] tab_ok rfl tb101 rfl rfl rfl trivial rfl rfl rfl rfl rfl rfl rfl rfl ?_
  refine ar_assign rfl rfl rfl rfl ?_
  refine ar_nil ?_
  refine then_n ?_
  refine wp_seq ?_
  refine wp_reg (by kernel_rfl) ?_
  refine ar_move rfl rfl rfl rfl ?_
  refine ar_eql rfl rfl rfl (decide_eq_true (by rfl)) rfl rfl ?_
  refine ar_move rfl rfl rfl rfl ?_
  refine ar_fa tab_ok rfl rfl rfl tb101 rfl rfl rfl rfl rfl ?_
  refine ar_ld tab_ok rfl rfl rfl tb99 rfl rfl rfl rfl rfl ?_
  refine ar_len tab_ok rfl rfl tb99 rfl rfl rfl rfl ?_
  refine ar_eql rfl rfl rfl (decide_eq_true (by rfl)) rfl rfl ?_
  refine ar_pickT rfl rfl rfl rfl rfl ?_
  refine ar_move rfl rfl rfl rfl ?_
  refine ar_fa tab_ok rfl rfl rfl tb101 rfl rfl rfl rfl rfl ?_
  refine ar_ld tab_ok rfl rfl rfl tb99 rfl rfl rfl rfl rfl ?_
  refine ar_ia tab_ok rfl rfl rfl tb99 rfl tb70 (by decide) rfl rfl rfl rfl ?_
  refine ar_ld_ref tab_ok rfl rfl tb70 rfl rfl rfl rfl ?_
  refine ar_len tab_ok rfl rfl tb70 rfl rfl rfl rfl ?_
  refine ar_eql rfl rfl rfl (decide_eq_true (by rfl)) rfl rfl ?_
  refine ar_pickT rfl rfl rfl rfl rfl ?_
  refine ar_move rfl rfl rfl rfl ?_
  refine ar_fa tab_ok rfl rfl rfl tb101 rfl rfl rfl rfl rfl ?_
  refine ar_ld tab_ok rfl rfl rfl tb99 rfl rfl rfl rfl rfl ?_
  refine ar_ia tab_ok rfl rfl rfl tb99 rfl tb70 (by decide) rfl rfl rfl rfl ?_
  refine ar_ld_ref tab_ok rfl rfl tb70 rfl rfl rfl rfl ?_
  refine ar_ia tab_ok rfl rfl rfl tb70 rfl tb72 (by decide) rfl rfl rfl rfl ?_
  refine ar_ld_ref tab_ok rfl rfl tb72 rfl rfl rfl rfl ?_
  refine ar_eql rfl rfl rfl (decide_eq_true (by rfl)) rfl rfl ?_
  refine ar_pickT rfl rfl rfl rfl rfl ?_
  refine ar_move rfl rfl rfl rfl ?_
  refine ar_fa tab_ok rfl rfl rfl tb101 rfl rfl rfl rfl rfl ?_
  refine ar_ld tab_ok rfl rfl rfl tb99 rfl rfl rfl rfl rfl ?_
  refine ar_ia tab_ok rfl rfl rfl tb99 rfl tb70 (by decide) rfl rfl rfl rfl ?_
  refine ar_ld_ref tab_ok rfl rfl tb70 rfl rfl rfl rfl ?_
  refine ar_ia tab_ok rfl rfl rfl tb70 rfl tb72 (by decide) rfl rfl rfl rfl ?_
  refine ar_ld_ref tab_ok rfl rfl tb72 rfl rfl rfl rfl ?_
  refine ar_eql rfl rfl rfl (decide_eq_true (by rfl)) rfl rfl ?_
  refine ar_pickT rfl rfl rfl rfl rfl ?_
  refine ar_move rfl rfl rfl rfl ?_
  refine ar_lda tab_ok rfl rfl rfl tb27 rfl rfl rfl rfl rfl rfl ?_
  refine ar_lda tab_ok rfl rfl rfl tb101 rfl rfl rfl rfl rfl rfl ?_
  refine ar_call [] (pc_73 exS (trS 1 2) exS_fit exS_bd (trS_sz _ _) (trS_n _ _) (trS_n2 (by decide) (by decide))) rfl rfl rfl rfl rfl rfl trivial (.inl rfl) rfl rfl rfl ?_
  refine ar_to (d' := .v (.bool true)) (by kernel_rfl) ?_
  refine ar_to (d' := .v (.bool true)) (congrArg (fun b => D.v (V.bool b)) rfl) ?_
  refine ar_pickT rfl rfl rfl rfl rfl ?_
  refine ar_move rfl rfl rfl rfl ?_
  refine ar_lda tab_ok rfl rfl rfl tb27 rfl rfl rfl rfl rfl rfl ?_
  refine ar_lda tab_ok rfl rfl rfl tb101 rfl rfl rfl rfl rfl rfl ?_
  refine ar_call [] (pc_73 exS (trS 1 1) exS_fit exS_bd (trS_sz _ _) (trS_n _ _) (trS_n2 (by decide) (by decide))) rfl rfl rfl rfl rfl rfl trivial (.inl rfl) rfl rfl rfl ?_
  refine ar_to (d' := .v (.bool false)) (by kernel_rfl) ?_
  refine ar_to (d' := .v (.bool false)) (congrArg (fun b => D.v (V.bool b)) rfl) ?_
  refine ar_not rfl rfl rfl rfl rfl ?_
  refine ar_pickT rfl rfl rfl rfl rfl ?_
  refine ar_move rfl rfl rfl rfl ?_
  refine ar_lda tab_ok rfl rfl rfl tb101 rfl rfl rfl rfl rfl rfl ?_
  refine ar_lda tab_ok rfl rfl rfl tb101 rfl rfl rfl rfl rfl rfl ?_
  refine ar_call [] (pc_75 (trS 1 2) (trS 1 1) (trS_sz _ _) (trS_sz _ _)) rfl rfl rfl rfl rfl rfl trivial (.inl rfl) rfl rfl rfl ?_
  refine ar_to (d' := .v (.bool true)) (by kernel_rfl) ?_
  refine ar_to (d' := .v (.bool true)) (congrArg (fun b => D.v (V.bool b)) rfl) ?_
  refine ar_pickT rfl rfl rfl rfl rfl ?_
  refine ar_move rfl rfl rfl rfl ?_
  refine ar_lda tab_ok rfl rfl rfl tb101 rfl rfl rfl rfl rfl rfl ?_
  refine ar_lda tab_ok rfl rfl rfl tb101 rfl rfl rfl rfl rfl rfl ?_
  refine ar_call [] (pc_75 (trS 1 1) (trS 1 2) (trS_sz _ _) (trS_sz _ _)) rfl rfl rfl rfl rfl rfl trivial (.inl rfl) rfl rfl rfl ?_
  refine ar_to (d' := .v (.bool false)) (by kernel_rfl) ?_
  refine ar_not rfl rfl rfl rfl rfl ?_
  refine ar_pickT rfl rfl rfl rfl rfl ?_
  refine ar_assign rfl rfl rfl rfl ?_
  refine ar_nil ?_
  refine then_n ?_
  refine wp_ret ?_
  refine ret_post rfl rfl ?_
  rfl
end Go.Vd
namespace Go.Vd
open Go.Proofs
theorem shrT_rok (a : Aig) {t : Trace} (hz : SzT t) (hn : Nn t.ini) (hn2 : ∀ r ∈ t.ins, Nn r) : SzT (shrT a t) ∧ Nn (shrT a t).ini ∧ ∀ r, r ∈ (shrT a t).ins → Nn r := by
  unfold shrT
  split
  · have h := shrR_ok a t.bad (placesI a (rowsT t)) (rowsT_ok hz hn hn2)
    exact ⟨h.szt _, h.nn1 _, h.nn2 _⟩
  · exact ⟨⟨by simp, by simp, fun r hr => (by cases hr)⟩, ⟨fun x hx => (by cases hx), fun r hr => (by cases hr)⟩⟩
theorem atT_rok {t : Trace} (hz : SzT t) (hn : Nn t.ini) (hn2 : ∀ r ∈ t.ins, Nn r) (p : Nat × Nat) : SzT (atT t p) ∧ Nn (atT t p).ini ∧ ∀ r, r ∈ (atT t p).ins → Nn r := by
  have h := putX_ok (rowsT_ok hz hn hn2) p (v := 2) (by decide)
  exact ⟨h.szt _, h.nn1 _, h.nn2 _⟩
theorem tr0_sz : SzT ⟨0, [], []⟩ := ⟨by simp, by simp, fun r hr => by cases hr⟩
theorem place_in {a : Aig} {t : Trace} (ho : Okt a t) {p : Nat × Nat} (hp : p ∈ placesI a (rowsT t)) : inR (rowsT t) p := (place_ok (R := rowsT t) (by simp) ho.r.il hp).1
theorem rows_at {t : Trace} (p : Nat × Nat) : rowsT (atT t p) = putX (rowsT t) p 2 := rowsT_trOf (put_ne (by simp) _ _) _
theorem at_ok {a : Aig} {t : Trace} (ho : Okt a t) {p : Nat × Nat} (hp : p ∈ placesI a (rowsT t)) : Okt a (atT t p) := (okR_put (okR_of ho) hp).ok
theorem at_le {a : Aig} {t : Trace} (ho : Okt a t) {p : Nat × Nat} (hp : p ∈ placesI a (rowsT t)) : LeR (rowsT t) (rowsT (atT t p)) := by rw [rows_at]; exact le_put (place_in ho hp)
theorem lowTr_le {t s : Trace} (hb : t.bad = s.bad) (h : LeR (rowsT t) (rowsT s)) : LowTr t s := by
  have := lowTr_of h t.bad
  rw [trOf_rowsT, hb, trOf_rowsT] at this; exact this
theorem at_low {a : Aig} {t : Trace} (ho : Okt a t) {p : Nat × Nat} (hp : p ∈ placesI a (rowsT t)) : LowTr t (atT t p) := lowTr_le rfl (at_le ho hp)
theorem shr_at_low {a : Aig} {t : Trace} (ho : Okt a t) {p : Nat × Nat} (hp : p ∈ placesI a (rowsT t)) (hw : ternaryT a (atT t p) = 0) : LowTr t (shrT a (atT t p)) :=
  lowTr_le (by rw [shrT_bad hw]; rfl) ((at_le ho hp).trans (shrT_le (at_ok ho hp) hw))
theorem least_same {a : Aig} {t : Trace} (ho : Okt a t) (hw : ternaryT a t = 0) : sameT (shrT a t) t = leastT a t := by
  cases hl : leastT a t with
  | true => exact sameT_iff.2 (least_id ho hl)
  | false =>
    cases hs : sameT (shrT a t) t with
    | false => rfl
    | true =>
      have := shrT_isLeast ho hw
      rw [sameT_iff.1 hs, hl] at this; cases this
theorem least_no {a : Aig} {t : Trace} (h : ternaryT a t ≠ 0) : leastT a t = false := by
  cases hl : leastT a t with
  | false => rfl
  | true => exact absurd (least_iff.1 hl).2.1 h
theorem lowTr_refl (t : Trace) : LowTr t t := lowTr_le rfl (LeR.refl _)
theorem low_row_trans : ∀ {x y z : List Int}, pairs lowT x y = true → pairs lowT y z = true → pairs lowT x z = true
  | [], [], [], _, _ => rfl
  | x :: xs, y :: ys, z :: zs, h, h' => by
    simp only [pairs, Bool.and_eq_true] at h h' ⊢
    exact ⟨low_trans h.1 h'.1, low_row_trans h.2 h'.2⟩
  | [], _ :: _, _, h, _ => by simp [pairs] at h
  | _ :: _, [], _, h, _ => by simp [pairs] at h
  | [], [], _ :: _, _, h => by simp [pairs] at h
  | _ :: _, _ :: _, [], _, h => by simp [pairs] at h
theorem low_rows_trans : ∀ {x y z : List (List Int)}, lowR x y = true → lowR y z = true → lowR x z = true
  | [], [], [], _, _ => rfl
  | x :: xs, y :: ys, z :: zs, h, h' => by
    simp only [lowR, pairs, Bool.and_eq_true] at h h' ⊢
    exact ⟨low_row_trans h.1 h'.1, low_rows_trans h.2 h'.2⟩
  | [], _ :: _, _, h, _ => by simp [pairs] at h
  | _ :: _, [], _, h, _ => by simp [pairs] at h
  | [], [], _ :: _, _, h => by simp [pairs] at h
  | _ :: _, _ :: _, [], _, h => by simp [pairs] at h
theorem lowTr_trans {s t u : Trace} (h : LowTr s t) (h' : LowTr t u) : LowTr s u := ⟨h.b.trans h'.b, low_row_trans h.i h'.i, low_rows_trans h.n h'.n⟩
theorem und_trans {s t u : Trace} (h : undT s t = true) (h' : undT t u = true) : undT s u = true := undT_iff.2 (lowTr_trans (undT_iff.1 h') (undT_iff.1 h))
theorem low_row_anti : ∀ {x y : List Int}, pairs lowT x y = true → pairs lowT y x = true → x = y
  | [], [], _, _ => rfl
  | x :: xs, y :: ys, h, h' => by
    simp only [pairs, Bool.and_eq_true] at h h'
    have h1 := low_iff.1 h.1
    have h2 := low_iff.1 h'.1
    rw [low_row_anti h.2 h'.2, show x = y by omega]
  | [], _ :: _, h, _ => by simp [pairs] at h
  | _ :: _, [], h, _ => by simp [pairs] at h
theorem low_rows_anti : ∀ {x y : List (List Int)}, lowR x y = true → lowR y x = true → x = y
  | [], [], _, _ => rfl
  | x :: xs, y :: ys, h, h' => by
    simp only [lowR, pairs, Bool.and_eq_true] at h h'
    rw [low_row_anti h.1 h'.1, low_rows_anti h.2 h'.2]
  | [], _ :: _, h, _ => by simp [pairs] at h
  | _ :: _, [], h, _ => by simp [pairs] at h
theorem lowTr_anti {s t : Trace} (h : LowTr s t) (h' : LowTr t s) : s = t := by
  have h1 := low_row_anti h.i h'.i
  have h2 := low_rows_anti h.n h'.n
  have h3 := h.b
  cases s; cases t
  simp only at h1 h2 h3
  rw [h1, h2, h3]
theorem und_same {s t : Trace} (h : undT s t = true) : sameT s t = undT t s := by
  cases hu : undT t s with
  | true => exact sameT_iff.2 (lowTr_anti (undT_iff.1 hu) (undT_iff.1 h))
  | false =>
    cases hs : sameT s t with
    | false => rfl
    | true =>
      have := sameT_iff.1 hs
      subst this
      rw [h] at hu; cases hu
theorem und_nosame {s t : Trace} (h : undT s t = false) : sameT s t = false := by
  cases hs : sameT s t with
  | false => rfl
  | true =>
    have := sameT_iff.1 hs
    subst this
    rw [undT_iff.2 (lowTr_refl s)] at h; cases h
theorem lowTr_cell {u t : Trace} (h : LowTr u t) (i j : Nat) : lowT (cell (rowsT u) i j) (cell (rowsT t) i j) = true := by
  cases i with
  | zero => exact low_get h.i j
  | succ i =>
    show lowT ((u.ins.getD i []).getD j default) ((t.ins.getD i []).getD j default) = true
    by_cases hi : i < u.ins.length
    · exact low_get (((pairs_iff _ _ _).1 h.n).2 i hi) j
    · have hl := pairs_same h.n
      rw [List.getD_eq_getElem?_getD (i := i), List.getD_eq_getElem?_getD (i := i), List.getElem?_eq_none (by omega), List.getElem?_eq_none (by omega)]; rfl
theorem und_at {a : Aig} {t : Trace} (ho : Okt a t) {p : Nat × Nat} (hp : p ∈ placesI a (rowsT t)) : undT t (atT t p) = decide (cell (rowsT t) p.1 p.2 = 2) := by
  have hin := place_in ho hp
  by_cases hc : cell (rowsT t) p.1 p.2 = 2
  · rw [decide_eq_true hc]
    refine undT_iff.2 ?_
    show LowTr (trOf t.bad (putX (rowsT t) p 2)) t
    rw [put_id hin hc]; exact lowTr_refl t
  · rw [decide_eq_false hc]
    cases hu : undT t (atT t p) with
    | false => rfl
    | true =>
      have h1 := lowTr_cell (undT_iff.1 hu) p.1 p.2
      rw [rows_at, cell_put hin, if_pos ⟨rfl, rfl⟩] at h1
      have := low_iff.1 h1
      omega
theorem pc_17 (a : Aig) (t : Trace) (hf : Fit a) (htf : FitT t) : PCall Try.prog 17 [aigV a, trV t] (.bool true) := by
  refine pc_of tab_ok (f := 17) (fn := Try.f17) (N := 115) (rs := [.tmp 4]) (by kernel_rfl) rfl (by kernel_rfl) rfl rfl [(0, .v (aigV a)), (1, .v (trV t))] ⟨rfl, rfl, trivial⟩ rfl rfl ?_
  intro B
  have hn : Nn t.ini := htf.iu.nn
  have hn2 : ∀ r, r ∈ t.ins → Nn r := fun r hr => (htf.ru r hr).nn
  refine wp_seq ?_
  refine wp_reg (by kernel_rfl) ?_
  refine ar_box 2 [] rfl rfl rfl ⟨rfl, trivial⟩ rfl rfl rfl ?_
  refine ar_box 3 [] rfl rfl rfl ⟨rfl, trivial⟩ rfl rfl rfl ?_
  refine ar_assign rfl rfl rfl rfl ?_
  refine ar_nil ?_
  refine then_n ?_
  refine wp_seq ?_
  refine wp_reg (by kernel_rfl) ?_
  refine ar_call [] (pc_65) rfl rfl rfl rfl rfl rfl trivial (.inl rfl) rfl rfl rfl ?_
  refine ar_assign rfl rfl rfl rfl ?_
  refine ar_nil ?_
  refine then_n ?_
  refine wp_seq ?_
  refine wp_seq ?_
  refine wp_reg (by kernel_rfl) ?_
  refine ar_lda tab_ok rfl rfl rfl tb27 rfl rfl rfl rfl rfl rfl ?_
  refine ar_lda tab_ok rfl rfl rfl tb101 rfl rfl rfl rfl rfl rfl ?_
  refine ar_callE [] (pce_66 a t hf htf.il htf.nl) rfl rfl rfl rfl rfl rfl trivial (.inl rfl) rfl rfl rfl ?_
  rintro _ ⟨b16, rfl, hb16⟩
  refine ar_split (fun h16 => ?_) (fun h16 => ?_)
  · refine ar_not rfl rfl rfl rfl rfl ?_
    refine ar_nil ?_
    refine then_n ?_
    refine wp_condF rfl ?_
    refine wp_skip ?_
    refine then_n ?_
    refine wp_seq ?_
    have hg := (hb16 h16).1
    have hbd := hg.bd
    have hz := (hb16 h16).2.sz (by decide)
    obtain ⟨hsz, hsn, hsn2⟩ := shrT_rok a hz hn hn2
    refine wp_reg (by kernel_rfl) ?_
    refine ar_lda tab_ok rfl rfl rfl tb27 rfl rfl rfl rfl rfl rfl ?_
    refine ar_lda tab_ok rfl rfl rfl tb101 rfl rfl rfl rfl rfl rfl ?_
    refine ar_call [] (pc_67 a t hf hbd hz hn hn2) rfl rfl rfl rfl rfl rfl trivial (.inl rfl) rfl rfl rfl ?_
    refine ar_move rfl rfl rfl rfl ?_
    refine ar_ext rfl rfl rfl rfl rfl ?_
    refine ar_ext rfl rfl rfl rfl rfl ?_
    refine ar_alloc (id := 6) tab_ok rfl rfl tb101 rfl rfl rfl rfl ?_
    refine ar_st [] tab_ok rfl tb101 rfl rfl rfl trivial rfl rfl rfl rfl rfl rfl rfl rfl ?_
    refine ar_assign rfl rfl rfl rfl ?_
    refine ar_nil ?_
    refine then_n ?_
    refine wp_seq ?_
    refine wp_seq ?_
    refine wp_reg (by kernel_rfl) ?_
    refine ar_lda tab_ok rfl rfl rfl tb27 rfl rfl rfl rfl rfl rfl ?_
    refine ar_lda tab_ok rfl rfl rfl tb101 rfl rfl rfl rfl rfl rfl ?_
    refine ar_call [] (pc_68 a t hf hg hz hn hn2) rfl rfl rfl rfl rfl rfl trivial (.inl rfl) rfl rfl rfl ?_
    refine ar_neq_s rfl rfl rfl rfl rfl (fun h28 => ?_) (fun h28 => ?_)
    · refine ar_nil ?_
      refine then_n ?_
      refine wp_condT rfl ?_
      refine wp_seq ?_
      refine wp_reg (by kernel_rfl) ?_
      refine ar_move rfl rfl rfl rfl ?_
      refine ar_move rfl rfl rfl rfl ?_
      refine ar_move rfl rfl rfl rfl ?_
      refine ar_lda tab_ok rfl rfl rfl tb27 rfl rfl rfl rfl rfl rfl ?_
      refine ar_lda tab_ok rfl rfl rfl tb101 rfl rfl rfl rfl rfl rfl ?_
      refine ar_call [] (pc_68 a t hf hg hz hn hn2) rfl rfl rfl rfl rfl rfl trivial (.inl rfl) rfl rfl rfl ?_
      refine ar_eql rfl rfl rfl (decide_eq_true (by rfl)) rfl rfl ?_
      refine ar_pickT rfl rfl rfl rfl rfl ?_
      refine ar_move rfl rfl rfl rfl ?_
      refine ar_lda tab_ok rfl rfl rfl tb101 rfl rfl rfl rfl rfl rfl ?_
      refine ar_build [] tab_ok rfl tb101 rfl rfl trivial rfl rfl rfl rfl rfl rfl ?_
      refine ar_call [] (pc_69 (shrT a t) ⟨0, [], []⟩ hsz tr0_sz) rfl rfl rfl rfl rfl rfl trivial (.inl rfl) rfl rfl rfl ?_
      refine ar_to (d' := .v (.bool true)) (by rw [sameT_iff.2 (shrT_no h28)]) ?_
      refine ar_pickT rfl rfl rfl rfl rfl ?_
      refine ar_assign rfl rfl rfl rfl ?_
      refine ar_nil ?_
      refine then_n ?_
      refine wp_ret ?_
      refine then_r (ret_post rfl rfl ?_)
      rfl
    · refine ar_nil ?_
      refine then_n ?_
      refine wp_condF rfl ?_
      refine wp_skip ?_
      refine then_n ?_
      refine wp_seq ?_
      refine wp_seq ?_
      have hw : ternaryT a t = 0 := Decidable.not_not.1 h28
      have ho := okt_of (rightT_iff.1 (ternary0.1 hw).1) hn hn2
      have hso := shrT_ok ho hw
      refine wp_reg (by kernel_rfl) ?_
      refine ar_move rfl rfl rfl rfl ?_
      refine ar_neq rfl rfl rfl (decide_eq_false (by exact h28)) rfl rfl ?_
      refine ar_move rfl rfl rfl rfl ?_
      refine ar_lda tab_ok rfl rfl rfl tb27 rfl rfl rfl rfl rfl rfl ?_
      refine ar_lda tab_ok rfl rfl rfl tb101 rfl rfl rfl rfl rfl rfl ?_
      refine ar_call [] (pc_68 a (shrT a t) hf hg hsz hsn hsn2) rfl rfl rfl rfl rfl rfl trivial (.inl rfl) rfl rfl rfl ?_
      refine ar_neq rfl rfl rfl (decide_eq_false (by exact fun h => h (shrT_w ho hw))) rfl rfl ?_
      refine ar_pickF rfl rfl rfl rfl rfl ?_
      refine ar_move rfl rfl rfl rfl ?_
      refine ar_fa tab_ok rfl rfl rfl tb101 rfl rfl rfl rfl rfl ?_
      refine ar_ld tab_ok rfl rfl rfl tb3 rfl rfl rfl rfl rfl ?_
      refine ar_fa tab_ok rfl rfl rfl tb101 rfl rfl rfl rfl rfl ?_
      refine ar_ld tab_ok rfl rfl rfl tb3 rfl rfl rfl rfl rfl ?_
      refine ar_neq rfl rfl rfl (decide_eq_false (by exact fun h => h (shrT_bad hw))) rfl rfl ?_
      refine ar_pickF rfl rfl rfl rfl rfl ?_
      refine ar_move rfl rfl rfl rfl ?_
      refine ar_fa tab_ok rfl rfl rfl tb101 rfl rfl rfl rfl rfl ?_
      refine ar_ld tab_ok rfl rfl rfl tb99 rfl rfl rfl rfl rfl ?_
      refine ar_len tab_ok rfl rfl tb99 rfl len_map rfl rfl ?_
      refine ar_fa tab_ok rfl rfl rfl tb101 rfl rfl rfl rfl rfl ?_
      refine ar_ld tab_ok rfl rfl rfl tb99 rfl rfl rfl rfl rfl ?_
      refine ar_len tab_ok rfl rfl tb99 rfl len_map rfl rfl ?_
      refine ar_neq rfl rfl rfl (decide_eq_false (by exact fun h => h (by rw [shrT_n ho hw]))) rfl rfl ?_
      refine ar_pickF rfl rfl rfl rfl rfl ?_
      refine ar_move rfl rfl rfl rfl ?_
      refine ar_lda tab_ok rfl rfl rfl tb101 rfl rfl rfl rfl rfl rfl ?_
      refine ar_lda tab_ok rfl rfl rfl tb101 rfl rfl rfl rfl rfl rfl ?_
      refine ar_call [] (pc_70 (shrT a t) t hsz hz) rfl rfl rfl rfl rfl rfl trivial (.inl rfl) rfl rfl rfl ?_
      refine ar_to (d' := .v (.bool true)) (by rw [undT_iff.2 (shrT_low ho hw)]) ?_
      refine ar_not rfl rfl rfl rfl rfl ?_
      refine ar_pickF rfl rfl rfl rfl rfl ?_
      refine ar_nil ?_
      refine then_n ?_
      refine wp_condF rfl ?_
      refine wp_skip ?_
      refine then_n ?_
      refine wp_seq ?_
      refine wp_seq ?_
      refine wp_reg (by kernel_rfl) ?_
      refine ar_assign rfl rfl rfl rfl ?_
      refine ar_nil ?_
      refine then_n ?_
      refine wp_block ?_
      refine wp_loop (α := Nat) (fun j => mk [(2, .ptr 2 0), (5, .v (.bool true)), (6, .ptr 6 0), (8, .v (.int .i64 (j : Nat)))] [(2, .box ((encA a).map .v)), (6, .box ((encT (shrT a t)).map .v))] 0) (fun j => (j : Int) ≤ (j : Int)) (fun j => (manyP a (shrT a t)).toNat - j) 0 (Int.le_refl _) (le_to ⟨rfl, rfl, rfl, rfl, trivial⟩ ⟨rfl, rfl, trivial⟩ rfl rfl rfl rfl) ?_
      rintro j _
      have hmb := mulb (x := a.i) (y := ((shrT a t).ins.length : Nat)) hbd.i0 (by have := hbd.i1; omega) (by omega) (by have := hsz.nl; omega)
      have hcl := cntL_le a.l a.l.length
      have hl1 := hbd.l1
      have hmm : manyP a (shrT a t) ≤ 2000000000000 := by unfold manyP; omega
      refine wp_seq ?_
      refine wp_seq ?_
      refine wp_reg (by kernel_rfl) ?_
      refine ar_move rfl rfl rfl rfl ?_
      refine ar_lda tab_ok rfl rfl rfl tb27 rfl rfl rfl rfl rfl rfl ?_
      refine ar_lda tab_ok rfl rfl rfl tb101 rfl rfl rfl rfl rfl rfl ?_
      refine ar_call [] (pc_71 a (shrT a t) hf hbd hsz) rfl rfl rfl rfl rfl rfl trivial (.inl rfl) rfl rfl rfl ?_
      refine ar_lss_s rfl rfl rfl rfl rfl (fun h76 => ?_) (fun h76 => ?_)
      · refine ar_nil ?_
        refine then_n ?_
        refine wp_condT rfl ?_
        refine wp_skip ?_
        refine then_n ?_
        refine wp_seq ?_
        refine wp_block ?_
        refine wp_seq ?_
        refine wp_reg (by kernel_rfl) ?_
        refine ar_lda tab_ok rfl rfl rfl tb27 rfl rfl rfl rfl rfl rfl ?_
        refine ar_lda tab_ok rfl rfl rfl tb101 rfl rfl rfl rfl rfl rfl ?_
        refine ar_move rfl rfl rfl rfl ?_
        refine ar_call [] (pc_72 a (shrT a t) j hf hbd hsz hso.r (by omega)) rfl rfl rfl rfl rfl rfl trivial (.inl rfl) rfl rfl rfl ?_
        refine ar_move rfl rfl rfl rfl ?_
        refine ar_ext rfl rfl rfl rfl rfl ?_
        refine ar_ext rfl rfl rfl rfl rfl ?_
        refine ar_alloc (id := 9) tab_ok rfl rfl tb101 rfl rfl rfl rfl ?_
        refine ar_st [] tab_ok rfl tb101 rfl rfl rfl trivial rfl rfl rfl rfl rfl rfl rfl rfl ?_
        refine ar_assign rfl rfl rfl rfl ?_
        refine ar_nil ?_
        refine then_n ?_
        refine wp_seq ?_
        have hpm := placeAt_mem hbd.i0 hso.r (n := j) (by omega)
        obtain ⟨haz, han, han2⟩ := atT_rok hsz hsn hsn2 (placeAt a (shrT a t) j)
        refine wp_reg (by kernel_rfl) ?_
        refine ar_move rfl rfl rfl rfl ?_
        refine ar_neq_s rfl rfl rfl rfl rfl (fun h87 => ?_) (fun h87 => ?_)
        · refine ar_move rfl rfl rfl rfl ?_
          refine ar_lda tab_ok rfl rfl rfl tb27 rfl rfl rfl rfl rfl rfl ?_
          refine ar_lda tab_ok rfl rfl rfl tb101 rfl rfl rfl rfl rfl rfl ?_
          refine ar_call [] (pc_68 a (atT (shrT a t) (placeAt a (shrT a t) j)) hf hg haz han han2) rfl rfl rfl rfl rfl rfl trivial (.inl rfl) rfl rfl rfl ?_
          refine ar_eql rfl rfl rfl (decide_eq_false (by exact shrT_least ho hw hpm h87)) rfl rfl ?_
          refine ar_pickT rfl rfl rfl rfl rfl ?_
          refine ar_nil ?_
          refine then_n ?_
          refine wp_condF rfl ?_
          refine wp_skip ?_
          refine inblk_n ?_
          refine then_n ?_
          refine wp_reg (by kernel_rfl) ?_
          refine ar_move rfl rfl rfl rfl ?_
          refine ar_addi rfl rfl rfl rfl (by omega) (by omega) rfl rfl ?_
          refine ar_assign rfl rfl rfl rfl ?_
          refine ar_nil ?_
          exact loop_n (j + 1) (Int.le_refl _) (by omega) (le_to ⟨rfl, rfl, rfl, rfl, trivial⟩ ⟨rfl, rfl, trivial⟩ rfl rfl rfl rfl)
        · refine ar_move rfl rfl rfl rfl ?_
          refine ar_skip rfl rfl ?_
          refine ar_skip rfl rfl ?_
          refine ar_skip rfl rfl ?_
          refine ar_skip rfl rfl ?_
          refine ar_pickF rfl rfl rfl rfl rfl ?_
          refine ar_nil ?_
          refine then_n ?_
          refine wp_condF rfl ?_
          refine wp_skip ?_
          refine inblk_n ?_
          refine then_n ?_
          refine wp_reg (by kernel_rfl) ?_
          refine ar_move rfl rfl rfl rfl ?_
          refine ar_addi rfl rfl rfl rfl (by omega) (by omega) rfl rfl ?_
          refine ar_assign rfl rfl rfl rfl ?_
          refine ar_nil ?_
          exact loop_n (j + 1) (Int.le_refl _) (by omega) (le_to ⟨rfl, rfl, rfl, rfl, trivial⟩ ⟨rfl, rfl, trivial⟩ rfl rfl rfl rfl)
      · refine ar_nil ?_
        refine then_n ?_
        refine wp_condF rfl ?_
        refine wp_exit ?_
        refine then_x (loop_x (inblk_e ?_))
        refine then_n ?_
        refine wp_seq ?_
        refine wp_reg (by kernel_rfl) ?_
        refine ar_lda tab_ok rfl rfl rfl tb27 rfl rfl rfl rfl rfl rfl ?_
        refine ar_lda tab_ok rfl rfl rfl tb101 rfl rfl rfl rfl rfl rfl ?_
        refine ar_call [] (pc_67 a (shrT a t) hf hbd hsz hsn hsn2) rfl rfl rfl rfl rfl rfl trivial (.inl rfl) rfl rfl rfl ?_
        refine ar_to (d' := .v (.tup [trV (shrT a t), .int .i64 0])) (by rw [shrT_again ho hw, shrT_w ho hw]) ?_
        refine ar_move rfl rfl rfl rfl ?_
        refine ar_ext rfl rfl rfl rfl rfl ?_
        refine ar_ext rfl rfl rfl rfl rfl ?_
        refine ar_alloc (id := 11) tab_ok rfl rfl tb101 rfl rfl rfl rfl ?_
        refine ar_st [] tab_ok rfl tb101 rfl rfl rfl trivial rfl rfl rfl rfl rfl rfl rfl rfl ?_
        refine ar_assign rfl rfl rfl rfl ?_
        refine ar_nil ?_
        refine then_n ?_
        refine wp_seq ?_
        refine wp_reg (by kernel_rfl) ?_
        refine ar_move rfl rfl rfl rfl ?_
        refine ar_move rfl rfl rfl rfl ?_
        refine ar_move rfl rfl rfl rfl ?_
        refine ar_eql rfl rfl rfl (decide_eq_true (by rfl)) rfl rfl ?_
        refine ar_pickT rfl rfl rfl rfl rfl ?_
        refine ar_move rfl rfl rfl rfl ?_
        refine ar_lda tab_ok rfl rfl rfl tb101 rfl rfl rfl rfl rfl rfl ?_
        refine ar_lda tab_ok rfl rfl rfl tb101 rfl rfl rfl rfl rfl rfl ?_
        refine ar_call [] (pc_69 (shrT a t) (shrT a t) hsz hsz) rfl rfl rfl rfl rfl rfl trivial (.inl rfl) rfl rfl rfl ?_
        refine ar_to (d' := .v (.bool true)) (by rw [sameT_iff.2 rfl]) ?_
        refine ar_pickT rfl rfl rfl rfl rfl ?_
        refine ar_move rfl rfl rfl rfl ?_
        refine ar_lda tab_ok rfl rfl rfl tb27 rfl rfl rfl rfl rfl rfl ?_
        refine ar_lda tab_ok rfl rfl rfl tb101 rfl rfl rfl rfl rfl rfl ?_
        refine ar_call [] (pc_73 a (shrT a t) hf hbd hsz hsn hsn2) rfl rfl rfl rfl rfl rfl trivial (.inl rfl) rfl rfl rfl ?_
        refine ar_to (d' := .v (.bool true)) (by rw [shrT_isLeast ho hw]) ?_
        refine ar_pickT rfl rfl rfl rfl rfl ?_
        refine ar_assign rfl rfl rfl rfl ?_
        refine ar_nil ?_
        refine then_n ?_
        refine wp_ret ?_
        refine ret_post rfl rfl ?_
        rfl
  · refine ar_not rfl rfl rfl rfl rfl ?_
    refine ar_nil ?_
    refine then_n ?_
    refine wp_condT rfl ?_
    refine wp_seq ?_
    refine wp_reg (by kernel_rfl) ?_
    refine ar_move rfl rfl rfl rfl ?_
    refine ar_assign rfl rfl rfl rfl ?_
    refine ar_nil ?_
    refine then_n ?_
    refine wp_ret ?_
    refine then_r (ret_post rfl rfl ?_)
    rfl
theorem pc_18 (a : Aig) (t : Trace) (m : List Bool) (hf : Fit a) (htf : FitT t) : PCall Try.prog 18 [aigV a, trV t, slB m] (.bool true) := by
  refine pc_of tab_ok (f := 18) (fn := Try.f18) (N := 66) (rs := [.tmp 6]) (by kernel_rfl) rfl (by kernel_rfl) rfl rfl [(0, .v (aigV a)), (1, .v (trV t)), (2, .v (slB m))] ⟨rfl, rfl, rfl, trivial⟩ rfl rfl ?_
  intro B
  have hn : Nn t.ini := htf.iu.nn
  have hn2 : ∀ r, r ∈ t.ins → Nn r := fun r hr => (htf.ru r hr).nn
  refine wp_seq ?_
  refine wp_reg (by kernel_rfl) ?_
  refine ar_box 3 [] rfl rfl rfl ⟨rfl, trivial⟩ rfl rfl rfl ?_
  refine ar_box 4 [] rfl rfl rfl ⟨rfl, trivial⟩ rfl rfl rfl ?_
  refine ar_assign rfl rfl rfl rfl ?_
  refine ar_nil ?_
  refine then_n ?_
  refine wp_seq ?_
  refine wp_reg (by kernel_rfl) ?_
  refine ar_call [] (pc_65) rfl rfl rfl rfl rfl rfl trivial (.inl rfl) rfl rfl rfl ?_
  refine ar_assign rfl rfl rfl rfl ?_
  refine ar_nil ?_
  refine then_n ?_
  refine wp_seq ?_
  refine wp_seq ?_
  refine wp_reg (by kernel_rfl) ?_
  refine ar_lda tab_ok rfl rfl rfl tb27 rfl rfl rfl rfl rfl rfl ?_
  refine ar_lda tab_ok rfl rfl rfl tb101 rfl rfl rfl rfl rfl rfl ?_
  refine ar_callE [] (pce_66 a t hf htf.il htf.nl) rfl rfl rfl rfl rfl rfl trivial (.inl rfl) rfl rfl rfl ?_
  rintro _ ⟨b14, rfl, hb14⟩
  refine ar_split (fun h14 => ?_) (fun h14 => ?_)
  · refine ar_not rfl rfl rfl rfl rfl ?_
    refine ar_move rfl rfl rfl rfl ?_
    refine ar_move rfl rfl rfl rfl ?_
    refine ar_len tab_ok rfl rfl tb28 rfl len_map rfl rfl ?_
    refine ar_gtr_s rfl rfl rfl rfl rfl (fun h19 => ?_) (fun h19 => ?_)
    · refine ar_pickF rfl rfl rfl rfl rfl ?_
      refine ar_nil ?_
      refine then_n ?_
      refine wp_condT rfl ?_
      refine wp_seq ?_
      refine wp_reg (by kernel_rfl) ?_
      refine ar_move rfl rfl rfl rfl ?_
      refine ar_assign rfl rfl rfl rfl ?_
      refine ar_nil ?_
      refine then_n ?_
      refine wp_ret ?_
      refine then_r (ret_post rfl rfl ?_)
      rfl
    · refine ar_pickF rfl rfl rfl rfl rfl ?_
      refine ar_nil ?_
      refine then_n ?_
      refine wp_condF rfl ?_
      refine wp_skip ?_
      refine then_n ?_
      refine wp_seq ?_
      have hg := (hb14 h14).1
      have hbd := hg.bd
      have hz := (hb14 h14).2.sz (by decide)
      obtain ⟨hsz, hsn, hsn2⟩ := shrT_rok a hz hn hn2
      refine wp_reg (by kernel_rfl) ?_
      refine ar_lda tab_ok rfl rfl rfl tb27 rfl rfl rfl rfl rfl rfl ?_
      refine ar_lda tab_ok rfl rfl rfl tb101 rfl rfl rfl rfl rfl rfl ?_
      refine ar_call [] (pc_67 a t hf hbd hz hn hn2) rfl rfl rfl rfl rfl rfl trivial (.inl rfl) rfl rfl rfl ?_
      refine ar_move rfl rfl rfl rfl ?_
      refine ar_ext rfl rfl rfl rfl rfl ?_
      refine ar_ext rfl rfl rfl rfl rfl ?_
      refine ar_alloc (id := 8) tab_ok rfl rfl tb101 rfl rfl rfl rfl ?_
      refine ar_st [] tab_ok rfl tb101 rfl rfl rfl trivial rfl rfl rfl rfl rfl rfl rfl rfl ?_
      refine ar_assign rfl rfl rfl rfl ?_
      refine ar_nil ?_
      refine then_n ?_
      refine wp_seq ?_
      refine wp_seq ?_
      refine wp_reg (by kernel_rfl) ?_
      refine ar_move rfl rfl rfl rfl ?_
      refine ar_neq_s rfl rfl rfl rfl rfl (fun h29 => ?_) (fun h29 => ?_)
      · refine ar_nil ?_
        refine then_n ?_
        refine wp_condT rfl ?_
        refine wp_seq ?_
        refine wp_reg (by kernel_rfl) ?_
        refine ar_move rfl rfl rfl rfl ?_
        refine ar_move rfl rfl rfl rfl ?_
        refine ar_move rfl rfl rfl rfl ?_
        refine ar_eql_s rfl rfl rfl rfl rfl (fun h33 => ?_) (fun h33 => ?_)
        · refine ar_move rfl rfl rfl rfl ?_
          refine ar_skip rfl rfl ?_
          refine ar_skip rfl rfl ?_
          refine ar_pickT rfl rfl rfl rfl rfl ?_
          refine ar_pickT rfl rfl rfl rfl rfl ?_
          refine ar_assign rfl rfl rfl rfl ?_
          refine ar_nil ?_
          refine then_n ?_
          refine wp_ret ?_
          refine then_r (ret_post rfl rfl ?_)
          rfl
        · refine ar_move rfl rfl rfl rfl ?_
          refine ar_move rfl rfl rfl rfl ?_
          refine ar_eql rfl rfl rfl (decide_eq_true (by have := ternary_cases a t; omega)) rfl rfl ?_
          refine ar_pickF rfl rfl rfl rfl rfl ?_
          refine ar_pickT rfl rfl rfl rfl rfl ?_
          refine ar_assign rfl rfl rfl rfl ?_
          refine ar_nil ?_
          refine then_n ?_
          refine wp_ret ?_
          refine then_r (ret_post rfl rfl ?_)
          rfl
      · refine ar_nil ?_
        refine then_n ?_
        refine wp_condF rfl ?_
        refine wp_skip ?_
        refine then_n ?_
        refine wp_seq ?_
        have hw : ternaryT a t = 0 := Decidable.not_not.1 h29
        have ho := okt_of (rightT_iff.1 (ternary0.1 hw).1) hn hn2
        have hso := shrT_ok ho hw
        have hfu := okt_fill hso m
        have hfz := fill_sz hsz m
        refine wp_reg (by kernel_rfl) ?_
        refine ar_lda tab_ok rfl rfl rfl tb101 rfl rfl rfl rfl rfl rfl ?_
        refine ar_move rfl rfl rfl rfl ?_
        refine ar_call [] (pc_74 (shrT a t) m hsz (by omega)) rfl rfl rfl rfl rfl rfl trivial (.inl rfl) rfl rfl rfl ?_
        refine ar_alloc (id := 10) tab_ok rfl rfl tb101 rfl rfl rfl rfl ?_
        refine ar_st [] tab_ok rfl tb101 rfl rfl rfl trivial rfl rfl rfl rfl rfl rfl rfl rfl ?_
        refine ar_nil ?_
        refine then_n ?_
        refine wp_seq ?_
        refine wp_seq ?_
        refine wp_reg (by kernel_rfl) ?_
        refine ar_lda tab_ok rfl rfl rfl tb27 rfl rfl rfl rfl rfl rfl ?_
        refine ar_lda tab_ok rfl rfl rfl tb101 rfl rfl rfl rfl rfl rfl ?_
        refine ar_call [] (pc_68 a (fillT (shrT a t) m) hf hg hfz hfu.i.nn (fun r hr => (hfu.n r hr).nn)) rfl rfl rfl rfl rfl rfl trivial (.inl rfl) rfl rfl rfl ?_
        refine ar_neq rfl rfl rfl (decide_eq_false (by exact fun h => h (ternary_low hso hfu (fillT_low _ m) (shrT_w ho hw)))) rfl rfl ?_
        refine ar_move rfl rfl rfl rfl ?_
        refine ar_lda tab_ok rfl rfl rfl tb101 rfl rfl rfl rfl rfl rfl ?_
        refine ar_lda tab_ok rfl rfl rfl tb101 rfl rfl rfl rfl rfl rfl ?_
        refine ar_call [] (pc_75 (shrT a t) (fillT (shrT a t) m) hsz hfz) rfl rfl rfl rfl rfl rfl trivial (.inl rfl) rfl rfl rfl ?_
        refine ar_to (d' := .v (.bool true)) (by rw [undT_iff.2 (fillT_low _ m)]) ?_
        refine ar_not rfl rfl rfl rfl rfl ?_
        refine ar_pickF rfl rfl rfl rfl rfl ?_
        refine ar_nil ?_
        refine then_n ?_
        refine wp_condF rfl ?_
        refine wp_skip ?_
        refine then_n ?_
        refine wp_seq ?_
        refine wp_reg (by kernel_rfl) ?_
        refine ar_move rfl rfl rfl rfl ?_
        refine ar_move rfl rfl rfl rfl ?_
        refine ar_move rfl rfl rfl rfl ?_
        refine ar_len tab_ok rfl rfl tb28 rfl len_map rfl rfl ?_
        refine ar_lda tab_ok rfl rfl rfl tb101 rfl rfl rfl rfl rfl rfl ?_
        refine ar_call [] (pc_76 (shrT a t) hsz) rfl rfl rfl rfl rfl rfl trivial (.inl rfl) rfl rfl rfl ?_
        refine ar_lss_s rfl rfl rfl rfl rfl (fun h58 => ?_) (fun h58 => ?_)
        · refine ar_move rfl rfl rfl rfl ?_
          refine ar_skip rfl rfl ?_
          refine ar_skip rfl rfl ?_
          refine ar_skip rfl rfl ?_
          refine ar_skip rfl rfl ?_
          refine ar_pickT rfl rfl rfl rfl rfl ?_
          refine ar_pickT rfl rfl rfl rfl rfl ?_
          refine ar_assign rfl rfl rfl rfl ?_
          refine ar_nil ?_
          refine then_n ?_
          refine wp_ret ?_
          refine ret_post rfl rfl ?_
          rfl
        · refine ar_move rfl rfl rfl rfl ?_
          refine ar_lda tab_ok rfl rfl rfl tb27 rfl rfl rfl rfl rfl rfl ?_
          refine ar_lda tab_ok rfl rfl rfl tb101 rfl rfl rfl rfl rfl rfl ?_
          refine ar_call [] (pc_77 a (fillT (shrT a t) m) hf hg hfz hfu.i.nn (fun r hr => (hfu.n r hr).nn)) rfl rfl rfl rfl rfl rfl trivial (.inl rfl) rfl rfl rfl ?_
          refine ar_eql rfl rfl rfl (decide_eq_true (by exact fill_ok hg hso (by omega) (shrT_w ho hw))) rfl rfl ?_
          refine ar_pickF rfl rfl rfl rfl rfl ?_
          refine ar_pickT rfl rfl rfl rfl rfl ?_
          refine ar_assign rfl rfl rfl rfl ?_
          refine ar_nil ?_
          refine then_n ?_
          refine wp_ret ?_
          refine ret_post rfl rfl ?_
          rfl
  · refine ar_not rfl rfl rfl rfl rfl ?_
    refine ar_move rfl rfl rfl rfl ?_
    refine ar_skip rfl rfl ?_
    refine ar_skip rfl rfl ?_
    refine ar_skip rfl rfl ?_
    refine ar_pickT rfl rfl rfl rfl rfl ?_
    refine ar_nil ?_
    refine then_n ?_
    refine wp_condT rfl ?_
    refine wp_seq ?_
    refine wp_reg (by kernel_rfl) ?_
    refine ar_move rfl rfl rfl rfl ?_
    refine ar_assign rfl rfl rfl rfl ?_
    refine ar_nil ?_
    refine then_n ?_
    refine wp_ret ?_
    refine then_r (ret_post rfl rfl ?_)
    rfl
theorem pc_20 (a : Aig) (t : Trace) (n : Int) (hf : Fit a) (htf : FitT t) : PCall Try.prog 20 [aigV a, trV t, .int .i64 n] (.bool true) := by
  refine pc_of tab_ok (f := 20) (fn := Try.f20) (N := 96) (rs := [.tmp 6]) (by kernel_rfl) rfl (by kernel_rfl) rfl rfl [(0, .v (aigV a)), (1, .v (trV t)), (2, .v (.int .i64 n))] ⟨rfl, rfl, rfl, trivial⟩ rfl rfl ?_
  intro B
  have hn : Nn t.ini := htf.iu.nn
  have hn2 : ∀ r, r ∈ t.ins → Nn r := fun r hr => (htf.ru r hr).nn
  refine wp_seq ?_
  refine wp_reg (by kernel_rfl) ?_
  refine ar_box 3 [] rfl rfl rfl ⟨rfl, trivial⟩ rfl rfl rfl ?_
  refine ar_box 4 [] rfl rfl rfl ⟨rfl, trivial⟩ rfl rfl rfl ?_
  refine ar_assign rfl rfl rfl rfl ?_
  refine ar_nil ?_
  refine then_n ?_
  refine wp_seq ?_
  refine wp_reg (by kernel_rfl) ?_
  refine ar_call [] (pc_65) rfl rfl rfl rfl rfl rfl trivial (.inl rfl) rfl rfl rfl ?_
  refine ar_assign rfl rfl rfl rfl ?_
  refine ar_nil ?_
  refine then_n ?_
  refine wp_seq ?_
  refine wp_seq ?_
  refine wp_reg (by kernel_rfl) ?_
  refine ar_lda tab_ok rfl rfl rfl tb27 rfl rfl rfl rfl rfl rfl ?_
  refine ar_lda tab_ok rfl rfl rfl tb101 rfl rfl rfl rfl rfl rfl ?_
  refine ar_callE [] (pce_66 a t hf htf.il htf.nl) rfl rfl rfl rfl rfl rfl trivial (.inl rfl) rfl rfl rfl ?_
  rintro _ ⟨b18, rfl, hb18⟩
  refine ar_split (fun h18 => ?_) (fun h18 => ?_)
  · refine ar_not rfl rfl rfl rfl rfl ?_
    refine ar_move rfl rfl rfl rfl ?_
    refine ar_lda tab_ok rfl rfl rfl tb27 rfl rfl rfl rfl rfl rfl ?_
    refine ar_lda tab_ok rfl rfl rfl tb101 rfl rfl rfl rfl rfl rfl ?_
    refine ar_call [] (pc_68 a t hf (hb18 h18).1 ((hb18 h18).2.sz (by decide)) hn hn2) rfl rfl rfl rfl rfl rfl trivial (.inl rfl) rfl rfl rfl ?_
    refine ar_neq_s rfl rfl rfl rfl rfl (fun h24 => ?_) (fun h24 => ?_)
    · refine ar_pickF rfl rfl rfl rfl rfl ?_
      refine ar_move rfl rfl rfl rfl ?_
      refine ar_skip rfl rfl ?_
      refine ar_skip rfl rfl ?_
      refine ar_pickT rfl rfl rfl rfl rfl ?_
      refine ar_move rfl rfl rfl rfl ?_
      refine ar_skip rfl rfl ?_
      refine ar_skip rfl rfl ?_
      refine ar_skip rfl rfl ?_
      refine ar_skip rfl rfl ?_
      refine ar_skip rfl rfl ?_
      refine ar_pickT rfl rfl rfl rfl rfl ?_
      refine ar_nil ?_
      refine then_n ?_
      refine wp_condT rfl ?_
      refine wp_seq ?_
      refine wp_reg (by kernel_rfl) ?_
      refine ar_move rfl rfl rfl rfl ?_
      refine ar_assign rfl rfl rfl rfl ?_
      refine ar_nil ?_
      refine then_n ?_
      refine wp_ret ?_
      refine then_r (ret_post rfl rfl ?_)
      rfl
    · refine ar_pickF rfl rfl rfl rfl rfl ?_
      refine ar_move rfl rfl rfl rfl ?_
      refine ar_move rfl rfl rfl rfl ?_
      refine ar_lss_s rfl rfl rfl rfl rfl (fun h28 => ?_) (fun h28 => ?_)
      · refine ar_pickF rfl rfl rfl rfl rfl ?_
        refine ar_move rfl rfl rfl rfl ?_
        refine ar_skip rfl rfl ?_
        refine ar_skip rfl rfl ?_
        refine ar_skip rfl rfl ?_
        refine ar_skip rfl rfl ?_
        refine ar_skip rfl rfl ?_
        refine ar_pickT rfl rfl rfl rfl rfl ?_
        refine ar_nil ?_
        refine then_n ?_
        refine wp_condT rfl ?_
        refine wp_seq ?_
        refine wp_reg (by kernel_rfl) ?_
        refine ar_move rfl rfl rfl rfl ?_
        refine ar_assign rfl rfl rfl rfl ?_
        refine ar_nil ?_
        refine then_n ?_
        refine wp_ret ?_
        refine then_r (ret_post rfl rfl ?_)
        rfl
      · refine ar_pickF rfl rfl rfl rfl rfl ?_
        refine ar_move rfl rfl rfl rfl ?_
        refine ar_move rfl rfl rfl rfl ?_
        refine ar_lda tab_ok rfl rfl rfl tb27 rfl rfl rfl rfl rfl rfl ?_
        refine ar_lda tab_ok rfl rfl rfl tb101 rfl rfl rfl rfl rfl rfl ?_
        refine ar_call [] (pc_71 a t hf (hb18 h18).1.bd ((hb18 h18).2.sz (by decide))) rfl rfl rfl rfl rfl rfl trivial (.inl rfl) rfl rfl rfl ?_
        refine ar_geq_s rfl rfl rfl rfl rfl (fun h35 => ?_) (fun h35 => ?_)
        · refine ar_pickF rfl rfl rfl rfl rfl ?_
          refine ar_nil ?_
          refine then_n ?_
          refine wp_condT rfl ?_
          refine wp_seq ?_
          refine wp_reg (by kernel_rfl) ?_
          refine ar_move rfl rfl rfl rfl ?_
          refine ar_assign rfl rfl rfl rfl ?_
          refine ar_nil ?_
          refine then_n ?_
          refine wp_ret ?_
          refine then_r (ret_post rfl rfl ?_)
          rfl
        · refine ar_pickF rfl rfl rfl rfl rfl ?_
          refine ar_nil ?_
          refine then_n ?_
          refine wp_condF rfl ?_
          refine wp_skip ?_
          refine then_n ?_
          refine wp_seq ?_
          have hg := (hb18 h18).1
          have hbd := hg.bd
          have hz := (hb18 h18).2.sz (by decide)
          obtain ⟨hsz, hsn, hsn2⟩ := shrT_rok a hz hn hn2
          have hw : ternaryT a t = 0 := Decidable.not_not.1 h24
          have ho := okt_of (rightT_iff.1 (ternary0.1 hw).1) hn hn2
          have hso := shrT_ok ho hw
          obtain ⟨k, rfl⟩ := Int.eq_ofNat_of_zero_le (show 0 ≤ n by omega)
          have hk : (k : Int) < manyP a t := by omega
          have hpm := placeAt_mem hbd.i0 ho.r hk
          obtain ⟨haz, han, han2⟩ := atT_rok hz hn hn2 (placeAt a t k)
          have hou := at_ok ho hpm
          obtain ⟨hvz, hvn, hvn2⟩ := shrT_rok a haz han han2
          refine wp_reg (by kernel_rfl) ?_
          refine ar_lda tab_ok rfl rfl rfl tb27 rfl rfl rfl rfl rfl rfl ?_
          refine ar_lda tab_ok rfl rfl rfl tb101 rfl rfl rfl rfl rfl rfl ?_
          refine ar_move rfl rfl rfl rfl ?_
          refine ar_call [] (pc_72 a t k hf hbd hz ho.r hk) rfl rfl rfl rfl rfl rfl trivial (.inl rfl) rfl rfl rfl ?_
          refine ar_move rfl rfl rfl rfl ?_
          refine ar_ext rfl rfl rfl rfl rfl ?_
          refine ar_ext rfl rfl rfl rfl rfl ?_
          refine ar_alloc (id := 8) tab_ok rfl rfl tb101 rfl rfl rfl rfl ?_
          refine ar_st [] tab_ok rfl tb101 rfl rfl rfl trivial rfl rfl rfl rfl rfl rfl rfl rfl ?_
          refine ar_assign rfl rfl rfl rfl ?_
          refine ar_nil ?_
          refine then_n ?_
          refine wp_seq ?_
          refine wp_reg (by kernel_rfl) ?_
          refine ar_lda tab_ok rfl rfl rfl tb27 rfl rfl rfl rfl rfl rfl ?_
          refine ar_lda tab_ok rfl rfl rfl tb101 rfl rfl rfl rfl rfl rfl ?_
          refine ar_call [] (pc_67 a t hf hbd hz hn hn2) rfl rfl rfl rfl rfl rfl trivial (.inl rfl) rfl rfl rfl ?_
          refine ar_move rfl rfl rfl rfl ?_
          refine ar_ext rfl rfl rfl rfl rfl ?_
          refine ar_ext rfl rfl rfl rfl rfl ?_
          refine ar_alloc (id := 10) tab_ok rfl rfl tb101 rfl rfl rfl rfl ?_
          refine ar_st [] tab_ok rfl tb101 rfl rfl rfl trivial rfl rfl rfl rfl rfl rfl rfl rfl ?_
          refine ar_assign rfl rfl rfl rfl ?_
          refine ar_nil ?_
          refine then_n ?_
          refine wp_seq ?_
          refine wp_seq ?_
          refine wp_reg (by kernel_rfl) ?_
          refine ar_move rfl rfl rfl rfl ?_
          refine ar_neq rfl rfl rfl (decide_eq_false (by exact h24)) rfl rfl ?_
          refine ar_nil ?_
          refine then_n ?_
          refine wp_condF rfl ?_
          refine wp_skip ?_
          refine then_n ?_
          refine wp_seq ?_
          refine wp_reg (by kernel_rfl) ?_
          refine ar_lda tab_ok rfl rfl rfl tb27 rfl rfl rfl rfl rfl rfl ?_
          refine ar_lda tab_ok rfl rfl rfl tb101 rfl rfl rfl rfl rfl rfl ?_
          refine ar_call [] (pc_73 a t hf hbd hz hn hn2) rfl rfl rfl rfl rfl rfl trivial (.inl rfl) rfl rfl rfl ?_
          refine ar_assign rfl rfl rfl rfl ?_
          refine ar_nil ?_
          refine then_n ?_
          refine wp_seq ?_
          refine wp_seq ?_
          refine wp_reg (by kernel_rfl) ?_
          refine ar_move rfl rfl rfl rfl ?_
          refine ar_lda tab_ok rfl rfl rfl tb101 rfl rfl rfl rfl rfl rfl ?_
          refine ar_lda tab_ok rfl rfl rfl tb101 rfl rfl rfl rfl rfl rfl ?_
          refine ar_call [] (pc_69 (shrT a t) t hsz hz) rfl rfl rfl rfl rfl rfl trivial (.inl rfl) rfl rfl rfl ?_
          refine ar_to (d' := .v (.bool (leastT a t))) (by rw [least_same ho hw]) ?_
          refine ar_bneq (z := false) tab_ok rfl rfl rfl tb4 rfl (by simp) rfl rfl ?_
          refine ar_nil ?_
          refine then_n ?_
          refine wp_condF rfl ?_
          refine wp_skip ?_
          refine then_n ?_
          refine wp_seq ?_
          refine wp_reg (by kernel_rfl) ?_
          refine ar_lda tab_ok rfl rfl rfl tb27 rfl rfl rfl rfl rfl rfl ?_
          refine ar_lda tab_ok rfl rfl rfl tb101 rfl rfl rfl rfl rfl rfl ?_
          refine ar_call [] (pc_67 a (atT t (placeAt a t k)) hf hbd haz han han2) rfl rfl rfl rfl rfl rfl trivial (.inl rfl) rfl rfl rfl ?_
          refine ar_move rfl rfl rfl rfl ?_
          refine ar_ext rfl rfl rfl rfl rfl ?_
          refine ar_ext rfl rfl rfl rfl rfl ?_
          refine ar_alloc (id := 13) tab_ok rfl rfl tb101 rfl rfl rfl rfl ?_
          refine ar_st [] tab_ok rfl tb101 rfl rfl rfl trivial rfl rfl rfl rfl rfl rfl rfl rfl ?_
          refine ar_assign rfl rfl rfl rfl ?_
          refine ar_nil ?_
          refine then_n ?_
          refine wp_seq ?_
          refine wp_seq ?_
          refine wp_reg (by kernel_rfl) ?_
          refine ar_lda tab_ok rfl rfl rfl tb27 rfl rfl rfl rfl rfl rfl ?_
          refine ar_lda tab_ok rfl rfl rfl tb101 rfl rfl rfl rfl rfl rfl ?_
          refine ar_call [] (pc_68 a (atT t (placeAt a t k)) hf hg haz han han2) rfl rfl rfl rfl rfl rfl trivial (.inl rfl) rfl rfl rfl ?_
          refine ar_neq_s rfl rfl rfl rfl rfl (fun h70 => ?_) (fun h70 => ?_)
          · refine ar_nil ?_
            refine then_n ?_
            refine wp_condT rfl ?_
            refine wp_seq ?_
            refine wp_reg (by kernel_rfl) ?_
            refine ar_move rfl rfl rfl rfl ?_
            refine ar_move rfl rfl rfl rfl ?_
            refine ar_move rfl rfl rfl rfl ?_
            refine ar_eql rfl rfl rfl (decide_eq_true (by exact ternary_right hou h70)) rfl rfl ?_
            refine ar_pickT rfl rfl rfl rfl rfl ?_
            refine ar_assign rfl rfl rfl rfl ?_
            refine ar_nil ?_
            refine then_n ?_
            refine wp_ret ?_
            refine then_r (ret_post rfl rfl ?_)
            rfl
          · refine ar_nil ?_
            refine then_n ?_
            refine wp_condF rfl ?_
            refine wp_skip ?_
            refine then_n ?_
            refine wp_seq ?_
            have hwu := Decidable.not_not.1 h70
            refine wp_reg (by kernel_rfl) ?_
            refine ar_move rfl rfl rfl rfl ?_
            refine ar_move rfl rfl rfl rfl ?_
            refine ar_move rfl rfl rfl rfl ?_
            refine ar_eql rfl rfl rfl (decide_eq_true (by exact hwu)) rfl rfl ?_
            refine ar_pickT rfl rfl rfl rfl rfl ?_
            refine ar_move rfl rfl rfl rfl ?_
            refine ar_lda tab_ok rfl rfl rfl tb101 rfl rfl rfl rfl rfl rfl ?_
            refine ar_lda tab_ok rfl rfl rfl tb101 rfl rfl rfl rfl rfl rfl ?_
            refine ar_call [] (pc_75 (shrT a (atT t (placeAt a t k))) (atT t (placeAt a t k)) hvz haz) rfl rfl rfl rfl rfl rfl trivial (.inl rfl) rfl rfl rfl ?_
            refine ar_to (d' := .v (.bool true)) (by rw [undT_iff.2 (shrT_low hou hwu)]) ?_
            refine ar_pickT rfl rfl rfl rfl rfl ?_
            refine ar_move rfl rfl rfl rfl ?_
            refine ar_lda tab_ok rfl rfl rfl tb101 rfl rfl rfl rfl rfl rfl ?_
            refine ar_lda tab_ok rfl rfl rfl tb101 rfl rfl rfl rfl rfl rfl ?_
            refine ar_call [] (pc_75 (shrT a (atT t (placeAt a t k))) t hvz hz) rfl rfl rfl rfl rfl rfl trivial (.inl rfl) rfl rfl rfl ?_
            refine ar_to (d' := .v (.bool true)) (by rw [undT_iff.2 (shr_at_low ho hpm hwu)]) ?_
            refine ar_pickT rfl rfl rfl rfl rfl ?_
            refine ar_move rfl rfl rfl rfl ?_
            refine ar_lda tab_ok rfl rfl rfl tb27 rfl rfl rfl rfl rfl rfl ?_
            refine ar_lda tab_ok rfl rfl rfl tb101 rfl rfl rfl rfl rfl rfl ?_
            refine ar_call [] (pc_73 a (shrT a (atT t (placeAt a t k))) hf hbd hvz hvn hvn2) rfl rfl rfl rfl rfl rfl trivial (.inl rfl) rfl rfl rfl ?_
            refine ar_to (d' := .v (.bool true)) (by rw [shrT_isLeast hou hwu]) ?_
            refine ar_pickT rfl rfl rfl rfl rfl ?_
            refine ar_assign rfl rfl rfl rfl ?_
            refine ar_nil ?_
            refine then_n ?_
            refine wp_ret ?_
            refine ret_post rfl rfl ?_
            rfl
  · refine ar_not rfl rfl rfl rfl rfl ?_
    refine ar_move rfl rfl rfl rfl ?_
    refine ar_skip rfl rfl ?_
    refine ar_skip rfl rfl ?_
    refine ar_skip rfl rfl ?_
    refine ar_skip rfl rfl ?_
    refine ar_pickT rfl rfl rfl rfl rfl ?_
    refine ar_move rfl rfl rfl rfl ?_
    refine ar_skip rfl rfl ?_
    refine ar_skip rfl rfl ?_
    refine ar_pickT rfl rfl rfl rfl rfl ?_
    refine ar_move rfl rfl rfl rfl ?_
    refine ar_skip rfl rfl ?_
    refine ar_skip rfl rfl ?_
    refine ar_skip rfl rfl ?_
    refine ar_skip rfl rfl ?_
    refine ar_skip rfl rfl ?_
    refine ar_pickT rfl rfl rfl rfl rfl ?_
    refine ar_nil ?_
    refine then_n ?_
    refine wp_condT rfl ?_
    refine wp_seq ?_
    refine wp_reg (by kernel_rfl) ?_
    refine ar_move rfl rfl rfl rfl ?_
    refine ar_assign rfl rfl rfl rfl ?_
    refine ar_nil ?_
    refine then_n ?_
    refine wp_ret ?_
    refine then_r (ret_post rfl rfl ?_)
    rfl
theorem pc_21 (a : Aig) (t : Trace) (hf : Fit a) (htf : FitT t) : PCall Try.prog 21 [aigV a, trV t] (.bool true) := by
  refine pc_of tab_ok (f := 21) (fn := Try.f21) (N := 93) (rs := [.tmp 4]) (by kernel_rfl) rfl (by kernel_rfl) rfl rfl [(0, .v (aigV a)), (1, .v (trV t))] ⟨rfl, rfl, trivial⟩ rfl rfl ?_
  intro B
  have hn : Nn t.ini := htf.iu.nn
  have hn2 : ∀ r, r ∈ t.ins → Nn r := fun r hr => (htf.ru r hr).nn
  refine wp_seq ?_
  refine wp_reg (by kernel_rfl) ?_
  refine ar_box 2 [] rfl rfl rfl ⟨rfl, trivial⟩ rfl rfl rfl ?_
  refine ar_box 3 [] rfl rfl rfl ⟨rfl, trivial⟩ rfl rfl rfl ?_
  refine ar_assign rfl rfl rfl rfl ?_
  refine ar_nil ?_
  refine then_n ?_
  refine wp_seq ?_
  refine wp_reg (by kernel_rfl) ?_
  refine ar_call [] (pc_65) rfl rfl rfl rfl rfl rfl trivial (.inl rfl) rfl rfl rfl ?_
  refine ar_assign rfl rfl rfl rfl ?_
  refine ar_nil ?_
  refine then_n ?_
  refine wp_seq ?_
  refine wp_seq ?_
  refine wp_reg (by kernel_rfl) ?_
  refine ar_lda tab_ok rfl rfl rfl tb27 rfl rfl rfl rfl rfl rfl ?_
  refine ar_lda tab_ok rfl rfl rfl tb101 rfl rfl rfl rfl rfl rfl ?_
  refine ar_callE [] (pce_66 a t hf htf.il htf.nl) rfl rfl rfl rfl rfl rfl trivial (.inl rfl) rfl rfl rfl ?_
  rintro _ ⟨b12, rfl, hb12⟩
  refine ar_split (fun h12 => ?_) (fun h12 => ?_)
  · refine ar_not rfl rfl rfl rfl rfl ?_
    refine ar_nil ?_
    refine then_n ?_
    refine wp_condF rfl ?_
    refine wp_skip ?_
    refine then_n ?_
    refine wp_seq ?_
    have hg := (hb12 h12).1
    have hbd := hg.bd
    have hz := (hb12 h12).2.sz (by decide)
    obtain ⟨hsz, hsn, hsn2⟩ := shrT_rok a hz hn hn2
    refine wp_reg (by kernel_rfl) ?_
    refine ar_lda tab_ok rfl rfl rfl tb27 rfl rfl rfl rfl rfl rfl ?_
    refine ar_lda tab_ok rfl rfl rfl tb101 rfl rfl rfl rfl rfl rfl ?_
    refine ar_call [] (pc_67 a t hf hbd hz hn hn2) rfl rfl rfl rfl rfl rfl trivial (.inl rfl) rfl rfl rfl ?_
    refine ar_move rfl rfl rfl rfl ?_
    refine ar_ext rfl rfl rfl rfl rfl ?_
    refine ar_ext rfl rfl rfl rfl rfl ?_
    refine ar_alloc (id := 6) tab_ok rfl rfl tb101 rfl rfl rfl rfl ?_
    refine ar_st [] tab_ok rfl tb101 rfl rfl rfl trivial rfl rfl rfl rfl rfl rfl rfl rfl ?_
    refine ar_assign rfl rfl rfl rfl ?_
    refine ar_nil ?_
    refine then_n ?_
    refine wp_seq ?_
    refine wp_seq ?_
    refine wp_reg (by kernel_rfl) ?_
    refine ar_move rfl rfl rfl rfl ?_
    refine ar_neq_s rfl rfl rfl rfl rfl (fun h22 => ?_) (fun h22 => ?_)
    · refine ar_nil ?_
      refine then_n ?_
      refine wp_condT rfl ?_
      refine wp_seq ?_
      refine wp_reg (by kernel_rfl) ?_
      refine ar_move rfl rfl rfl rfl ?_
      refine ar_move rfl rfl rfl rfl ?_
      refine ar_lda tab_ok rfl rfl rfl tb27 rfl rfl rfl rfl rfl rfl ?_
      refine ar_lda tab_ok rfl rfl rfl tb101 rfl rfl rfl rfl rfl rfl ?_
      refine ar_call [] (pc_73 a t hf hbd hz hn hn2) rfl rfl rfl rfl rfl rfl trivial (.inl rfl) rfl rfl rfl ?_
      refine ar_to (d' := .v (.bool false)) (by rw [least_no h22]) ?_
      refine ar_not rfl rfl rfl rfl rfl ?_
      refine ar_pickT rfl rfl rfl rfl rfl ?_
      refine ar_assign rfl rfl rfl rfl ?_
      refine ar_nil ?_
      refine then_n ?_
      refine wp_ret ?_
      refine then_r (ret_post rfl rfl ?_)
      rfl
    · refine ar_nil ?_
      refine then_n ?_
      refine wp_condF rfl ?_
      refine wp_skip ?_
      refine then_n ?_
      refine wp_seq ?_
      refine wp_seq ?_
      have hw : ternaryT a t = 0 := Decidable.not_not.1 h22
      have ho := okt_of (rightT_iff.1 (ternary0.1 hw).1) hn hn2
      have hso := shrT_ok ho hw
      refine wp_reg (by kernel_rfl) ?_
      refine ar_assign rfl rfl rfl rfl ?_
      refine ar_nil ?_
      refine then_n ?_
      refine wp_block ?_
      refine wp_loop (α := Nat) (fun j => mk [(2, .ptr 2 0), (3, .ptr 3 0), (5, .v (.bool true)), (6, .ptr 6 0), (8, .v (.int .i64 (j : Nat)))] [(2, .box ((encA a).map .v)), (3, .box ((encT t).map .v)), (6, .box ((encT (shrT a t)).map .v))] 0) (fun j => j ≤ t.ini.length) (fun j => t.ini.length - j) 0 (Nat.zero_le _) (le_to ⟨rfl, rfl, rfl, rfl, rfl, trivial⟩ ⟨rfl, rfl, rfl, trivial⟩ rfl rfl rfl rfl) ?_
      rintro j hinv
      have hil := ho.r.il
      have hsl := pairs_same (shrT_low ho hw).i
      have hzl := hz.il
      refine wp_seq ?_
      refine wp_seq ?_
      refine wp_reg (by kernel_rfl) ?_
      refine ar_move rfl rfl rfl rfl ?_
      refine ar_fa tab_ok rfl rfl rfl tb101 rfl rfl rfl rfl rfl ?_
      refine ar_ld tab_ok rfl rfl rfl tb70 rfl rfl rfl rfl rfl ?_
      refine ar_len tab_ok rfl rfl tb70 rfl len_map rfl rfl ?_
      refine ar_lss_s rfl rfl rfl rfl rfl (fun h34 => ?_) (fun h34 => ?_)
      · refine ar_nil ?_
        refine then_n ?_
        refine wp_condT rfl ?_
        refine wp_skip ?_
        refine then_n ?_
        refine wp_seq ?_
        refine wp_block ?_
        refine wp_seq ?_
        refine wp_draw (L := [([], []), ([6], []), ([6], []), ([], []), ([], []), ([], []), ([2], []), ([2], []), ([], []), ([], []), ([], []), ([], []), ([], []), ([], []), ([6], []), ([6], []), ([], []), ([], []), ([], []), ([3], []), ([3], []), ([], []), ([], []), ([], []), ([], []), ([], []), ([], []), ([], []), ([3], []), ([3], []), ([], []), ([], []), ([], []), ([], []), ([], []), ([6], []), ([6], []), ([], []), ([], []), ([], []), ([], []), ([], []), ([], [])]) (by kernel_rfl) mixed (by kernel_rfl) ?_
        refine ar_move rfl rfl rfl rfl ?_
        refine ar_fa tab_ok rfl rfl rfl tb101 rfl rfl rfl rfl rfl ?_
        refine ar_ld tab_ok rfl rfl rfl tb70 rfl rfl rfl rfl rfl ?_
        refine ar_len tab_ok rfl rfl tb70 rfl len_map rfl rfl ?_
        refine ar_geq rfl rfl rfl (decide_eq_false (by omega)) rfl rfl ?_
        refine ar_move rfl rfl rfl rfl ?_
        refine ar_fa tab_ok rfl rfl rfl tb27 rfl rfl rfl rfl rfl ?_
        refine ar_ld tab_ok rfl rfl rfl tb22 rfl rfl rfl rfl rfl ?_
        refine ar_move rfl rfl rfl rfl ?_
        refine ar_ia tab_ok rfl rfl rfl tb22 rfl tb63 (by omega) (map_get (n := j) (by omega)) rfl rfl rfl ?_
        refine ar_fa_ref tab_ok rfl rfl tb63 rfl rfl rfl rfl ?_
        refine ar_ld_ref tab_ok rfl rfl tb3 rfl rfl rfl rfl ?_
        refine ar_lss_s rfl rfl rfl rfl rfl (fun h49 => ?_) (fun h49 => ?_)
        · refine ar_move rfl rfl rfl rfl ?_
          refine ar_fa tab_ok rfl rfl rfl tb101 rfl rfl rfl rfl rfl ?_
          refine ar_ld tab_ok rfl rfl rfl tb70 rfl rfl rfl rfl rfl ?_
          refine ar_move rfl rfl rfl rfl ?_
          refine ar_ia tab_ok rfl rfl rfl tb70 rfl tb72 (by omega) (map_get (n := j) (by omega)) rfl rfl rfl ?_
          refine ar_ld_ref tab_ok rfl rfl tb72 rfl rfl rfl rfl ?_
          refine ar_fa tab_ok rfl rfl rfl tb101 rfl rfl rfl rfl rfl ?_
          refine ar_ld tab_ok rfl rfl rfl tb70 rfl rfl rfl rfl rfl ?_
          refine ar_move rfl rfl rfl rfl ?_
          refine ar_ia tab_ok rfl rfl rfl tb70 rfl tb72 (by omega) (map_get (n := j) (by omega)) rfl rfl rfl ?_
          refine ar_ld_ref tab_ok rfl rfl tb72 rfl rfl rfl rfl ?_
          refine ar_neq rfl rfl rfl (decide_eq_false (by exact fun h => h (shrT_fixed ho hw (decide_eq_false (by omega))))) rfl rfl ?_
          refine ar_pickT rfl rfl rfl rfl rfl ?_
          refine ar_pickF rfl rfl rfl rfl rfl ?_
          refine ar_move rfl rfl rfl rfl ?_
          refine ar_fa tab_ok rfl rfl rfl tb101 rfl rfl rfl rfl rfl ?_
          refine ar_ld tab_ok rfl rfl rfl tb70 rfl rfl rfl rfl rfl ?_
          refine ar_move rfl rfl rfl rfl ?_
          refine ar_ia tab_ok rfl rfl rfl tb70 rfl tb72 (by omega) (map_get (n := j) (by omega)) rfl rfl rfl ?_
          refine ar_ld_ref tab_ok rfl rfl tb72 rfl rfl rfl rfl ?_
          refine ar_eql_s rfl rfl rfl rfl rfl (fun h70 => ?_) (fun h70 => ?_)
          · refine ar_move rfl rfl rfl rfl ?_
            refine ar_fa tab_ok rfl rfl rfl tb101 rfl rfl rfl rfl rfl ?_
            refine ar_ld tab_ok rfl rfl rfl tb70 rfl rfl rfl rfl rfl ?_
            refine ar_move rfl rfl rfl rfl ?_
            refine ar_ia tab_ok rfl rfl rfl tb70 rfl tb72 (by omega) (map_get (n := j) (by omega)) rfl rfl rfl ?_
            refine ar_ld_ref tab_ok rfl rfl tb72 rfl rfl rfl rfl ?_
            refine ar_neq rfl rfl rfl (decide_eq_false (by have := low_iff.1 (low_get (shrT_low ho hw).i j); omega)) rfl rfl ?_
            refine ar_pickT rfl rfl rfl rfl rfl ?_
            refine ar_pickF rfl rfl rfl rfl rfl ?_
            refine ar_nil ?_
            refine then_n ?_
            refine wp_condF rfl ?_
            refine wp_skip ?_
            refine inblk_n ?_
            refine then_n ?_
            refine wp_reg (by kernel_rfl) ?_
            refine ar_move rfl rfl rfl rfl ?_
            refine ar_addi rfl rfl rfl rfl (by omega) (by omega) rfl rfl ?_
            refine ar_assign rfl rfl rfl rfl ?_
            refine ar_nil ?_
            exact loop_n (j + 1) (by omega) (by omega) (le_to ⟨rfl, rfl, rfl, rfl, rfl, trivial⟩ ⟨rfl, rfl, rfl, trivial⟩ rfl rfl rfl rfl)
          · refine ar_move rfl rfl rfl rfl ?_
            refine ar_skip rfl rfl ?_
            refine ar_skip rfl rfl ?_
            refine ar_skip rfl rfl ?_
            refine ar_skip rfl rfl ?_
            refine ar_skip rfl rfl ?_
            refine ar_skip rfl rfl ?_
            refine ar_pickF rfl rfl rfl rfl rfl ?_
            refine ar_pickF rfl rfl rfl rfl rfl ?_
            refine ar_nil ?_
            refine then_n ?_
            refine wp_condF rfl ?_
            refine wp_skip ?_
            refine inblk_n ?_
            refine then_n ?_
            refine wp_reg (by kernel_rfl) ?_
            refine ar_move rfl rfl rfl rfl ?_
            refine ar_addi rfl rfl rfl rfl (by omega) (by omega) rfl rfl ?_
            refine ar_assign rfl rfl rfl rfl ?_
            refine ar_nil ?_
            exact loop_n (j + 1) (by omega) (by omega) (le_to ⟨rfl, rfl, rfl, rfl, rfl, trivial⟩ ⟨rfl, rfl, rfl, trivial⟩ rfl rfl rfl rfl)
        · refine ar_move rfl rfl rfl rfl ?_
          refine ar_skip rfl rfl ?_
          refine ar_skip rfl rfl ?_
          refine ar_skip rfl rfl ?_
          refine ar_skip rfl rfl ?_
          refine ar_skip rfl rfl ?_
          refine ar_skip rfl rfl ?_
          refine ar_skip rfl rfl ?_
          refine ar_skip rfl rfl ?_
          refine ar_skip rfl rfl ?_
          refine ar_skip rfl rfl ?_
          refine ar_skip rfl rfl ?_
          refine ar_pickF rfl rfl rfl rfl rfl ?_
          refine ar_pickF rfl rfl rfl rfl rfl ?_
          refine ar_move rfl rfl rfl rfl ?_
          refine ar_fa tab_ok rfl rfl rfl tb101 rfl rfl rfl rfl rfl ?_
          refine ar_ld tab_ok rfl rfl rfl tb70 rfl rfl rfl rfl rfl ?_
          refine ar_move rfl rfl rfl rfl ?_
          refine ar_ia tab_ok rfl rfl rfl tb70 rfl tb72 (by omega) (map_get (n := j) (by omega)) rfl rfl rfl ?_
          refine ar_ld_ref tab_ok rfl rfl tb72 rfl rfl rfl rfl ?_
          refine ar_eql_s rfl rfl rfl rfl rfl (fun h70 => ?_) (fun h70 => ?_)
          · refine ar_move rfl rfl rfl rfl ?_
            refine ar_fa tab_ok rfl rfl rfl tb101 rfl rfl rfl rfl rfl ?_
            refine ar_ld tab_ok rfl rfl rfl tb70 rfl rfl rfl rfl rfl ?_
            refine ar_move rfl rfl rfl rfl ?_
            refine ar_ia tab_ok rfl rfl rfl tb70 rfl tb72 (by omega) (map_get (n := j) (by omega)) rfl rfl rfl ?_
            refine ar_ld_ref tab_ok rfl rfl tb72 rfl rfl rfl rfl ?_
            refine ar_neq rfl rfl rfl (decide_eq_false (by have := low_iff.1 (low_get (shrT_low ho hw).i j); omega)) rfl rfl ?_
            refine ar_pickT rfl rfl rfl rfl rfl ?_
            refine ar_pickF rfl rfl rfl rfl rfl ?_
            refine ar_nil ?_
            refine then_n ?_
            refine wp_condF rfl ?_
            refine wp_skip ?_
            refine inblk_n ?_
            refine then_n ?_
            refine wp_reg (by kernel_rfl) ?_
            refine ar_move rfl rfl rfl rfl ?_
            refine ar_addi rfl rfl rfl rfl (by omega) (by omega) rfl rfl ?_
            refine ar_assign rfl rfl rfl rfl ?_
            refine ar_nil ?_
            exact loop_n (j + 1) (by omega) (by omega) (le_to ⟨rfl, rfl, rfl, rfl, rfl, trivial⟩ ⟨rfl, rfl, rfl, trivial⟩ rfl rfl rfl rfl)
          · refine ar_move rfl rfl rfl rfl ?_
            refine ar_skip rfl rfl ?_
            refine ar_skip rfl rfl ?_
            refine ar_skip rfl rfl ?_
            refine ar_skip rfl rfl ?_
            refine ar_skip rfl rfl ?_
            refine ar_skip rfl rfl ?_
            refine ar_pickF rfl rfl rfl rfl rfl ?_
            refine ar_pickF rfl rfl rfl rfl rfl ?_
            refine ar_nil ?_
            refine then_n ?_
            refine wp_condF rfl ?_
            refine wp_skip ?_
            refine inblk_n ?_
            refine then_n ?_
            refine wp_reg (by kernel_rfl) ?_
            refine ar_move rfl rfl rfl rfl ?_
            refine ar_addi rfl rfl rfl rfl (by omega) (by omega) rfl rfl ?_
            refine ar_assign rfl rfl rfl rfl ?_
            refine ar_nil ?_
            exact loop_n (j + 1) (by omega) (by omega) (le_to ⟨rfl, rfl, rfl, rfl, rfl, trivial⟩ ⟨rfl, rfl, rfl, trivial⟩ rfl rfl rfl rfl)
      · refine ar_nil ?_
        refine then_n ?_
        refine wp_condF rfl ?_
        refine wp_exit ?_
        refine then_x (loop_x (inblk_e ?_))
        refine then_n ?_
        refine wp_seq ?_
        refine wp_draw (L := [([], []), ([], []), ([6], []), ([], []), ([3], []), ([], []), ([], []), ([], []), ([], []), ([2], []), ([6], []), ([], []), ([], []), ([], [])]) (by kernel_rfl) mixed (by kernel_rfl) ?_
        refine ar_move rfl rfl rfl rfl ?_
        refine ar_move rfl rfl rfl rfl ?_
        refine ar_lda tab_ok rfl rfl rfl tb101 rfl rfl rfl rfl rfl rfl ?_
        refine ar_call [] (pc_76 (shrT a t) hsz) rfl rfl rfl rfl rfl rfl trivial (.inl rfl) rfl rfl rfl ?_
        refine ar_lda tab_ok rfl rfl rfl tb101 rfl rfl rfl rfl rfl rfl ?_
        refine ar_call [] (pc_76 t hz) rfl rfl rfl rfl rfl rfl trivial (.inl rfl) rfl rfl rfl ?_
        refine ar_geq rfl rfl rfl (decide_eq_true (by have := holes_low (shrT_low ho hw); omega)) rfl rfl ?_
        refine ar_pickT rfl rfl rfl rfl rfl ?_
        refine ar_move rfl rfl rfl rfl ?_
        refine ar_lda tab_ok rfl rfl rfl tb27 rfl rfl rfl rfl rfl rfl ?_
        refine ar_lda tab_ok rfl rfl rfl tb101 rfl rfl rfl rfl rfl rfl ?_
        refine ar_call [] (pc_79 a (shrT a t) hf hsn (by have := hsz.il; omega) (by have := hsz.nl; omega) (fun r hr => by have := hsz.rl r hr; omega)) rfl rfl rfl rfl rfl rfl trivial (.inl rfl) rfl rfl rfl ?_
        refine ar_to (d' := .v (.bool true)) (by rw [rightT_iff.2 hso.r]) ?_
        refine ar_pickT rfl rfl rfl rfl rfl ?_
        refine ar_assign rfl rfl rfl rfl ?_
        refine ar_nil ?_
        refine then_n ?_
        refine wp_ret ?_
        refine ret_post rfl rfl ?_
        rfl
  · refine ar_not rfl rfl rfl rfl rfl ?_
    refine ar_nil ?_
    refine then_n ?_
    refine wp_condT rfl ?_
    refine wp_seq ?_
    refine wp_reg (by kernel_rfl) ?_
    refine ar_move rfl rfl rfl rfl ?_
    refine ar_assign rfl rfl rfl rfl ?_
    refine ar_nil ?_
    refine then_n ?_
    refine wp_ret ?_
    refine then_r (ret_post rfl rfl ?_)
    rfl
abbrev in19 (a : Aig) (s t u : Trace) (n : Int) : List V := [.int .i64 a.i, slL a.l, slG a.g, slI a.outs, slI a.bad, slI a.con, slN a.names, .int .i64 s.bad, slU s.ini, slUU s.ins, .int .i64 t.bad, slU t.ini, slUU t.ins, .int .i64 u.bad, slU u.ini, slUU u.ins, .int .i64 n]
theorem pc_19 (a : Aig) (s t u : Trace) (n : Int) (hf : Fit a) (hsf : FitT s) (htf : FitT t) (huf : FitT u) : PCall Try.prog 19 [(.agg (in19 a s t u n))] (.bool true) := by
  refine pc_of tab_ok (f := 19) (fn := Try.f19) (N := 124) (rs := [.tmp 2]) (by kernel_rfl) rfl (by kernel_rfl) rfl rfl [(0, .v (.agg (in19 a s t u n)))] ⟨rfl, trivial⟩ rfl rfl ?_
  intro B
  have hn : Nn t.ini := htf.iu.nn
  have hn2 : ∀ r, r ∈ t.ins → Nn r := fun r hr => (htf.ru r hr).nn
  refine wp_seq ?_
  refine wp_reg (by kernel_rfl) ?_
  refine ar_box 1 [] rfl rfl rfl ⟨rfl, trivial⟩ rfl rfl rfl ?_
  refine ar_assign rfl rfl rfl rfl ?_
  refine ar_nil ?_
  refine then_n ?_
  refine wp_seq ?_
  refine wp_reg (by kernel_rfl) ?_
  refine ar_fa tab_ok rfl rfl rfl tb113 rfl rfl rfl rfl rfl ?_
  refine ar_lda tab_ok rfl rfl rfl tb27 rfl rfl rfl rfl rfl rfl ?_
  refine ar_alloc (id := 3) tab_ok rfl rfl tb27 rfl rfl rfl rfl ?_
  refine ar_st [] tab_ok rfl tb27 rfl rfl rfl trivial rfl rfl rfl rfl rfl rfl rfl rfl ?_
  refine ar_nil ?_
  refine then_n ?_
  refine wp_seq ?_
  refine wp_reg (by kernel_rfl) ?_
  refine ar_fa tab_ok rfl rfl rfl tb113 rfl rfl rfl rfl rfl ?_
  refine ar_lda tab_ok rfl rfl rfl tb101 rfl rfl rfl rfl rfl rfl ?_
  refine ar_alloc (id := 4) tab_ok rfl rfl tb101 rfl rfl rfl rfl ?_
  refine ar_st [] tab_ok rfl tb101 rfl rfl rfl trivial rfl rfl rfl rfl rfl rfl rfl rfl ?_
  refine ar_nil ?_
  refine then_n ?_
  refine wp_seq ?_
  refine wp_reg (by kernel_rfl) ?_
  refine ar_fa tab_ok rfl rfl rfl tb113 rfl rfl rfl rfl rfl ?_
  refine ar_lda tab_ok rfl rfl rfl tb101 rfl rfl rfl rfl rfl rfl ?_
  refine ar_alloc (id := 5) tab_ok rfl rfl tb101 rfl rfl rfl rfl ?_
  refine ar_st [] tab_ok rfl tb101 rfl rfl rfl trivial rfl rfl rfl rfl rfl rfl rfl rfl ?_
  refine ar_nil ?_
  refine then_n ?_
  refine wp_seq ?_
  refine wp_reg (by kernel_rfl) ?_
  refine ar_fa tab_ok rfl rfl rfl tb113 rfl rfl rfl rfl rfl ?_
  refine ar_lda tab_ok rfl rfl rfl tb101 rfl rfl rfl rfl rfl rfl ?_
  refine ar_alloc (id := 6) tab_ok rfl rfl tb101 rfl rfl rfl rfl ?_
  refine ar_st [] tab_ok rfl tb101 rfl rfl rfl trivial rfl rfl rfl rfl rfl rfl rfl rfl ?_
  refine ar_nil ?_
  refine then_n ?_
  refine wp_seq ?_
  refine wp_reg (by kernel_rfl) ?_
  refine ar_fa tab_ok rfl rfl rfl tb113 rfl rfl rfl rfl rfl ?_
  refine ar_ld tab_ok rfl rfl rfl tb3 rfl rfl rfl rfl rfl ?_
  refine ar_assign rfl rfl rfl rfl ?_
  refine ar_nil ?_
  refine then_n ?_
  refine wp_seq ?_
  refine wp_reg (by kernel_rfl) ?_
  refine ar_call [] (pc_65) rfl rfl rfl rfl rfl rfl trivial (.inl rfl) rfl rfl rfl ?_
  refine ar_assign rfl rfl rfl rfl ?_
  refine ar_nil ?_
  refine then_n ?_
  refine wp_seq ?_
  refine wp_seq ?_
  refine wp_reg (by kernel_rfl) ?_
  refine ar_lda tab_ok rfl rfl rfl tb27 rfl rfl rfl rfl rfl rfl ?_
  refine ar_lda tab_ok rfl rfl rfl tb101 rfl rfl rfl rfl rfl rfl ?_
  refine ar_callE [] (pce_66 a s hf hsf.il hsf.nl) rfl rfl rfl rfl rfl rfl trivial (.inl rfl) rfl rfl rfl ?_
  rintro _ ⟨b25, rfl, hb25⟩
  refine ar_split (fun h25 => ?_) (fun h25 => ?_)
  · refine ar_not rfl rfl rfl rfl rfl ?_
    refine ar_move rfl rfl rfl rfl ?_
    refine ar_lda tab_ok rfl rfl rfl tb27 rfl rfl rfl rfl rfl rfl ?_
    refine ar_lda tab_ok rfl rfl rfl tb101 rfl rfl rfl rfl rfl rfl ?_
    refine ar_callE [] (pce_66 a t hf htf.il htf.nl) rfl rfl rfl rfl rfl rfl trivial (.inl rfl) rfl rfl rfl ?_
    rintro _ ⟨b30, rfl, hb30⟩
    refine ar_split (fun h30 => ?_) (fun h30 => ?_)
    · refine ar_not rfl rfl rfl rfl rfl ?_
      refine ar_pickF rfl rfl rfl rfl rfl ?_
      refine ar_move rfl rfl rfl rfl ?_
      refine ar_lda tab_ok rfl rfl rfl tb27 rfl rfl rfl rfl rfl rfl ?_
      refine ar_lda tab_ok rfl rfl rfl tb101 rfl rfl rfl rfl rfl rfl ?_
      refine ar_callE [] (pce_66 a u hf huf.il huf.nl) rfl rfl rfl rfl rfl rfl trivial (.inl rfl) rfl rfl rfl ?_
      rintro _ ⟨b36, rfl, hb36⟩
      refine ar_split (fun h36 => ?_) (fun h36 => ?_)
      · refine ar_not rfl rfl rfl rfl rfl ?_
        refine ar_pickF rfl rfl rfl rfl rfl ?_
        refine ar_nil ?_
        refine then_n ?_
        refine wp_condF rfl ?_
        refine wp_skip ?_
        refine then_n ?_
        refine wp_seq ?_
        refine wp_seq ?_
        have hg := (hb25 h25).1
        have hbd := hg.bd
        have hz1 := (hb25 h25).2.sz (by decide)
        have hz2 := (hb30 h30).2.sz (by decide)
        have hz3 := (hb36 h36).2.sz (by decide)
        refine wp_reg (by kernel_rfl) ?_
        refine ar_lda tab_ok rfl rfl rfl tb101 rfl rfl rfl rfl rfl rfl ?_
        refine ar_call [] (pc_78 s hz1) rfl rfl rfl rfl rfl rfl trivial (.inl rfl) rfl rfl rfl ?_
        refine ar_split (fun h41 => ?_) (fun h41 => ?_)
        · refine ar_not rfl rfl rfl rfl rfl ?_
          refine ar_move rfl rfl rfl rfl ?_
          refine ar_lda tab_ok rfl rfl rfl tb101 rfl rfl rfl rfl rfl rfl ?_
          refine ar_call [] (pc_78 t hz2) rfl rfl rfl rfl rfl rfl trivial (.inl rfl) rfl rfl rfl ?_
          refine ar_split (fun h45 => ?_) (fun h45 => ?_)
          · refine ar_not rfl rfl rfl rfl rfl ?_
            refine ar_pickF rfl rfl rfl rfl rfl ?_
            refine ar_move rfl rfl rfl rfl ?_
            refine ar_lda tab_ok rfl rfl rfl tb101 rfl rfl rfl rfl rfl rfl ?_
            refine ar_call [] (pc_78 u hz3) rfl rfl rfl rfl rfl rfl trivial (.inl rfl) rfl rfl rfl ?_
            refine ar_split (fun h50 => ?_) (fun h50 => ?_)
            · refine ar_not rfl rfl rfl rfl rfl ?_
              refine ar_pickF rfl rfl rfl rfl rfl ?_
              refine ar_nil ?_
              refine then_n ?_
              refine wp_condF rfl ?_
              refine wp_skip ?_
              refine then_n ?_
              refine wp_seq ?_
              refine wp_reg (by kernel_rfl) ?_
              refine ar_lda tab_ok rfl rfl rfl tb101 rfl rfl rfl rfl rfl rfl ?_
              refine ar_lda tab_ok rfl rfl rfl tb101 rfl rfl rfl rfl rfl rfl ?_
              refine ar_call [] (pc_75 s t hz1 hz2) rfl rfl rfl rfl rfl rfl trivial (.inl rfl) rfl rfl rfl ?_
              refine ar_split (fun h56 => ?_) (fun h56 => ?_)
              · refine ar_assign rfl rfl rfl rfl ?_
                refine ar_nil ?_
                refine then_n ?_
                refine wp_seq ?_
                refine wp_seq ?_
                refine wp_draw (L := [([4], []), ([4], []), ([], []), ([], []), ([], []), ([], []), ([], []), ([5], []), ([6], []), ([], []), ([], []), ([], []), ([4], []), ([6], []), ([], []), ([], []), ([], []), ([], []), ([], []), ([], []), ([], []), ([5], []), ([4], []), ([], []), ([], []), ([4], []), ([5], []), ([], []), ([], []), ([], [])]) (by kernel_rfl) mixed (by kernel_rfl) ?_
                refine ar_lda tab_ok rfl rfl rfl tb101 rfl rfl rfl rfl rfl rfl ?_
                refine ar_lda tab_ok rfl rfl rfl tb101 rfl rfl rfl rfl rfl rfl ?_
                refine ar_call [] (pc_75 s s hz1 hz1) rfl rfl rfl rfl rfl rfl trivial (.inl rfl) rfl rfl rfl ?_
                refine ar_to (d' := .v (.bool true)) (by rw [undT_iff.2 (lowTr_refl s)]) ?_
                refine ar_not rfl rfl rfl rfl rfl ?_
                refine ar_move rfl rfl rfl rfl ?_
                refine ar_move rfl rfl rfl rfl ?_
                refine ar_move rfl rfl rfl rfl ?_
                refine ar_lda tab_ok rfl rfl rfl tb101 rfl rfl rfl rfl rfl rfl ?_
                refine ar_lda tab_ok rfl rfl rfl tb101 rfl rfl rfl rfl rfl rfl ?_
                refine ar_call [] (pc_75 t u hz2 hz3) rfl rfl rfl rfl rfl rfl trivial (.inl rfl) rfl rfl rfl ?_
                refine ar_split (fun h66 => ?_) (fun h66 => ?_)
                · refine ar_pickT rfl rfl rfl rfl rfl ?_
                  refine ar_move rfl rfl rfl rfl ?_
                  refine ar_lda tab_ok rfl rfl rfl tb101 rfl rfl rfl rfl rfl rfl ?_
                  refine ar_lda tab_ok rfl rfl rfl tb101 rfl rfl rfl rfl rfl rfl ?_
                  refine ar_call [] (pc_75 s u hz1 hz3) rfl rfl rfl rfl rfl rfl trivial (.inl rfl) rfl rfl rfl ?_
                  refine ar_to (d' := .v (.bool true)) (by rw [und_trans h56 h66]) ?_
                  refine ar_not rfl rfl rfl rfl rfl ?_
                  refine ar_pickT rfl rfl rfl rfl rfl ?_
                  refine ar_pickF rfl rfl rfl rfl rfl ?_
                  refine ar_move rfl rfl rfl rfl ?_
                  refine ar_move rfl rfl rfl rfl ?_
                  refine ar_move rfl rfl rfl rfl ?_
                  refine ar_lda tab_ok rfl rfl rfl tb101 rfl rfl rfl rfl rfl rfl ?_
                  refine ar_lda tab_ok rfl rfl rfl tb101 rfl rfl rfl rfl rfl rfl ?_
                  refine ar_call [] (pc_75 t s hz2 hz1) rfl rfl rfl rfl rfl rfl trivial (.inl rfl) rfl rfl rfl ?_
                  refine ar_pickT rfl rfl rfl rfl rfl ?_
                  refine ar_lda tab_ok rfl rfl rfl tb101 rfl rfl rfl rfl rfl rfl ?_
                  refine ar_lda tab_ok rfl rfl rfl tb101 rfl rfl rfl rfl rfl rfl ?_
                  refine ar_call [] (pc_69 s t hz1 hz2) rfl rfl rfl rfl rfl rfl trivial (.inl rfl) rfl rfl rfl ?_
                  refine ar_to (d' := .v (.bool (undT t s))) (by rw [und_same h56]) ?_
                  refine ar_bneq (z := false) tab_ok rfl rfl rfl tb4 rfl (by simp) rfl rfl ?_
                  refine ar_pickF rfl rfl rfl rfl rfl ?_
                  refine ar_nil ?_
                  refine then_n ?_
                  refine wp_condF rfl ?_
                  refine wp_skip ?_
                  refine then_n ?_
                  refine wp_seq ?_
                  refine wp_seq ?_
                  refine wp_reg (by kernel_rfl) ?_
                  refine ar_lda tab_ok rfl rfl rfl tb27 rfl rfl rfl rfl rfl rfl ?_
                  refine ar_lda tab_ok rfl rfl rfl tb101 rfl rfl rfl rfl rfl rfl ?_
                  refine ar_call [] (pc_79 a t hf hn (by have := hz2.il; omega) (by have := hz2.nl; omega) (fun r hr => by have := hz2.rl r hr; omega)) rfl rfl rfl rfl rfl rfl trivial (.inl rfl) rfl rfl rfl ?_
                  refine ar_split (fun h89 => ?_) (fun h89 => ?_)
                  · refine ar_not rfl rfl rfl rfl rfl ?_
                    refine ar_move rfl rfl rfl rfl ?_
                    refine ar_move rfl rfl rfl rfl ?_
                    refine ar_lss_s rfl rfl rfl rfl rfl (fun h93 => ?_) (fun h93 => ?_)
                    · refine ar_pickF rfl rfl rfl rfl rfl ?_
                      refine ar_move rfl rfl rfl rfl ?_
                      refine ar_skip rfl rfl ?_
                      refine ar_skip rfl rfl ?_
                      refine ar_skip rfl rfl ?_
                      refine ar_skip rfl rfl ?_
                      refine ar_skip rfl rfl ?_
                      refine ar_pickT rfl rfl rfl rfl rfl ?_
                      refine ar_nil ?_
                      refine then_n ?_
                      refine wp_condT rfl ?_
                      refine wp_seq ?_
                      refine wp_reg (by kernel_rfl) ?_
                      refine ar_move rfl rfl rfl rfl ?_
                      refine ar_assign rfl rfl rfl rfl ?_
                      refine ar_nil ?_
                      refine then_n ?_
                      refine wp_ret ?_
                      refine then_r (ret_post rfl rfl ?_)
                      rfl
                    · refine ar_pickF rfl rfl rfl rfl rfl ?_
                      refine ar_move rfl rfl rfl rfl ?_
                      refine ar_move rfl rfl rfl rfl ?_
                      refine ar_lda tab_ok rfl rfl rfl tb27 rfl rfl rfl rfl rfl rfl ?_
                      refine ar_lda tab_ok rfl rfl rfl tb101 rfl rfl rfl rfl rfl rfl ?_
                      refine ar_call [] (pc_71 a t hf hbd hz2) rfl rfl rfl rfl rfl rfl trivial (.inl rfl) rfl rfl rfl ?_
                      refine ar_geq_s rfl rfl rfl rfl rfl (fun h100 => ?_) (fun h100 => ?_)
                      · refine ar_pickF rfl rfl rfl rfl rfl ?_
                        refine ar_nil ?_
                        refine then_n ?_
                        refine wp_condT rfl ?_
                        refine wp_seq ?_
                        refine wp_reg (by kernel_rfl) ?_
                        refine ar_move rfl rfl rfl rfl ?_
                        refine ar_assign rfl rfl rfl rfl ?_
                        refine ar_nil ?_
                        refine then_n ?_
                        refine wp_ret ?_
                        refine then_r (ret_post rfl rfl ?_)
                        rfl
                      · refine ar_pickF rfl rfl rfl rfl rfl ?_
                        refine ar_nil ?_
                        refine then_n ?_
                        refine wp_condF rfl ?_
                        refine wp_skip ?_
                        refine then_n ?_
                        refine wp_seq ?_
                        have ho := okt_of (rightT_iff.1 h89) hn hn2
                        obtain ⟨k, rfl⟩ := Int.eq_ofNat_of_zero_le (show 0 ≤ n by omega)
                        have hk : (k : Int) < manyP a t := by omega
                        have hpm := placeAt_mem hbd.i0 ho.r hk
                        obtain ⟨haz, han, han2⟩ := atT_rok hz2 hn hn2 (placeAt a t k)
                        refine wp_reg (by kernel_rfl) ?_
                        refine ar_lda tab_ok rfl rfl rfl tb27 rfl rfl rfl rfl rfl rfl ?_
                        refine ar_lda tab_ok rfl rfl rfl tb101 rfl rfl rfl rfl rfl rfl ?_
                        refine ar_move rfl rfl rfl rfl ?_
                        refine ar_call [] (pc_72 a t k hf hbd hz2 ho.r hk) rfl rfl rfl rfl rfl rfl trivial (.inl rfl) rfl rfl rfl ?_
                        refine ar_move rfl rfl rfl rfl ?_
                        refine ar_ext rfl rfl rfl rfl rfl ?_
                        refine ar_ext rfl rfl rfl rfl rfl ?_
                        refine ar_alloc (id := 10) tab_ok rfl rfl tb101 rfl rfl rfl rfl ?_
                        refine ar_st [] tab_ok rfl tb101 rfl rfl rfl trivial rfl rfl rfl rfl rfl rfl rfl rfl ?_
                        refine ar_assign rfl rfl rfl rfl ?_
                        refine ar_nil ?_
                        refine then_n ?_
                        refine wp_seq ?_
                        refine wp_reg (by kernel_rfl) ?_
                        refine ar_move rfl rfl rfl rfl ?_
                        refine ar_move rfl rfl rfl rfl ?_
                        refine ar_lda tab_ok rfl rfl rfl tb101 rfl rfl rfl rfl rfl rfl ?_
                        refine ar_lda tab_ok rfl rfl rfl tb101 rfl rfl rfl rfl rfl rfl ?_
                        refine ar_call [] (pc_75 (atT t (placeAt a t k)) t haz hz2) rfl rfl rfl rfl rfl rfl trivial (.inl rfl) rfl rfl rfl ?_
                        refine ar_to (d' := .v (.bool true)) (by rw [undT_iff.2 (at_low ho hpm)]) ?_
                        refine ar_pickT rfl rfl rfl rfl rfl ?_
                        refine ar_move rfl rfl rfl rfl ?_
                        refine ar_lda tab_ok rfl rfl rfl tb101 rfl rfl rfl rfl rfl rfl ?_
                        refine ar_lda tab_ok rfl rfl rfl tb101 rfl rfl rfl rfl rfl rfl ?_
                        refine ar_call [] (pc_75 t (atT t (placeAt a t k)) hz2 haz) rfl rfl rfl rfl rfl rfl trivial (.inl rfl) rfl rfl rfl ?_
                        refine ar_to (d' := .v (.bool (decide (cell (rowsT t) (placeAt a t k).1 (placeAt a t k).2 = 2)))) (by rw [und_at ho hpm]) ?_
                        refine ar_move rfl rfl rfl rfl ?_
                        refine ar_eql rfl rfl rfl rfl rfl rfl ?_
                        refine ar_beql (z := true) tab_ok rfl rfl rfl tb4 rfl (by simp) rfl rfl ?_
                        refine ar_pickT rfl rfl rfl rfl rfl ?_
                        refine ar_assign rfl rfl rfl rfl ?_
                        refine ar_nil ?_
                        refine then_n ?_
                        refine wp_ret ?_
                        refine ret_post rfl rfl ?_
                        rfl
                  · refine ar_not rfl rfl rfl rfl rfl ?_
                    refine ar_move rfl rfl rfl rfl ?_
                    refine ar_skip rfl rfl ?_
                    refine ar_skip rfl rfl ?_
                    refine ar_pickT rfl rfl rfl rfl rfl ?_
                    refine ar_move rfl rfl rfl rfl ?_
                    refine ar_skip rfl rfl ?_
                    refine ar_skip rfl rfl ?_
                    refine ar_skip rfl rfl ?_
                    refine ar_skip rfl rfl ?_
                    refine ar_skip rfl rfl ?_
                    refine ar_pickT rfl rfl rfl rfl rfl ?_
                    refine ar_nil ?_
                    refine then_n ?_
                    refine wp_condT rfl ?_
                    refine wp_seq ?_
                    refine wp_reg (by kernel_rfl) ?_
                    refine ar_move rfl rfl rfl rfl ?_
                    refine ar_assign rfl rfl rfl rfl ?_
                    refine ar_nil ?_
                    refine then_n ?_
                    refine wp_ret ?_
                    refine then_r (ret_post rfl rfl ?_)
                    rfl
                · refine ar_pickT rfl rfl rfl rfl rfl ?_
                  refine ar_move rfl rfl rfl rfl ?_
                  refine ar_skip rfl rfl ?_
                  refine ar_skip rfl rfl ?_
                  refine ar_skip rfl rfl ?_
                  refine ar_skip rfl rfl ?_
                  refine ar_pickF rfl rfl rfl rfl rfl ?_
                  refine ar_pickF rfl rfl rfl rfl rfl ?_
                  refine ar_move rfl rfl rfl rfl ?_
                  refine ar_move rfl rfl rfl rfl ?_
                  refine ar_move rfl rfl rfl rfl ?_
                  refine ar_lda tab_ok rfl rfl rfl tb101 rfl rfl rfl rfl rfl rfl ?_
                  refine ar_lda tab_ok rfl rfl rfl tb101 rfl rfl rfl rfl rfl rfl ?_
                  refine ar_call [] (pc_75 t s hz2 hz1) rfl rfl rfl rfl rfl rfl trivial (.inl rfl) rfl rfl rfl ?_
                  refine ar_pickT rfl rfl rfl rfl rfl ?_
                  refine ar_lda tab_ok rfl rfl rfl tb101 rfl rfl rfl rfl rfl rfl ?_
                  refine ar_lda tab_ok rfl rfl rfl tb101 rfl rfl rfl rfl rfl rfl ?_
                  refine ar_call [] (pc_69 s t hz1 hz2) rfl rfl rfl rfl rfl rfl trivial (.inl rfl) rfl rfl rfl ?_
                  refine ar_to (d' := .v (.bool (undT t s))) (by rw [und_same h56]) ?_
                  refine ar_bneq (z := false) tab_ok rfl rfl rfl tb4 rfl (by simp) rfl rfl ?_
                  refine ar_pickF rfl rfl rfl rfl rfl ?_
                  refine ar_nil ?_
                  refine then_n ?_
                  refine wp_condF rfl ?_
                  refine wp_skip ?_
                  refine then_n ?_
                  refine wp_seq ?_
                  refine wp_seq ?_
                  refine wp_reg (by kernel_rfl) ?_
                  refine ar_lda tab_ok rfl rfl rfl tb27 rfl rfl rfl rfl rfl rfl ?_
                  refine ar_lda tab_ok rfl rfl rfl tb101 rfl rfl rfl rfl rfl rfl ?_
                  refine ar_call [] (pc_79 a t hf hn (by have := hz2.il; omega) (by have := hz2.nl; omega) (fun r hr => by have := hz2.rl r hr; omega)) rfl rfl rfl rfl rfl rfl trivial (.inl rfl) rfl rfl rfl ?_
                  refine ar_split (fun h89 => ?_) (fun h89 => ?_)
                  · refine ar_not rfl rfl rfl rfl rfl ?_
                    refine ar_move rfl rfl rfl rfl ?_
                    refine ar_move rfl rfl rfl rfl ?_
                    refine ar_lss_s rfl rfl rfl rfl rfl (fun h93 => ?_) (fun h93 => ?_)
                    · refine ar_pickF rfl rfl rfl rfl rfl ?_
                      refine ar_move rfl rfl rfl rfl ?_
                      refine ar_skip rfl rfl ?_
                      refine ar_skip rfl rfl ?_
                      refine ar_skip rfl rfl ?_
                      refine ar_skip rfl rfl ?_
                      refine ar_skip rfl rfl ?_
                      refine ar_pickT rfl rfl rfl rfl rfl ?_
                      refine ar_nil ?_
                      refine then_n ?_
                      refine wp_condT rfl ?_
                      refine wp_seq ?_
                      refine wp_reg (by kernel_rfl) ?_
                      refine ar_move rfl rfl rfl rfl ?_
                      refine ar_assign rfl rfl rfl rfl ?_
                      refine ar_nil ?_
                      refine then_n ?_
                      refine wp_ret ?_
                      refine then_r (ret_post rfl rfl ?_)
                      rfl
                    · refine ar_pickF rfl rfl rfl rfl rfl ?_
                      refine ar_move rfl rfl rfl rfl ?_
                      refine ar_move rfl rfl rfl rfl ?_
                      refine ar_lda tab_ok rfl rfl rfl tb27 rfl rfl rfl rfl rfl rfl ?_
                      refine ar_lda tab_ok rfl rfl rfl tb101 rfl rfl rfl rfl rfl rfl ?_
                      refine ar_call [] (pc_71 a t hf hbd hz2) rfl rfl rfl rfl rfl rfl trivial (.inl rfl) rfl rfl rfl ?_
                      refine ar_geq_s rfl rfl rfl rfl rfl (fun h100 => ?_) (fun h100 => ?_)
                      · refine ar_pickF rfl rfl rfl rfl rfl ?_
                        refine ar_nil ?_
                        refine then_n ?_
                        refine wp_condT rfl ?_
                        refine wp_seq ?_
                        refine wp_reg (by kernel_rfl) ?_
                        refine ar_move rfl rfl rfl rfl ?_
                        refine ar_assign rfl rfl rfl rfl ?_
                        refine ar_nil ?_
                        refine then_n ?_
                        refine wp_ret ?_
                        refine then_r (ret_post rfl rfl ?_)
                        rfl
                      · refine ar_pickF rfl rfl rfl rfl rfl ?_
                        refine ar_nil ?_
                        refine then_n ?_
                        refine wp_condF rfl ?_
                        refine wp_skip ?_
                        refine then_n ?_
                        refine wp_seq ?_
                        have ho := okt_of (rightT_iff.1 h89) hn hn2
                        obtain ⟨k, rfl⟩ := Int.eq_ofNat_of_zero_le (show 0 ≤ n by omega)
                        have hk : (k : Int) < manyP a t := by omega
                        have hpm := placeAt_mem hbd.i0 ho.r hk
                        obtain ⟨haz, han, han2⟩ := atT_rok hz2 hn hn2 (placeAt a t k)
                        refine wp_reg (by kernel_rfl) ?_
                        refine ar_lda tab_ok rfl rfl rfl tb27 rfl rfl rfl rfl rfl rfl ?_
                        refine ar_lda tab_ok rfl rfl rfl tb101 rfl rfl rfl rfl rfl rfl ?_
                        refine ar_move rfl rfl rfl rfl ?_
                        refine ar_call [] (pc_72 a t k hf hbd hz2 ho.r hk) rfl rfl rfl rfl rfl rfl trivial (.inl rfl) rfl rfl rfl ?_
                        refine ar_move rfl rfl rfl rfl ?_
                        refine ar_ext rfl rfl rfl rfl rfl ?_
                        refine ar_ext rfl rfl rfl rfl rfl ?_
                        refine ar_alloc (id := 10) tab_ok rfl rfl tb101 rfl rfl rfl rfl ?_
                        refine ar_st [] tab_ok rfl tb101 rfl rfl rfl trivial rfl rfl rfl rfl rfl rfl rfl rfl ?_
                        refine ar_assign rfl rfl rfl rfl ?_
                        refine ar_nil ?_
                        refine then_n ?_
                        refine wp_seq ?_
                        refine wp_reg (by kernel_rfl) ?_
                        refine ar_move rfl rfl rfl rfl ?_
                        refine ar_move rfl rfl rfl rfl ?_
                        refine ar_lda tab_ok rfl rfl rfl tb101 rfl rfl rfl rfl rfl rfl ?_
                        refine ar_lda tab_ok rfl rfl rfl tb101 rfl rfl rfl rfl rfl rfl ?_
                        refine ar_call [] (pc_75 (atT t (placeAt a t k)) t haz hz2) rfl rfl rfl rfl rfl rfl trivial (.inl rfl) rfl rfl rfl ?_
                        refine ar_to (d' := .v (.bool true)) (by rw [undT_iff.2 (at_low ho hpm)]) ?_
                        refine ar_pickT rfl rfl rfl rfl rfl ?_
                        refine ar_move rfl rfl rfl rfl ?_
                        refine ar_lda tab_ok rfl rfl rfl tb101 rfl rfl rfl rfl rfl rfl ?_
                        refine ar_lda tab_ok rfl rfl rfl tb101 rfl rfl rfl rfl rfl rfl ?_
                        refine ar_call [] (pc_75 t (atT t (placeAt a t k)) hz2 haz) rfl rfl rfl rfl rfl rfl trivial (.inl rfl) rfl rfl rfl ?_
                        refine ar_to (d' := .v (.bool (decide (cell (rowsT t) (placeAt a t k).1 (placeAt a t k).2 = 2)))) (by rw [und_at ho hpm]) ?_
                        refine ar_move rfl rfl rfl rfl ?_
                        refine ar_eql rfl rfl rfl rfl rfl rfl ?_
                        refine ar_beql (z := true) tab_ok rfl rfl rfl tb4 rfl (by simp) rfl rfl ?_
                        refine ar_pickT rfl rfl rfl rfl rfl ?_
                        refine ar_assign rfl rfl rfl rfl ?_
                        refine ar_nil ?_
                        refine then_n ?_
                        refine wp_ret ?_
                        refine ret_post rfl rfl ?_
                        rfl
                  · refine ar_not rfl rfl rfl rfl rfl ?_
                    refine ar_move rfl rfl rfl rfl ?_
                    refine ar_skip rfl rfl ?_
                    refine ar_skip rfl rfl ?_
                    refine ar_pickT rfl rfl rfl rfl rfl ?_
                    refine ar_move rfl rfl rfl rfl ?_
                    refine ar_skip rfl rfl ?_
                    refine ar_skip rfl rfl ?_
                    refine ar_skip rfl rfl ?_
                    refine ar_skip rfl rfl ?_
                    refine ar_skip rfl rfl ?_
                    refine ar_pickT rfl rfl rfl rfl rfl ?_
                    refine ar_nil ?_
                    refine then_n ?_
                    refine wp_condT rfl ?_
                    refine wp_seq ?_
                    refine wp_reg (by kernel_rfl) ?_
                    refine ar_move rfl rfl rfl rfl ?_
                    refine ar_assign rfl rfl rfl rfl ?_
                    refine ar_nil ?_
                    refine then_n ?_
                    refine wp_ret ?_
                    refine then_r (ret_post rfl rfl ?_)
                    rfl
              · refine ar_assign rfl rfl rfl rfl ?_
                refine ar_nil ?_
                refine then_n ?_
                refine wp_seq ?_
                refine wp_seq ?_
                refine wp_draw (L := [([4], []), ([4], []), ([], []), ([], []), ([], []), ([], []), ([], []), ([5], []), ([6], []), ([], []), ([], []), ([], []), ([4], []), ([6], []), ([], []), ([], []), ([], []), ([], []), ([], []), ([], []), ([], []), ([5], []), ([4], []), ([], []), ([], []), ([4], []), ([5], []), ([], []), ([], []), ([], [])]) (by kernel_rfl) mixed (by kernel_rfl) ?_
                refine ar_lda tab_ok rfl rfl rfl tb101 rfl rfl rfl rfl rfl rfl ?_
                refine ar_lda tab_ok rfl rfl rfl tb101 rfl rfl rfl rfl rfl rfl ?_
                refine ar_call [] (pc_75 s s hz1 hz1) rfl rfl rfl rfl rfl rfl trivial (.inl rfl) rfl rfl rfl ?_
                refine ar_to (d' := .v (.bool true)) (by rw [undT_iff.2 (lowTr_refl s)]) ?_
                refine ar_not rfl rfl rfl rfl rfl ?_
                refine ar_move rfl rfl rfl rfl ?_
                refine ar_move rfl rfl rfl rfl ?_
                refine ar_move rfl rfl rfl rfl ?_
                refine ar_skip rfl rfl ?_
                refine ar_skip rfl rfl ?_
                refine ar_skip rfl rfl ?_
                refine ar_pickF rfl rfl rfl rfl rfl ?_
                refine ar_move rfl rfl rfl rfl ?_
                refine ar_skip rfl rfl ?_
                refine ar_skip rfl rfl ?_
                refine ar_skip rfl rfl ?_
                refine ar_skip rfl rfl ?_
                refine ar_pickF rfl rfl rfl rfl rfl ?_
                refine ar_pickF rfl rfl rfl rfl rfl ?_
                refine ar_move rfl rfl rfl rfl ?_
                refine ar_move rfl rfl rfl rfl ?_
                refine ar_move rfl rfl rfl rfl ?_
                refine ar_skip rfl rfl ?_
                refine ar_skip rfl rfl ?_
                refine ar_skip rfl rfl ?_
                refine ar_pickF rfl rfl rfl rfl rfl ?_
                refine ar_lda tab_ok rfl rfl rfl tb101 rfl rfl rfl rfl rfl rfl ?_
                refine ar_lda tab_ok rfl rfl rfl tb101 rfl rfl rfl rfl rfl rfl ?_
                refine ar_call [] (pc_69 s t hz1 hz2) rfl rfl rfl rfl rfl rfl trivial (.inl rfl) rfl rfl rfl ?_
                refine ar_to (d' := .v (.bool false)) (by rw [und_nosame h56]) ?_
                refine ar_bneq (z := false) tab_ok rfl rfl rfl tb4 rfl (by simp) rfl rfl ?_
                refine ar_pickF rfl rfl rfl rfl rfl ?_
                refine ar_nil ?_
                refine then_n ?_
                refine wp_condF rfl ?_
                refine wp_skip ?_
                refine then_n ?_
                refine wp_seq ?_
                refine wp_seq ?_
                refine wp_reg (by kernel_rfl) ?_
                refine ar_lda tab_ok rfl rfl rfl tb27 rfl rfl rfl rfl rfl rfl ?_
                refine ar_lda tab_ok rfl rfl rfl tb101 rfl rfl rfl rfl rfl rfl ?_
                refine ar_call [] (pc_79 a t hf hn (by have := hz2.il; omega) (by have := hz2.nl; omega) (fun r hr => by have := hz2.rl r hr; omega)) rfl rfl rfl rfl rfl rfl trivial (.inl rfl) rfl rfl rfl ?_
                refine ar_split (fun h89 => ?_) (fun h89 => ?_)
                · refine ar_not rfl rfl rfl rfl rfl ?_
                  refine ar_move rfl rfl rfl rfl ?_
                  refine ar_move rfl rfl rfl rfl ?_
                  refine ar_lss_s rfl rfl rfl rfl rfl (fun h93 => ?_) (fun h93 => ?_)
                  · refine ar_pickF rfl rfl rfl rfl rfl ?_
                    refine ar_move rfl rfl rfl rfl ?_
                    refine ar_skip rfl rfl ?_
                    refine ar_skip rfl rfl ?_
                    refine ar_skip rfl rfl ?_
                    refine ar_skip rfl rfl ?_
                    refine ar_skip rfl rfl ?_
                    refine ar_pickT rfl rfl rfl rfl rfl ?_
                    refine ar_nil ?_
                    refine then_n ?_
                    refine wp_condT rfl ?_
                    refine wp_seq ?_
                    refine wp_reg (by kernel_rfl) ?_
                    refine ar_move rfl rfl rfl rfl ?_
                    refine ar_assign rfl rfl rfl rfl ?_
                    refine ar_nil ?_
                    refine then_n ?_
                    refine wp_ret ?_
                    refine then_r (ret_post rfl rfl ?_)
                    rfl
                  · refine ar_pickF rfl rfl rfl rfl rfl ?_
                    refine ar_move rfl rfl rfl rfl ?_
                    refine ar_move rfl rfl rfl rfl ?_
                    refine ar_lda tab_ok rfl rfl rfl tb27 rfl rfl rfl rfl rfl rfl ?_
                    refine ar_lda tab_ok rfl rfl rfl tb101 rfl rfl rfl rfl rfl rfl ?_
                    refine ar_call [] (pc_71 a t hf hbd hz2) rfl rfl rfl rfl rfl rfl trivial (.inl rfl) rfl rfl rfl ?_
                    refine ar_geq_s rfl rfl rfl rfl rfl (fun h100 => ?_) (fun h100 => ?_)
                    · refine ar_pickF rfl rfl rfl rfl rfl ?_
                      refine ar_nil ?_
                      refine then_n ?_
                      refine wp_condT rfl ?_
                      refine wp_seq ?_
                      refine wp_reg (by kernel_rfl) ?_
                      refine ar_move rfl rfl rfl rfl ?_
                      refine ar_assign rfl rfl rfl rfl ?_
                      refine ar_nil ?_
                      refine then_n ?_
                      refine wp_ret ?_
                      refine then_r (ret_post rfl rfl ?_)
                      rfl
                    · refine ar_pickF rfl rfl rfl rfl rfl ?_
                      refine ar_nil ?_
                      refine then_n ?_
                      refine wp_condF rfl ?_
                      refine wp_skip ?_
                      refine then_n ?_
                      refine wp_seq ?_
                      have ho := okt_of (rightT_iff.1 h89) hn hn2
                      obtain ⟨k, rfl⟩ := Int.eq_ofNat_of_zero_le (show 0 ≤ n by omega)
                      have hk : (k : Int) < manyP a t := by omega
                      have hpm := placeAt_mem hbd.i0 ho.r hk
                      obtain ⟨haz, han, han2⟩ := atT_rok hz2 hn hn2 (placeAt a t k)
                      refine wp_reg (by kernel_rfl) ?_
                      refine ar_lda tab_ok rfl rfl rfl tb27 rfl rfl rfl rfl rfl rfl ?_
                      refine ar_lda tab_ok rfl rfl rfl tb101 rfl rfl rfl rfl rfl rfl ?_
                      refine ar_move rfl rfl rfl rfl ?_
                      refine ar_call [] (pc_72 a t k hf hbd hz2 ho.r hk) rfl rfl rfl rfl rfl rfl trivial (.inl rfl) rfl rfl rfl ?_
                      refine ar_move rfl rfl rfl rfl ?_
                      refine ar_ext rfl rfl rfl rfl rfl ?_
                      refine ar_ext rfl rfl rfl rfl rfl ?_
                      refine ar_alloc (id := 10) tab_ok rfl rfl tb101 rfl rfl rfl rfl ?_
                      refine ar_st [] tab_ok rfl tb101 rfl rfl rfl trivial rfl rfl rfl rfl rfl rfl rfl rfl ?_
                      refine ar_assign rfl rfl rfl rfl ?_
                      refine ar_nil ?_
                      refine then_n ?_
                      refine wp_seq ?_
                      refine wp_reg (by kernel_rfl) ?_
                      refine ar_move rfl rfl rfl rfl ?_
                      refine ar_move rfl rfl rfl rfl ?_
                      refine ar_lda tab_ok rfl rfl rfl tb101 rfl rfl rfl rfl rfl rfl ?_
                      refine ar_lda tab_ok rfl rfl rfl tb101 rfl rfl rfl rfl rfl rfl ?_
                      refine ar_call [] (pc_75 (atT t (placeAt a t k)) t haz hz2) rfl rfl rfl rfl rfl rfl trivial (.inl rfl) rfl rfl rfl ?_
                      refine ar_to (d' := .v (.bool true)) (by rw [undT_iff.2 (at_low ho hpm)]) ?_
                      refine ar_pickT rfl rfl rfl rfl rfl ?_
                      refine ar_move rfl rfl rfl rfl ?_
                      refine ar_lda tab_ok rfl rfl rfl tb101 rfl rfl rfl rfl rfl rfl ?_
                      refine ar_lda tab_ok rfl rfl rfl tb101 rfl rfl rfl rfl rfl rfl ?_
                      refine ar_call [] (pc_75 t (atT t (placeAt a t k)) hz2 haz) rfl rfl rfl rfl rfl rfl trivial (.inl rfl) rfl rfl rfl ?_
                      refine ar_to (d' := .v (.bool (decide (cell (rowsT t) (placeAt a t k).1 (placeAt a t k).2 = 2)))) (by rw [und_at ho hpm]) ?_
                      refine ar_move rfl rfl rfl rfl ?_
                      refine ar_eql rfl rfl rfl rfl rfl rfl ?_
                      refine ar_beql (z := true) tab_ok rfl rfl rfl tb4 rfl (by simp) rfl rfl ?_
                      refine ar_pickT rfl rfl rfl rfl rfl ?_
                      refine ar_assign rfl rfl rfl rfl ?_
                      refine ar_nil ?_
                      refine then_n ?_
                      refine wp_ret ?_
                      refine ret_post rfl rfl ?_
                      rfl
                · refine ar_not rfl rfl rfl rfl rfl ?_
                  refine ar_move rfl rfl rfl rfl ?_
                  refine ar_skip rfl rfl ?_
                  refine ar_skip rfl rfl ?_
                  refine ar_pickT rfl rfl rfl rfl rfl ?_
                  refine ar_move rfl rfl rfl rfl ?_
                  refine ar_skip rfl rfl ?_
                  refine ar_skip rfl rfl ?_
                  refine ar_skip rfl rfl ?_
                  refine ar_skip rfl rfl ?_
                  refine ar_skip rfl rfl ?_
                  refine ar_pickT rfl rfl rfl rfl rfl ?_
                  refine ar_nil ?_
                  refine then_n ?_
                  refine wp_condT rfl ?_
                  refine wp_seq ?_
                  refine wp_reg (by kernel_rfl) ?_
                  refine ar_move rfl rfl rfl rfl ?_
                  refine ar_assign rfl rfl rfl rfl ?_
                  refine ar_nil ?_
                  refine then_n ?_
                  refine wp_ret ?_
                  refine then_r (ret_post rfl rfl ?_)
                  rfl
            · refine ar_not rfl rfl rfl rfl rfl ?_
              refine ar_pickF rfl rfl rfl rfl rfl ?_
              refine ar_nil ?_
              refine then_n ?_
              refine wp_condT rfl ?_
              refine wp_seq ?_
              refine wp_reg (by kernel_rfl) ?_
              refine ar_move rfl rfl rfl rfl ?_
              refine ar_assign rfl rfl rfl rfl ?_
              refine ar_nil ?_
              refine then_n ?_
              refine wp_ret ?_
              refine then_r (ret_post rfl rfl ?_)
              rfl
          · refine ar_not rfl rfl rfl rfl rfl ?_
            refine ar_pickF rfl rfl rfl rfl rfl ?_
            refine ar_move rfl rfl rfl rfl ?_
            refine ar_skip rfl rfl ?_
            refine ar_skip rfl rfl ?_
            refine ar_skip rfl rfl ?_
            refine ar_pickT rfl rfl rfl rfl rfl ?_
            refine ar_nil ?_
            refine then_n ?_
            refine wp_condT rfl ?_
            refine wp_seq ?_
            refine wp_reg (by kernel_rfl) ?_
            refine ar_move rfl rfl rfl rfl ?_
            refine ar_assign rfl rfl rfl rfl ?_
            refine ar_nil ?_
            refine then_n ?_
            refine wp_ret ?_
            refine then_r (ret_post rfl rfl ?_)
            rfl
        · refine ar_not rfl rfl rfl rfl rfl ?_
          refine ar_move rfl rfl rfl rfl ?_
          refine ar_skip rfl rfl ?_
          refine ar_skip rfl rfl ?_
          refine ar_skip rfl rfl ?_
          refine ar_pickT rfl rfl rfl rfl rfl ?_
          refine ar_move rfl rfl rfl rfl ?_
          refine ar_skip rfl rfl ?_
          refine ar_skip rfl rfl ?_
          refine ar_skip rfl rfl ?_
          refine ar_pickT rfl rfl rfl rfl rfl ?_
          refine ar_nil ?_
          refine then_n ?_
          refine wp_condT rfl ?_
          refine wp_seq ?_
          refine wp_reg (by kernel_rfl) ?_
          refine ar_move rfl rfl rfl rfl ?_
          refine ar_assign rfl rfl rfl rfl ?_
          refine ar_nil ?_
          refine then_n ?_
          refine wp_ret ?_
          refine then_r (ret_post rfl rfl ?_)
          rfl
      · refine ar_not rfl rfl rfl rfl rfl ?_
        refine ar_pickF rfl rfl rfl rfl rfl ?_
        refine ar_nil ?_
        refine then_n ?_
        refine wp_condT rfl ?_
        refine wp_seq ?_
        refine wp_reg (by kernel_rfl) ?_
        refine ar_move rfl rfl rfl rfl ?_
        refine ar_assign rfl rfl rfl rfl ?_
        refine ar_nil ?_
        refine then_n ?_
        refine wp_ret ?_
        refine then_r (ret_post rfl rfl ?_)
        rfl
    · refine ar_not rfl rfl rfl rfl rfl ?_
      refine ar_pickF rfl rfl rfl rfl rfl ?_
      refine ar_move rfl rfl rfl rfl ?_
      refine ar_skip rfl rfl ?_
      refine ar_skip rfl rfl ?_
      refine ar_skip rfl rfl ?_
      refine ar_skip rfl rfl ?_
      refine ar_pickT rfl rfl rfl rfl rfl ?_
      refine ar_nil ?_
      refine then_n ?_
      refine wp_condT rfl ?_
      refine wp_seq ?_
      refine wp_reg (by kernel_rfl) ?_
      refine ar_move rfl rfl rfl rfl ?_
      refine ar_assign rfl rfl rfl rfl ?_
      refine ar_nil ?_
      refine then_n ?_
      refine wp_ret ?_
      refine then_r (ret_post rfl rfl ?_)
      rfl
  · refine ar_not rfl rfl rfl rfl rfl ?_
    refine ar_move rfl rfl rfl rfl ?_
    refine ar_skip rfl rfl ?_
    refine ar_skip rfl rfl ?_
    refine ar_skip rfl rfl ?_
    refine ar_skip rfl rfl ?_
    refine ar_pickT rfl rfl rfl rfl rfl ?_
    refine ar_move rfl rfl rfl rfl ?_
    refine ar_skip rfl rfl ?_
    refine ar_skip rfl rfl ?_
    refine ar_skip rfl rfl ?_
    refine ar_skip rfl rfl ?_
    refine ar_pickT rfl rfl rfl rfl rfl ?_
    refine ar_nil ?_
    refine then_n ?_
    refine wp_condT rfl ?_
    refine wp_seq ?_
    refine wp_reg (by kernel_rfl) ?_
    refine ar_move rfl rfl rfl rfl ?_
    refine ar_assign rfl rfl rfl rfl ?_
    refine ar_nil ?_
    refine then_n ?_
    refine wp_ret ?_
    refine then_r (ret_post rfl rfl ?_)
    rfl
end Go.Vd
