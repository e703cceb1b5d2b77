/- PlayCon, PlayLast: as the program tells them. -/
import Derived.Test.YtjbfplfopagpjaaC25
namespace Go.Vd
open Go.Proofs

/-! ### A constraint more -/

abbrev conA (a : Aig) (x : Int) : Aig := ⟨a.i, a.l, a.g, a.outs, a.bad, a.con ++ [x], a.names⟩
theorem conA_fit {a : Aig} (hf : Fit a) (hb : Bd a) (x : Int) : Fit (conA a x) := ⟨hf.l, hf.g, hf.o, hf.b, by have := hb.c1; simp; omega, hf.n, hf.s⟩
theorem conA_bd {a : Aig} (hb : Bd a) (h : a.con.length ≤ 30) (x : Int) : Bd (conA a x) := ⟨hb.i0, hb.i1, hb.l1, hb.g1, hb.o1, hb.b1, by simp; omega⟩
theorem conA_right (a : Aig) (x : Int) (t : Trace) : rightT (conA a x) t = rightT a t := rfl
theorem conA_okt {a : Aig} {t : Trace} (h : Okt a t) (x : Int) : Okt (conA a x) t := ⟨rightT_iff.1 (by rw [conA_right]; exact rightT_iff.2 h.r), h.i, h.n⟩
theorem conA_step {a : Aig} {s r : List Int} (h : shapeT a s r) (x : Int) : stepT (conA a x) s r = ⟨(stepT a s r).n, (stepT a s r).o, (stepT a s r).b, (stepT a s r).c ++ [litT (valsTV a s r) x], 0⟩ := by
  rw [stepT_ok (a := conA a x) h, stepT_ok h]
  simp only [stepTV, List.map_append, List.map_cons, List.map_nil]
theorem conA_con {a : Aig} {s r : List Int} (h : shapeT a s r) (x : Int) : conT (stepT (conA a x) s r) = (conT (stepT a s r) && decide (litT (valsTV a s r) x = 1)) := by
  rw [conA_step h]; simp [conT]
theorem vals_head (gs : List Gate) : ∀ (v : List Int), v ≠ [] → (valsT v gs).getD 0 default = v.getD 0 default ∧ 0 < (valsT v gs).length := by
  induction gs with
  | nil => intro v hv; exact ⟨rfl, List.length_pos_iff.2 hv⟩
  | cons g gs ih =>
    intro v hv
    have := ih (v ++ [andT (litT v g.a) (litT v g.b)]) (by simp)
    refine ⟨?_, this.2⟩
    rw [valsT, this.1]
    cases v with
    | nil => exact absurd rfl hv
    | cons y ys => rfl
theorem lit_zero (a : Aig) (s r : List Int) : litT (valsTV a s r) 0 = 0 ∧ litT (valsTV a s r) 1 = 1 := by
  have h := vals_head a.g (0 :: (r ++ s)) (by simp)
  have h1 : (valsTV a s r).getD 0 default = 0 := h.1
  have h2 : 0 < (valsTV a s r).length := h.2
  refine ⟨?_, ?_⟩
  · rw [litT_even (by decide) (by omega) (by decide)]; exact h1
  · rw [litT_odd (by decide) (by omega) (by decide)]
    show notT ((valsTV a s r).getD 0 default) = 1
    rw [h1]; rfl
theorem con_go {a : Aig} {k : Nat} {x : Int} : ∀ (ins : List (List Int)) (s : List Int) (b : Int), s.length = a.l.length → TriL s → Rok a ins →
    (ternGo k b (frT (conA a x) s ins) = 1 → ternGo k b (frT a s ins) = 1) ∧ (x = 1 → ternGo k b (frT (conA a x) s ins) = ternGo k b (frT a s ins)) ∧ (x = 0 → ins ≠ [] → ternGo k b (frT (conA a x) s ins) = 0)
  | [], _, _, _, _, _ => ⟨fun h => h, fun _ => rfl, fun _ h => absurd rfl h⟩
  | r :: rs, s, b, h1, h2, hr => by
    have n1 := stepT_next h1 h2 (hr r List.mem_cons_self).1 (hr r List.mem_cons_self).2
    have hst := conA_step n1.1 x
    have ih := con_go (k := k) (x := x) rs (stepT a s r).n ((stepT a s r).b.getD k default) n1.2.1 n1.2.2 (fun y hy => hr y (List.mem_cons_of_mem _ hy))
    simp only [frT, ternGo]
    rw [conA_con n1.1]
    rw [show (stepT (conA a x) s r).n = (stepT a s r).n by rw [hst], show (stepT (conA a x) s r).b = (stepT a s r).b by rw [hst]]
    refine ⟨?_, ?_, ?_⟩
    · intro h
      cases hc : conT (stepT a s r) with
      | false => rw [hc] at h; simp at h
      | true =>
        rw [hc] at h
        by_cases hx : litT (valsTV a s r) x = 1
        · simp only [hx] at h; exact ih.1 (by simpa using h)
        · simp [hx] at h
    · rintro rfl
      rw [(lit_zero a s r).2]
      simp only [decide_true, Bool.and_true]
      split
      · exact ih.2.1 rfl
      · rfl
    · rintro rfl _
      rw [(lit_zero a s r).1]
      simp
theorem con_more {a : Aig} {t : Trace} (h : Okt a t) (x : Int) (h0 : ternaryT (conA a x) t = 0) : ternaryT a t = 0 := by
  rw [ternary0] at h0 ⊢
  exact ⟨h0.1, (con_go t.ins t.ini 0 h.r.il h.i h.rok).1 h0.2⟩
theorem con_same {a : Aig} {t : Trace} (h : Okt a t) : ternaryT (conA a 1) t = ternaryT a t := by
  simp only [ternaryT, conA_right]
  rw [(con_go (x := 1) t.ins t.ini 0 h.r.il h.i h.rok).2.1 rfl]
  rfl
theorem con_never {a : Aig} {t : Trace} (h : Okt a t) : ternaryT (conA a 0) t = 8 :=
  ternaryT_8 (a := conA a 0) ((conA_right a 0 t).trans (rightT_iff.2 h.r)) (by rw [(con_go (x := 0) t.ins t.ini 0 h.r.il h.i h.rok).2.2 rfl (by have := h.r.n0; intro e; rw [e] at this; simp at this)]; decide)
theorem lit_one (a : Aig) (s r : List Bool) : litv (valsV a s r) 1 = true := by
  have h1 : ∀ (gs : List Gate) (v : List Bool), v ≠ [] → (valsOf v gs).getD 0 false = v.getD 0 false ∧ 0 < (valsOf v gs).length := by
    intro gs
    induction gs with
    | nil => intro v hv; exact ⟨rfl, List.length_pos_iff.2 hv⟩
    | cons g gs ih =>
      intro v hv
      have := ih (v ++ [litv v g.a && litv v g.b]) (by simp)
      refine ⟨?_, this.2⟩
      rw [valsOf, this.1]
      cases v with
      | nil => exact absurd rfl hv
      | cons y ys => rfl
  have h := h1 a.g (false :: (r ++ s)) (by simp)
  have h3 : (valsV a s r).getD 0 false = false := h.1
  have h4 : 0 < (valsV a s r).length := h.2
  rw [litv_in (by decide) (by omega)]
  show ((valsV a s r).getD 0 false != _) = true
  rw [h3]; rfl
theorem whole_con {a : Aig} {k : Nat} : ∀ (ins : List (List Int)) (s : List Bool) (b : Bool), wholeGo (conA a 1) k b s ins = wholeGo a k b s ins
  | [], _, _ => rfl
  | r :: rs, s, b => by
    have hc : (stepOk (conA a 1) s (flagsT r)).c = (stepOk a s (flagsT r)).c ++ [true] := by
      show (a.con ++ [1]).map _ = _
      rw [List.map_append]
      show _ ++ [litv (valsV a s (flagsT r)) 1] = _
      rw [lit_one]
    have hn : (stepOk (conA a 1) s (flagsT r)).n = (stepOk a s (flagsT r)).n := rfl
    have hb : (stepOk (conA a 1) s (flagsT r)).b = (stepOk a s (flagsT r)).b := rfl
    rw [wholeGo, wholeGo, hc, hn, hb, whole_con rs, List.any_append]
    simp only [List.any_cons, List.any_nil, Bool.not_true, Bool.or_false, show (false == true) = false from rfl]
theorem whole_same (a : Aig) (t : Trace) : wholeT (conA a 1) t = wholeT a t := by
  simp only [wholeT, conA_right, whole_con]

/-! ### Another bad -/

theorem xor1 (n : Nat) : (n ^^^ 1) / 2 = n / 2 ∧ ((n ^^^ 1) % 2 = 1 ↔ ¬ n % 2 = 1) := by
  refine ⟨by rw [Nat.xor_div_two]; simp, ?_⟩
  have h := Nat.testBit_xor n 1 0
  simp only [Nat.testBit_zero] at h
  by_cases h1 : n % 2 = 1 <;> simp [h1] at h ⊢ <;> omega
theorem bits_xor1 {l : Int} (h0 : 0 ≤ l) (h : l ≤ 9223372036854775807) : bits .xor .i64 l 1 = ((l.toNat ^^^ 1 : Nat) : Int) := by
  have hx : (BitVec.ofInt 64 l).toNat = l.toNat := by
    rw [BitVec.toNat_ofInt]; omega
  show IntKind.i64.wrap ((BitVec.ofInt 64 l ^^^ BitVec.ofInt 64 1).toNat : Int) = _
  rw [BitVec.toNat_xor, hx, show (BitVec.ofInt 64 1).toNat = 1 from rfl]
  obtain ⟨h1, h2⟩ := xor1 l.toNat
  exact IntWalk.i64_in _ ⟨by omega, by omega⟩
abbrev xo (l : Int) : Int := ((l.toNat ^^^ 1 : Nat) : Int)
theorem tr_nn' {x : Int} (hx : Tri x) : notT (notT x) = x := by rcases hx.cases with rfl | rfl | rfl <;> rfl
theorem lit_xor {v : List Int} {l : Int} (h0 : 0 ≤ l) (hl : l / 2 < v.length) (hv : TriL v) : litT v (xo l) = notT (litT v l) := by
  obtain ⟨h1, h2⟩ := xor1 l.toNat
  have e1 : (xo l / 2).toNat = (l / 2).toNat := by show (((l.toNat ^^^ 1 : Nat) : Int) / 2).toNat = _; omega
  have e0 : 0 ≤ xo l := Int.natCast_nonneg _
  have e3 : xo l / 2 < v.length := by show ((l.toNat ^^^ 1 : Nat) : Int) / 2 < _; omega
  by_cases h : l % 2 = 1
  · have : ¬ xo l % 2 = 1 := by show ¬ ((l.toNat ^^^ 1 : Nat) : Int) % 2 = 1; omega
    rw [litT_even e0 e3 this, litT_odd h0 hl h, e1]
    have := hv _ (getD_mem (xs := v) (n := (l / 2).toNat) (by omega))
    exact (tr_nn' this).symm
  · have : xo l % 2 = 1 := by show ((l.toNat ^^^ 1 : Nat) : Int) % 2 = 1; omega
    rw [litT_odd e0 e3 this, litT_even h0 hl h, e1]
abbrev badA (a : Aig) (x : Int) : Aig := ⟨a.i, a.l, a.g, a.outs, [x, xo x, 1, 0], a.con, []⟩
abbrev trB (t : Trace) (n : Int) : Trace := ⟨n, t.ini, t.ins⟩
theorem badA_okt {a : Aig} {t : Trace} (h : Okt a t) (x : Int) {n : Int} (h0 : 0 ≤ n) (h1 : n < 4) : Okt (badA a x) (trB t n) :=
  ⟨⟨h0, h1, h.r.n0, h.r.n1, h.r.it, h.r.ip, h.r.rl, h.r.rt⟩, h.i, h.n⟩
theorem badA_step {a : Aig} {s r : List Int} (h : shapeT a s r) (x : Int) : stepT (badA a x) s r = ⟨(stepT a s r).n, (stepT a s r).o, [litT (valsTV a s r) x, litT (valsTV a s r) (xo x), 1, 0], (stepT a s r).c, 0⟩ := by
  rw [stepT_ok (a := badA a x) h, stepT_ok h]
  simp only [stepTV, List.map_cons, List.map_nil]
  rw [show litT (valsTV (badA a x) s r) 1 = 1 from (lit_zero a s r).2, show litT (valsTV (badA a x) s r) 0 = 0 from (lit_zero a s r).1]
/-- All frames hold. -/
def holdT (a : Aig) (s : List Int) : List (List Int) → Bool
  | [] => true
  | r :: rs => conT (stepT a s r) && holdT a (stepT a s r).n rs
/-- A literal's value in the last frame. -/
def lastT (a : Aig) (x : Int) (b : Int) (s : List Int) : List (List Int) → Int
  | [] => b
  | r :: rs => lastT a x (litT (valsTV a s r) x) (stepT a s r).n rs
theorem go_last {a : Aig} {k : Nat} (hk : k < a.bad.length) : ∀ (ins : List (List Int)) (s : List Int) (b : Int), s.length = a.l.length → TriL s → Rok a ins →
    ternGo k b (frT a s ins) = if holdT a s ins = true then lastT a (a.bad.getD k default) b s ins else 0
  | [], _, _, _, _, _ => rfl
  | r :: rs, s, b, h1, h2, hr => by
    have n1 := stepT_next h1 h2 (hr r List.mem_cons_self).1 (hr r List.mem_cons_self).2
    simp only [frT, ternGo, lastT]
    have hb : (stepT a s r).b.getD k default = litT (valsTV a s r) (a.bad.getD k default) := by
      rw [stepT_ok n1.1]; exact getD_mapf _ hk
    by_cases hc : conT (stepT a s r) = true
    · have hu : holdT a s (r :: rs) = holdT a (stepT a s r).n rs := by rw [holdT, hc, Bool.true_and]
      rw [if_pos hc, go_last hk rs _ _ n1.2.1 n1.2.2 (fun y hy => hr y (List.mem_cons_of_mem _ hy)), hb, hu]
    · have hu : ¬ holdT a s (r :: rs) = true := fun h => by
        rw [holdT, Bool.and_eq_true] at h; exact hc h.1
      rw [if_neg hc, if_neg hu]
theorem bad_same {a : Aig} (x : Int) (y : Int) : ∀ (ins : List (List Int)) (s : List Int) (b : Int), s.length = a.l.length → TriL s → Rok a ins →
    holdT (badA a x) s ins = holdT a s ins ∧ lastT (badA a x) y b s ins = lastT a y b s ins
  | [], _, _, _, _, _ => ⟨rfl, rfl⟩
  | r :: rs, s, b, h1, h2, hr => by
    have n1 := stepT_next h1 h2 (hr r List.mem_cons_self).1 (hr r List.mem_cons_self).2
    have ih := bad_same x y rs (stepT a s r).n (litT (valsTV a s r) y) n1.2.1 n1.2.2 (fun y hy => hr y (List.mem_cons_of_mem _ hy))
    have hst := badA_step n1.1 x
    simp only [holdT, lastT]
    rw [show (stepT (badA a x) s r).n = (stepT a s r).n by rw [hst], show conT (stepT (badA a x) s r) = conT (stepT a s r) by rw [hst]; rfl]
    exact ⟨by rw [ih.1], ih.2⟩
theorem last_const {a : Aig} (x : Int) : ∀ (ins : List (List Int)) (s : List Int) (b : Int), ins ≠ [] → (x = 1 → lastT a x b s ins = 1) ∧ (x = 0 → lastT a x b s ins = 0)
  | [], _, _, h => absurd rfl h
  | [r], s, b, _ => ⟨by rintro rfl; exact (lit_zero a s r).2, by rintro rfl; exact (lit_zero a s r).1⟩
  | r :: r' :: rs, s, b, _ => last_const x (r' :: rs) (stepT a s r).n (litT (valsTV a s r) x) (by simp)
theorem last_xor {a : Aig} (x : Int) (h0 : 0 ≤ x) (h1 : x ≤ 2 * varsS a + 1) : ∀ (ins : List (List Int)) (s : List Int) (b b' : Int), s.length = a.l.length → TriL s → Rok a ins → ins ≠ [] → lastT a (xo x) b s ins = notT (lastT a x b' s ins)
  | [], _, _, _, _, _, _, h => absurd rfl h
  | r :: rs, s, b, b', hs, ht, hr, _ => by
    have n1 := stepT_next hs ht (hr r List.mem_cons_self).1 (hr r List.mem_cons_self).2
    have hlen : (valsTV a s r).length = 1 + r.length + s.length + a.g.length := by show (valsT _ _).length = _; rw [valsT_len]; simp; omega
    have hri := (hr r List.mem_cons_self).1
    have hv : varsS a = a.i + a.l.length + a.g.length := rfl
    have hx := lit_xor (v := valsTV a s r) h0 (by omega) (valsT_tri (init_tri n1.1 ht.nn (hr r List.mem_cons_self).2.nn) _)
    cases rs with
    | nil => exact hx
    | cons r' rs => exact last_xor x h0 h1 (r' :: rs) (stepT a s r).n (litT (valsTV a s r) (xo x)) (litT (valsTV a s r) x) n1.2.1 n1.2.2 (fun y hy => hr y (List.mem_cons_of_mem _ hy)) (by simp)
structure LastP (a : Aig) (t : Trace) (x : Int) (h : Bool) (z : Int) : Prop where
  at0 : ternaryT a t = if h = true ∧ z = 1 then 0 else 8
  b0 : ternaryT (badA a x) (trB t 0) = if h = true ∧ z = 1 then 0 else 8
  b1 : ternaryT (badA a x) (trB t 1) = if h = true ∧ notT z = 1 then 0 else 8
  b2 : ternaryT (badA a x) (trB t 2) = if h = true then 0 else 8
  b3 : ternaryT (badA a x) (trB t 3) = 8
theorem tern_if {a : Aig} {t : Trace} (h : Okt a t) {hh : Bool} {z : Int} (hg : ternGo t.bad.toNat 0 (frT a t.ini t.ins) = if hh = true then z else 0) : ternaryT a t = if hh = true ∧ z = 1 then 0 else 8 := by
  have hr := rightT_iff.2 h.r
  by_cases hc : hh = true ∧ z = 1
  · rw [if_pos hc]; exact ternaryT_0 hr (by rw [hg, if_pos hc.1]; exact hc.2)
  · rw [if_neg hc]
    refine ternaryT_8 hr fun e => ?_
    rw [hg] at e
    cases hh with
    | false => simp at e
    | true => exact hc ⟨rfl, by simpa using e⟩
theorem lastP {a : Aig} (hg : Good a) {t : Trace} (h : Okt a t) : LastP a t (a.bad.getD t.bad.toNat default) (holdT a t.ini t.ins) (lastT a (a.bad.getD t.bad.toNat default) 0 t.ini t.ins) := by
  have hb0 := h.r.b0
  have hb1 := h.r.b1
  have hne : t.ins ≠ [] := by have := h.r.n0; intro e; rw [e] at this; simp at this
  have hx := hg.lit (x := a.bad.getD t.bad.toNat default) (.inr (.inl (getD_mem (by omega))))
  generalize hxe : a.bad.getD t.bad.toNat default = x at hx ⊢
  have hs := fun y => bad_same (a := a) x y t.ins t.ini 0 h.r.il h.i h.rok
  have key : ∀ (n : Nat), n < 4 → ternGo n 0 (frT (badA a x) t.ini t.ins) = if holdT a t.ini t.ins = true then lastT a ([x, xo x, 1, 0].getD n default) 0 t.ini t.ins else 0 := fun n hn => by
    rw [go_last (a := badA a x) (k := n) hn t.ins t.ini 0 h.r.il h.i h.rok, (hs x).1]
    show (if _ then lastT (badA a x) ([x, xo x, 1, 0].getD n default) 0 t.ini t.ins else 0) = _
    rw [(hs _).2]
  refine ⟨?_, ?_, ?_, ?_, ?_⟩
  · exact tern_if h (by rw [go_last (by omega) t.ins t.ini 0 h.r.il h.i h.rok, hxe])
  · exact tern_if (badA_okt h x (by decide) (by decide)) (key 0 (by decide))
  · refine tern_if (badA_okt h x (by decide) (by decide)) ((key 1 (by decide)).trans ?_)
    show (if _ then lastT a (xo x) 0 t.ini t.ins else 0) = _
    rw [last_xor x hx.1 hx.2 t.ins t.ini 0 0 h.r.il h.i h.rok hne]
  · have := tern_if (hh := holdT a t.ini t.ins) (z := 1) (badA_okt h x (n := 2) (by decide) (by decide)) ((key 2 (by decide)).trans (by
      show (if _ then lastT a 1 0 t.ini t.ins else 0) = _
      rw [(last_const (a := a) 1 t.ins t.ini 0 hne).1 rfl]))
    rw [this]; simp
  · have := tern_if (hh := holdT a t.ini t.ins) (z := 0) (badA_okt h x (n := 3) (by decide) (by decide)) ((key 3 (by decide)).trans (by
      show (if _ then lastT a 0 0 t.ini t.ins else 0) = _
      rw [(last_const (a := a) 0 t.ins t.ini 0 hne).2 rfl]))
    rw [this]; simp
theorem badA_fit {a : Aig} (hf : Fit a) (x : Int) : Fit (badA a x) := ⟨hf.l, hf.g, hf.o, by simp, hf.c, by simp, fun j hj => by simp at hj⟩
theorem badA_bd {a : Aig} (hb : Bd a) (x : Int) : Bd (badA a x) := ⟨hb.i0, hb.i1, hb.l1, hb.g1, hb.o1, by simp, hb.c1⟩
theorem trB_sz {t : Trace} (h : SzT t) (n : Int) : SzT (trB t n) := ⟨h.il, h.nl, h.rl⟩
/-- Without holes a value in the last frame is one of two. -/
theorem last_two {a : Aig} (hg : Good a) {x : Int} (h0 : 0 ≤ x) (h1 : x ≤ 2 * varsS a + 1) : ∀ (ins : List (List Int)) (s : List Bool) (b : Int), s.length = a.l.length → Rok a ins → manyR ins = 0 → ins ≠ [] → lastT a x b (s.map ofB) ins = 0 ∨ lastT a x b (s.map ofB) ins = 1
  | [], _, _, _, _, _, h => absurd rfl h
  | r :: rs, s, b, hs, hr, hm, _ => by
    simp only [manyR, List.map_cons, List.sum_cons] at hm
    have h2 := hr r List.mem_cons_self
    have hb := flags_back h2.2 (by omega)
    have hso : s.length = a.l.length ∧ ((flagsT r).length : Int) = a.i := ⟨hs, by rw [flagsT_len]; exact h2.1⟩
    have hl := lits_two hg hso.1 hso.2 h0 h1
    have hgv := good_two hg hso.1 hso.2
    rw [hb] at hgv
    cases rs with
    | nil =>
      show litT (valsTV a (s.map ofB) r) x = 0 ∨ litT (valsTV a (s.map ofB) r) x = 1
      rw [hgv, hl]
      cases litv (valsV a s (flagsT r)) x
      · exact .inl rfl
      · exact .inr rfl
    | cons r' rs =>
      have hst := stepT_two hg s (flagsT r)
      rw [hb, stepS_is hso] at hst
      show lastT a x (litT (valsTV a (s.map ofB) r) x) (stepT a (s.map ofB) r).n (r' :: rs) = 0 ∨ lastT a x (litT (valsTV a (s.map ofB) r) x) (stepT a (s.map ofB) r).n (r' :: rs) = 1
      rw [show (stepT a (s.map ofB) r).n = (stepOk a s (flagsT r)).n.map ofB by rw [hst]]
      exact last_two hg h0 h1 (r' :: rs) _ _ (by simp) (fun y hy => hr y (List.mem_cons_of_mem _ hy)) (by simp only [manyR]; omega) (by simp)
theorem last_val {a : Aig} (hg : Good a) {t : Trace} (h : Okt a t) (hh : holesT t = 0) : lastT a (a.bad.getD t.bad.toNat default) 0 t.ini t.ins = 0 ∨ lastT a (a.bad.getD t.bad.toNat default) 0 t.ini t.ins = 1 := by
  have hb0 := h.r.b0
  have hb1 := h.r.b1
  have hx := hg.lit (x := a.bad.getD t.bad.toNat default) (.inr (.inl (getD_mem (by omega))))
  have h1 : manyT t.ini = 0 ∧ manyR t.ins = 0 := by
    simp only [holesT, manyR, List.map_cons, List.sum_cons] at hh
    simp only [manyR]; omega
  have := last_two hg hx.1 hx.2 t.ins (flagsT t.ini) 0 (by rw [flagsT_len]; exact h.r.il) h.rok h1.2 (by have := h.r.n0; intro e; rw [e] at this; simp at this)
  rwa [flags_back h.i h1.1] at this

theorem pc_27 (a : Aig) (t : Trace) (n : Int) (hf : Fit a) (htf : FitT t) (h0 : -9223372036854775808 ≤ n) (h1 : n ≤ 9223372036854775807) : PCall Try.prog 27 [aigV a, trV t, .int .i64 n] (.bool true) := by
  refine pc_of tab_ok (f := 27) (fn := Try.f27) (N := 126) (rs := [.tmp 6]) (by kernel_rfl) rfl (by kernel_rfl) rfl rfl [(0, .v (aigV a)), (1, .v (trV t)), (2, .v (.int .i64 n))] ⟨rfl, rfl, rfl, trivial⟩ rfl rfl ?_
  intro B
  have hn : Nn t.ini := htf.iu.nn
  have hn2 : ∀ r, r ∈ t.ins → Nn r := fun r hr => (htf.ru r hr).nn
  refine wp_seq ?_
  refine wp_reg (by kernel_rfl) ?_
  refine ar_box 3 [] rfl rfl rfl ⟨rfl, trivial⟩ rfl rfl rfl ?_
  refine ar_box 4 [] rfl rfl rfl ⟨rfl, trivial⟩ rfl rfl rfl ?_
  refine ar_assign rfl rfl rfl rfl ?_
  refine ar_nil ?_
  refine then_n ?_
  refine wp_seq ?_
  refine wp_reg (by kernel_rfl) ?_
  refine ar_call [] (pc_80) rfl rfl rfl rfl rfl rfl trivial (.inl rfl) rfl rfl rfl ?_
  refine ar_assign rfl rfl rfl rfl ?_
  refine ar_nil ?_
  refine then_n ?_
  refine wp_seq ?_
  refine wp_seq ?_
  refine wp_reg (by kernel_rfl) ?_
  refine ar_lda tab_ok rfl rfl rfl tb27 rfl rfl rfl rfl rfl rfl ?_
  refine ar_callE [] (pce_55 a hf) rfl rfl rfl rfl rfl rfl trivial (.inl rfl) rfl rfl rfl ?_
  rintro _ ⟨b14, rfl, hb14⟩
  refine ar_split (fun h14 => ?_) (fun h14 => ?_)
  · refine ar_not rfl rfl rfl rfl rfl ?_
    refine ar_move rfl rfl rfl rfl ?_
    refine ar_lda tab_ok rfl rfl rfl tb101 rfl rfl rfl rfl rfl rfl ?_
    refine ar_callE [] (pce_81 t 20 htf.il htf.nl (by decide)) rfl rfl rfl rfl rfl rfl trivial (.inl rfl) rfl rfl rfl ?_
    rintro _ ⟨b18, rfl, hb18⟩
    refine ar_split (fun h18 => ?_) (fun h18 => ?_)
    · refine ar_not rfl rfl rfl rfl rfl ?_
      refine ar_pickF rfl rfl rfl rfl rfl ?_
      refine ar_move rfl rfl rfl rfl ?_
      refine ar_move rfl rfl rfl rfl ?_
      refine ar_lss_s rfl rfl rfl rfl rfl (fun h23 => ?_) (fun h23 => ?_)
      · refine ar_pickF rfl rfl rfl rfl rfl ?_
        refine ar_move rfl rfl rfl rfl ?_
        refine ar_skip rfl rfl ?_
        refine ar_skip rfl rfl ?_
        refine ar_skip rfl rfl ?_
        refine ar_skip rfl rfl ?_
        refine ar_skip rfl rfl ?_
        refine ar_skip rfl rfl ?_
        refine ar_skip rfl rfl ?_
        refine ar_skip rfl rfl ?_
        refine ar_skip rfl rfl ?_
        refine ar_skip rfl rfl ?_
        refine ar_skip rfl rfl ?_
        refine ar_skip rfl rfl ?_
        refine ar_skip rfl rfl ?_
        refine ar_skip rfl rfl ?_
        refine ar_pickT rfl rfl rfl rfl rfl ?_
        refine ar_move rfl rfl rfl rfl ?_
        refine ar_skip rfl rfl ?_
        refine ar_skip rfl rfl ?_
        refine ar_skip rfl rfl ?_
        refine ar_skip rfl rfl ?_
        refine ar_pickT rfl rfl rfl rfl rfl ?_
        refine ar_nil ?_
        refine then_n ?_
        refine wp_condT rfl ?_
        refine wp_seq ?_
        refine wp_reg (by kernel_rfl) ?_
        refine ar_move rfl rfl rfl rfl ?_
        refine ar_assign rfl rfl rfl rfl ?_
        refine ar_nil ?_
        refine then_n ?_
        refine wp_ret ?_
        refine then_r (ret_post rfl rfl ?_)
        rfl
      · refine ar_pickF rfl rfl rfl rfl rfl ?_
        refine ar_move rfl rfl rfl rfl ?_
        refine ar_move rfl rfl rfl rfl ?_
        refine ar_fa tab_ok rfl rfl rfl tb27 rfl rfl rfl rfl rfl ?_
        refine ar_ld tab_ok rfl rfl rfl tb3 rfl rfl rfl rfl rfl ?_
        refine ar_fa tab_ok rfl rfl rfl tb27 rfl rfl rfl rfl rfl ?_
        refine ar_ld tab_ok rfl rfl rfl tb22 rfl rfl rfl rfl rfl ?_
        refine ar_len tab_ok rfl rfl tb22 rfl len_map rfl rfl ?_
        refine ar_addi rfl rfl rfl rfl (by have hq := (hb14 h14).bd; have q1 := hq.i0; have q2 := hq.i1; have q3 := hq.l1; have q4 := hq.g1; omega) (by have hq := (hb14 h14).bd; have q1 := hq.i0; have q2 := hq.i1; have q3 := hq.l1; have q4 := hq.g1; omega) rfl rfl ?_
        refine ar_fa tab_ok rfl rfl rfl tb27 rfl rfl rfl rfl rfl ?_
        refine ar_ld tab_ok rfl rfl rfl tb23 rfl rfl rfl rfl rfl ?_
        refine ar_len tab_ok rfl rfl tb23 rfl len_map rfl rfl ?_
        refine ar_addi rfl rfl rfl rfl (by have hq := (hb14 h14).bd; have q1 := hq.i0; have q2 := hq.i1; have q3 := hq.l1; have q4 := hq.g1; omega) (by have hq := (hb14 h14).bd; have q1 := hq.i0; have q2 := hq.i1; have q3 := hq.l1; have q4 := hq.g1; omega) rfl rfl ?_
        refine ar_muli rfl rfl rfl rfl (by have hq := (hb14 h14).bd; have q1 := hq.i0; have q2 := hq.i1; have q3 := hq.l1; have q4 := hq.g1; omega) (by have hq := (hb14 h14).bd; have q1 := hq.i0; have q2 := hq.i1; have q3 := hq.l1; have q4 := hq.g1; omega) rfl rfl ?_
        refine ar_addi rfl rfl rfl rfl (by have hq := (hb14 h14).bd; have q1 := hq.i0; have q2 := hq.i1; have q3 := hq.l1; have q4 := hq.g1; omega) (by have hq := (hb14 h14).bd; have q1 := hq.i0; have q2 := hq.i1; have q3 := hq.l1; have q4 := hq.g1; omega) rfl rfl ?_
        refine ar_gtr_s rfl rfl rfl rfl rfl (fun h39 => ?_) (fun h39 => ?_)
        · refine ar_pickF rfl rfl rfl rfl rfl ?_
          refine ar_move rfl rfl rfl rfl ?_
          refine ar_skip rfl rfl ?_
          refine ar_skip rfl rfl ?_
          refine ar_skip rfl rfl ?_
          refine ar_skip rfl rfl ?_
          refine ar_pickT rfl rfl rfl rfl rfl ?_
          refine ar_nil ?_
          refine then_n ?_
          refine wp_condT rfl ?_
          refine wp_seq ?_
          refine wp_reg (by kernel_rfl) ?_
          refine ar_move rfl rfl rfl rfl ?_
          refine ar_assign rfl rfl rfl rfl ?_
          refine ar_nil ?_
          refine then_n ?_
          refine wp_ret ?_
          refine then_r (ret_post rfl rfl ?_)
          rfl
        · refine ar_pickF rfl rfl rfl rfl rfl ?_
          refine ar_move rfl rfl rfl rfl ?_
          refine ar_fa tab_ok rfl rfl rfl tb27 rfl rfl rfl rfl rfl ?_
          refine ar_ld tab_ok rfl rfl rfl tb24 rfl rfl rfl rfl rfl ?_
          refine ar_len tab_ok rfl rfl tb24 rfl len_map rfl rfl ?_
          refine ar_gtr_s rfl rfl rfl rfl rfl (fun h45 => ?_) (fun h45 => ?_)
          · refine ar_pickF rfl rfl rfl rfl rfl ?_
            refine ar_nil ?_
            refine then_n ?_
            refine wp_condT rfl ?_
            refine wp_seq ?_
            refine wp_reg (by kernel_rfl) ?_
            refine ar_move rfl rfl rfl rfl ?_
            refine ar_assign rfl rfl rfl rfl ?_
            refine ar_nil ?_
            refine then_n ?_
            refine wp_ret ?_
            refine then_r (ret_post rfl rfl ?_)
            rfl
          · refine ar_pickF rfl rfl rfl rfl rfl ?_
            refine ar_nil ?_
            refine then_n ?_
            refine wp_condF rfl ?_
            refine wp_skip ?_
            refine then_n ?_
            refine wp_seq ?_
            have hg := hb14 h14
            have hbd := hg.bd
            have hz := (hb18 h18).sz (by decide)
            refine wp_reg (by kernel_rfl) ?_
            refine ar_lda tab_ok rfl rfl rfl tb27 rfl rfl rfl rfl rfl rfl ?_
            refine ar_alloc (id := 8) tab_ok rfl rfl tb27 rfl rfl rfl rfl ?_
            refine ar_st [] tab_ok rfl tb27 rfl rfl rfl trivial rfl rfl rfl rfl rfl rfl rfl rfl ?_
            refine ar_nil ?_
            refine then_n ?_
            refine wp_seq ?_
            refine wp_reg (by kernel_rfl) ?_
            refine ar_bs_own (es := ([] : List Int).map encI) 49 [] tab_ok rfl tb24 rfl tb3 rfl rfl ⟨rfl, trivial⟩ rfl rfl rfl rfl rfl rfl rfl rfl rfl ?_
            refine ar_fa tab_ok rfl rfl rfl tb27 rfl rfl rfl rfl rfl ?_
            refine ar_ld tab_ok rfl rfl rfl tb24 rfl rfl rfl rfl rfl ?_
            refine ar_app 52 [] tab_ok rfl tb24 rfl tb24 rfl tb3 rfl rfl rfl rfl ⟨rfl, rfl, trivial⟩ rfl (el_3 _) app_map (by constructor <;> simp <;> omega) rfl rfl rfl ?_
            refine ar_move rfl rfl rfl rfl ?_
            refine ar_bs [] tab_ok rfl tb24 rfl tb3 rfl trivial rfl rfl rfl rfl rfl rfl rfl rfl ?_
            refine ar_app 55 [] tab_ok rfl tb24 rfl tb24 rfl tb3 rfl rfl rfl rfl ⟨rfl, rfl, trivial⟩ rfl (elOk.cons rfl rfl elOk.nil) app_one (by constructor <;> simp <;> omega) rfl rfl rfl ?_
            refine ar_fa tab_ok rfl rfl rfl tb27 rfl rfl rfl rfl rfl ?_
            refine ar_st [(55, _)] tab_ok rfl tb24 rfl rfl rfl ⟨rfl, trivial⟩ rfl rfl rfl rfl rfl rfl rfl rfl ?_
            refine ar_nil ?_
            refine then_n ?_
            refine wp_seq ?_
            refine wp_reg (by kernel_rfl) ?_
            refine ar_lda tab_ok rfl rfl rfl tb27 rfl rfl rfl rfl rfl rfl ?_
            refine ar_alloc (id := 9) tab_ok rfl rfl tb27 rfl rfl rfl rfl ?_
            refine ar_st [] tab_ok rfl tb27 rfl rfl rfl trivial rfl rfl rfl rfl rfl rfl rfl rfl ?_
            refine ar_nil ?_
            refine then_n ?_
            refine wp_seq ?_
            refine wp_reg (by kernel_rfl) ?_
            refine ar_bs_own (es := ([] : List Int).map encI) 58 [] tab_ok rfl tb24 rfl tb3 rfl rfl ⟨rfl, trivial⟩ rfl rfl rfl rfl rfl rfl rfl rfl rfl ?_
            refine ar_fa tab_ok rfl rfl rfl tb27 rfl rfl rfl rfl rfl ?_
            refine ar_ld tab_ok rfl rfl rfl tb24 rfl rfl rfl rfl rfl ?_
            refine ar_app 61 [] tab_ok rfl tb24 rfl tb24 rfl tb3 rfl rfl rfl rfl ⟨rfl, rfl, trivial⟩ rfl (el_3 _) app_map (by constructor <;> simp <;> omega) rfl rfl rfl ?_
            refine ar_bs [] tab_ok rfl tb24 rfl tb3 rfl trivial rfl rfl rfl rfl rfl rfl rfl rfl ?_
            refine ar_app 63 [] tab_ok rfl tb24 rfl tb24 rfl tb3 rfl rfl rfl rfl ⟨rfl, rfl, trivial⟩ rfl (elOk.cons rfl rfl elOk.nil) app_one (by constructor <;> simp <;> omega) rfl rfl rfl ?_
            refine ar_fa tab_ok rfl rfl rfl tb27 rfl rfl rfl rfl rfl ?_
            refine ar_st [(63, _)] tab_ok rfl tb24 rfl rfl rfl ⟨rfl, trivial⟩ rfl rfl rfl rfl rfl rfl rfl rfl ?_
            refine ar_nil ?_
            refine then_n ?_
            refine wp_seq ?_
            refine wp_reg (by kernel_rfl) ?_
            refine ar_lda tab_ok rfl rfl rfl tb27 rfl rfl rfl rfl rfl rfl ?_
            refine ar_alloc (id := 10) tab_ok rfl rfl tb27 rfl rfl rfl rfl ?_
            refine ar_st [] tab_ok rfl tb27 rfl rfl rfl trivial rfl rfl rfl rfl rfl rfl rfl rfl ?_
            refine ar_nil ?_
            refine then_n ?_
            refine wp_seq ?_
            refine wp_reg (by kernel_rfl) ?_
            refine ar_bs_own (es := ([] : List Int).map encI) 66 [] tab_ok rfl tb24 rfl tb3 rfl rfl ⟨rfl, trivial⟩ rfl rfl rfl rfl rfl rfl rfl rfl rfl ?_
            refine ar_fa tab_ok rfl rfl rfl tb27 rfl rfl rfl rfl rfl ?_
            refine ar_ld tab_ok rfl rfl rfl tb24 rfl rfl rfl rfl rfl ?_
            refine ar_app 69 [] tab_ok rfl tb24 rfl tb24 rfl tb3 rfl rfl rfl rfl ⟨rfl, rfl, trivial⟩ rfl (el_3 _) app_map (by constructor <;> simp <;> omega) rfl rfl rfl ?_
            refine ar_bs [] tab_ok rfl tb24 rfl tb3 rfl trivial rfl rfl rfl rfl rfl rfl rfl rfl ?_
            refine ar_app 71 [] tab_ok rfl tb24 rfl tb24 rfl tb3 rfl rfl rfl rfl ⟨rfl, rfl, trivial⟩ rfl (elOk.cons rfl rfl elOk.nil) app_one (by constructor <;> simp <;> omega) rfl rfl rfl ?_
            refine ar_fa tab_ok rfl rfl rfl tb27 rfl rfl rfl rfl rfl ?_
            refine ar_st [(71, _)] tab_ok rfl tb24 rfl rfl rfl ⟨rfl, trivial⟩ rfl rfl rfl rfl rfl rfl rfl rfl ?_
            refine ar_nil ?_
            refine then_n ?_
            refine wp_seq ?_
            refine wp_reg (by kernel_rfl) ?_
            refine ar_lda tab_ok rfl rfl rfl tb27 rfl rfl rfl rfl rfl rfl ?_
            refine ar_lda tab_ok rfl rfl rfl tb101 rfl rfl rfl rfl rfl rfl ?_
            refine ar_call [] (pc_85 a t hf hbd hz hn hn2) rfl rfl rfl rfl rfl rfl trivial (.inl rfl) rfl rfl rfl ?_
            refine ar_assign rfl rfl rfl rfl ?_
            refine ar_nil ?_
            refine then_n ?_
            refine wp_seq ?_
            refine wp_seq ?_
            refine wp_reg (by kernel_rfl) ?_
            refine ar_move rfl rfl rfl rfl ?_
            refine ar_eql_s rfl rfl rfl rfl rfl (fun h77 => ?_) (fun h77 => ?_)
            · refine ar_nil ?_
              refine then_n ?_
              refine wp_condT rfl ?_
              refine wp_seq ?_
              refine wp_reg (by kernel_rfl) ?_
              refine ar_move rfl rfl rfl rfl ?_
              refine ar_move rfl rfl rfl rfl ?_
              refine ar_lda tab_ok rfl rfl rfl tb27 rfl rfl rfl rfl rfl rfl ?_
              refine ar_lda tab_ok rfl rfl rfl tb101 rfl rfl rfl rfl rfl rfl ?_
              refine ar_call [(55, _)] (pc_85 (conA a n) t (conA_fit hf hbd _) (conA_bd hbd (by omega) _) hz hn hn2) rfl rfl rfl rfl rfl rfl ⟨rfl, trivial⟩ (.inr rfl) rfl rfl rfl ?_
              refine ar_move rfl rfl rfl rfl ?_
              refine ar_eql rfl rfl rfl (decide_eq_true (by rw [h77]; have h := tern_7.1 h77; exact tern_7.2 h)) rfl rfl ?_
              refine ar_pickT rfl rfl rfl rfl rfl ?_
              refine ar_move rfl rfl rfl rfl ?_
              refine ar_lda tab_ok rfl rfl rfl tb27 rfl rfl rfl rfl rfl rfl ?_
              refine ar_lda tab_ok rfl rfl rfl tb101 rfl rfl rfl rfl rfl rfl ?_
              refine ar_call [(71, _)] (pc_85 (conA a 0) t (conA_fit hf hbd _) (conA_bd hbd (by omega) _) hz hn hn2) rfl rfl rfl rfl rfl rfl ⟨rfl, trivial⟩ (.inr rfl) rfl rfl rfl ?_
              refine ar_move rfl rfl rfl rfl ?_
              refine ar_eql rfl rfl rfl (decide_eq_true (by rw [h77]; have h := tern_7.1 h77; exact tern_7.2 h)) rfl rfl ?_
              refine ar_pickT rfl rfl rfl rfl rfl ?_
              refine ar_assign rfl rfl rfl rfl ?_
              refine ar_nil ?_
              refine then_n ?_
              refine wp_ret ?_
              refine then_r (ret_post rfl rfl ?_)
              rfl
            · refine ar_nil ?_
              refine then_n ?_
              refine wp_condF rfl ?_
              refine wp_skip ?_
              refine then_n ?_
              refine wp_seq ?_
              have hr := tern_n7 h77
              have ho := okt_of (rightT_iff.1 hr) hn hn2
              refine wp_draw (L := [([], []), ([], []), ([], []), ([], []), ([], []), ([8], []), ([4], []), ([55], []), ([], []), ([], []), ([], []), ([], []), ([9], []), ([4], []), ([63], []), ([], []), ([], []), ([], []), ([], []), ([10], []), ([4], []), ([71], []), ([], []), ([], []), ([], []), ([9], []), ([4], []), ([63], []), ([3], []), ([4], []), ([], []), ([], []), ([], []), ([], [])]) (by kernel_rfl) mixed (by kernel_rfl) ?_
              refine ar_move rfl rfl rfl rfl ?_
              refine ar_move rfl rfl rfl rfl ?_
              refine ar_move rfl rfl rfl rfl ?_
              refine ar_eql_s rfl rfl rfl rfl rfl (fun h96 => ?_) (fun h96 => ?_)
              · refine ar_move rfl rfl rfl rfl ?_
                refine ar_skip rfl rfl ?_
                refine ar_skip rfl rfl ?_
                refine ar_skip rfl rfl ?_
                refine ar_skip rfl rfl ?_
                refine ar_pickT rfl rfl rfl rfl rfl ?_
                refine ar_pickT rfl rfl rfl rfl rfl ?_
                refine ar_move rfl rfl rfl rfl ?_
                refine ar_lda tab_ok rfl rfl rfl tb27 rfl rfl rfl rfl rfl rfl ?_
                refine ar_lda tab_ok rfl rfl rfl tb101 rfl rfl rfl rfl rfl rfl ?_
                refine ar_call [(63, _)] (pc_85 (conA a 1) t (conA_fit hf hbd _) (conA_bd hbd (by omega) _) hz hn hn2) rfl rfl rfl rfl rfl rfl ⟨rfl, trivial⟩ (.inr rfl) rfl rfl rfl ?_
                refine ar_move rfl rfl rfl rfl ?_
                refine ar_eql rfl rfl rfl (decide_eq_true (by exact con_same ho)) rfl rfl ?_
                refine ar_pickT rfl rfl rfl rfl rfl ?_
                refine ar_move rfl rfl rfl rfl ?_
                refine ar_lda tab_ok rfl rfl rfl tb27 rfl rfl rfl rfl rfl rfl ?_
                refine ar_lda tab_ok rfl rfl rfl tb101 rfl rfl rfl rfl rfl rfl ?_
                refine ar_call [(71, _)] (pc_85 (conA a 0) t (conA_fit hf hbd _) (conA_bd hbd (by omega) _) hz hn hn2) rfl rfl rfl rfl rfl rfl ⟨rfl, trivial⟩ (.inr rfl) rfl rfl rfl ?_
                refine ar_eql rfl rfl rfl (decide_eq_true (by exact con_never ho)) rfl rfl ?_
                refine ar_pickT rfl rfl rfl rfl rfl ?_
                refine ar_move rfl rfl rfl rfl ?_
                refine ar_lda tab_ok rfl rfl rfl tb27 rfl rfl rfl rfl rfl rfl ?_
                refine ar_lda tab_ok rfl rfl rfl tb101 rfl rfl rfl rfl rfl rfl ?_
                refine ar_call [(63, _)] (pc_86 (conA a 1) t (conA_fit hf hbd _) (conA_bd hbd (by omega) _) hz hn hn2) rfl rfl rfl rfl rfl rfl ⟨rfl, trivial⟩ (.inr rfl) rfl rfl rfl ?_
                refine ar_lda tab_ok rfl rfl rfl tb27 rfl rfl rfl rfl rfl rfl ?_
                refine ar_lda tab_ok rfl rfl rfl tb101 rfl rfl rfl rfl rfl rfl ?_
                refine ar_call [] (pc_86 a t hf hbd hz hn hn2) rfl rfl rfl rfl rfl rfl trivial (.inl rfl) rfl rfl rfl ?_
                refine ar_eql rfl rfl rfl (decide_eq_true (by exact whole_same a t)) rfl rfl ?_
                refine ar_pickT rfl rfl rfl rfl rfl ?_
                refine ar_assign rfl rfl rfl rfl ?_
                refine ar_nil ?_
                refine then_n ?_
                refine wp_ret ?_
                refine ret_post rfl rfl ?_
                rfl
              · refine ar_move rfl rfl rfl rfl ?_
                refine ar_lda tab_ok rfl rfl rfl tb27 rfl rfl rfl rfl rfl rfl ?_
                refine ar_lda tab_ok rfl rfl rfl tb101 rfl rfl rfl rfl rfl rfl ?_
                refine ar_call [(55, _)] (pc_85 (conA a n) t (conA_fit hf hbd _) (conA_bd hbd (by omega) _) hz hn hn2) rfl rfl rfl rfl rfl rfl ⟨rfl, trivial⟩ (.inr rfl) rfl rfl rfl ?_
                refine ar_neq rfl rfl rfl (decide_eq_true (by exact fun h => h96 (con_more ho _ h))) rfl rfl ?_
                refine ar_pickF rfl rfl rfl rfl rfl ?_
                refine ar_pickT rfl rfl rfl rfl rfl ?_
                refine ar_move rfl rfl rfl rfl ?_
                refine ar_lda tab_ok rfl rfl rfl tb27 rfl rfl rfl rfl rfl rfl ?_
                refine ar_lda tab_ok rfl rfl rfl tb101 rfl rfl rfl rfl rfl rfl ?_
                refine ar_call [(63, _)] (pc_85 (conA a 1) t (conA_fit hf hbd _) (conA_bd hbd (by omega) _) hz hn hn2) rfl rfl rfl rfl rfl rfl ⟨rfl, trivial⟩ (.inr rfl) rfl rfl rfl ?_
                refine ar_move rfl rfl rfl rfl ?_
                refine ar_eql rfl rfl rfl (decide_eq_true (by exact con_same ho)) rfl rfl ?_
                refine ar_pickT rfl rfl rfl rfl rfl ?_
                refine ar_move rfl rfl rfl rfl ?_
                refine ar_lda tab_ok rfl rfl rfl tb27 rfl rfl rfl rfl rfl rfl ?_
                refine ar_lda tab_ok rfl rfl rfl tb101 rfl rfl rfl rfl rfl rfl ?_
                refine ar_call [(71, _)] (pc_85 (conA a 0) t (conA_fit hf hbd _) (conA_bd hbd (by omega) _) hz hn hn2) rfl rfl rfl rfl rfl rfl ⟨rfl, trivial⟩ (.inr rfl) rfl rfl rfl ?_
                refine ar_eql rfl rfl rfl (decide_eq_true (by exact con_never ho)) rfl rfl ?_
                refine ar_pickT rfl rfl rfl rfl rfl ?_
                refine ar_move rfl rfl rfl rfl ?_
                refine ar_lda tab_ok rfl rfl rfl tb27 rfl rfl rfl rfl rfl rfl ?_
                refine ar_lda tab_ok rfl rfl rfl tb101 rfl rfl rfl rfl rfl rfl ?_
                refine ar_call [(63, _)] (pc_86 (conA a 1) t (conA_fit hf hbd _) (conA_bd hbd (by omega) _) hz hn hn2) rfl rfl rfl rfl rfl rfl ⟨rfl, trivial⟩ (.inr rfl) rfl rfl rfl ?_
                refine ar_lda tab_ok rfl rfl rfl tb27 rfl rfl rfl rfl rfl rfl ?_
                refine ar_lda tab_ok rfl rfl rfl tb101 rfl rfl rfl rfl rfl rfl ?_
                refine ar_call [] (pc_86 a t hf hbd hz hn hn2) rfl rfl rfl rfl rfl rfl trivial (.inl rfl) rfl rfl rfl ?_
                refine ar_eql rfl rfl rfl (decide_eq_true (by exact whole_same a t)) rfl rfl ?_
                refine ar_pickT rfl rfl rfl rfl rfl ?_
                refine ar_assign rfl rfl rfl rfl ?_
                refine ar_nil ?_
                refine then_n ?_
                refine wp_ret ?_
                refine ret_post rfl rfl ?_
                rfl
    · refine ar_not rfl rfl rfl rfl rfl ?_
      refine ar_pickF rfl rfl rfl rfl rfl ?_
      refine ar_move rfl rfl rfl rfl ?_
      refine ar_skip rfl rfl ?_
      refine ar_skip rfl rfl ?_
      refine ar_pickT rfl rfl rfl rfl rfl ?_
      refine ar_move rfl rfl rfl rfl ?_
      refine ar_skip rfl rfl ?_
      refine ar_skip rfl rfl ?_
      refine ar_skip rfl rfl ?_
      refine ar_skip rfl rfl ?_
      refine ar_skip rfl rfl ?_
      refine ar_skip rfl rfl ?_
      refine ar_skip rfl rfl ?_
      refine ar_skip rfl rfl ?_
      refine ar_skip rfl rfl ?_
      refine ar_skip rfl rfl ?_
      refine ar_skip rfl rfl ?_
      refine ar_skip rfl rfl ?_
      refine ar_skip rfl rfl ?_
      refine ar_skip rfl rfl ?_
      refine ar_pickT rfl rfl rfl rfl rfl ?_
      refine ar_move rfl rfl rfl rfl ?_
      refine ar_skip rfl rfl ?_
      refine ar_skip rfl rfl ?_
      refine ar_skip rfl rfl ?_
      refine ar_skip rfl rfl ?_
      refine ar_pickT rfl rfl rfl rfl rfl ?_
      refine ar_nil ?_
      refine then_n ?_
      refine wp_condT rfl ?_
      refine wp_seq ?_
      refine wp_reg (by kernel_rfl) ?_
      refine ar_move rfl rfl rfl rfl ?_
      refine ar_assign rfl rfl rfl rfl ?_
      refine ar_nil ?_
      refine then_n ?_
      refine wp_ret ?_
      refine then_r (ret_post rfl rfl ?_)
      rfl
  · refine ar_not rfl rfl rfl rfl rfl ?_
    refine ar_move rfl rfl rfl rfl ?_
    refine ar_skip rfl rfl ?_
    refine ar_skip rfl rfl ?_
    refine ar_skip rfl rfl ?_
    refine ar_pickT rfl rfl rfl rfl rfl ?_
    refine ar_move rfl rfl rfl rfl ?_
    refine ar_skip rfl rfl ?_
    refine ar_skip rfl rfl ?_
    refine ar_pickT rfl rfl rfl rfl rfl ?_
    refine ar_move rfl rfl rfl rfl ?_
    refine ar_skip rfl rfl ?_
    refine ar_skip rfl rfl ?_
    refine ar_skip rfl rfl ?_
    refine ar_skip rfl rfl ?_
    refine ar_skip rfl rfl ?_
    refine ar_skip rfl rfl ?_
    refine ar_skip rfl rfl ?_
    refine ar_skip rfl rfl ?_
    refine ar_skip rfl rfl ?_
    refine ar_skip rfl rfl ?_
    refine ar_skip rfl rfl ?_
    refine ar_skip rfl rfl ?_
    refine ar_skip rfl rfl ?_
    refine ar_skip rfl rfl ?_
    refine ar_pickT rfl rfl rfl rfl rfl ?_
    refine ar_move rfl rfl rfl rfl ?_
    refine ar_skip rfl rfl ?_
    refine ar_skip rfl rfl ?_
    refine ar_skip rfl rfl ?_
    refine ar_skip rfl rfl ?_
    refine ar_pickT rfl rfl rfl rfl rfl ?_
    refine ar_nil ?_
    refine then_n ?_
    refine wp_condT rfl ?_
    refine wp_seq ?_
    refine wp_reg (by kernel_rfl) ?_
    refine ar_move rfl rfl rfl rfl ?_
    refine ar_assign rfl rfl rfl rfl ?_
    refine ar_nil ?_
    refine then_n ?_
    refine wp_ret ?_
    refine then_r (ret_post rfl rfl ?_)
    rfl


theorem last_a {a : Aig} {t : Trace} {x z : Int} {h : Bool} (hL : LastP a t x h z) (h0 : ¬ ternaryT (badA a x) (trB t 0) ≠ 0) : ternaryT (badA a x) (trB t 1) ≠ 0 := by
  rw [hL.b0] at h0
  rw [hL.b1]
  by_cases hc : h = true ∧ z = 1
  · rw [if_neg (by rintro ⟨_, e⟩; rw [hc.2] at e; exact absurd e (by decide))]; decide
  · rw [if_neg hc] at h0; exact absurd (by decide) h0
theorem last_h {a : Aig} {t : Trace} {x z : Int} {h : Bool} (hL : LastP a t x h z) (h2 : ¬ ternaryT (badA a x) (trB t 2) = 0) : ¬ h = true := fun e => by
  rw [hL.b2, if_pos e] at h2; exact h2 rfl
theorem last_b {a : Aig} {t : Trace} {x z : Int} {h : Bool} (hL : LastP a t x h z) (h2 : ¬ ternaryT (badA a x) (trB t 2) = 0) : ternaryT (badA a x) (trB t 1) ≠ 0 := by
  rw [hL.b1, if_neg (fun e => last_h hL h2 e.1)]; decide
theorem last_c {a : Aig} {t : Trace} {x z : Int} {h : Bool} (hL : LastP a t x h z) (h2 : ¬ ternaryT (badA a x) (trB t 2) = 0) : ternaryT (badA a x) (trB t 0) ≠ 0 := by
  rw [hL.b0, if_neg (fun e => last_h hL h2 e.1)]; decide
theorem last_d {a : Aig} {t : Trace} {x z : Int} {h : Bool} (hL : LastP a t x h z) (hz : z = 0 ∨ z = 1) (h2 : ¬ ternaryT (badA a x) (trB t 2) ≠ 0) : (decide (ternaryT (badA a x) (trB t 0) = 0) != decide (ternaryT (badA a x) (trB t 1) = 0)) = true := by
  have hh : h = true := by
    cases h with
    | true => rfl
    | false => rw [hL.b2] at h2; exact absurd (by decide) h2
  rw [hL.b0, hL.b1]
  rcases hz with rfl | rfl <;> simp [hh, notT]

theorem pc_28 (a : Aig) (t : Trace) (hf : Fit a) (htf : FitT t) : PCall Try.prog 28 [aigV a, trV t] (.bool true) := by
  refine pc_of tab_ok (f := 28) (fn := Try.f28) (N := 109) (rs := [.tmp 4]) (by kernel_rfl) rfl (by kernel_rfl) rfl rfl [(0, .v (aigV a)), (1, .v (trV t))] ⟨rfl, rfl, trivial⟩ rfl rfl ?_
  intro B
  have hn : Nn t.ini := htf.iu.nn
  have hn2 : ∀ r, r ∈ t.ins → Nn r := fun r hr => (htf.ru r hr).nn
  refine wp_seq ?_
  refine wp_reg (by kernel_rfl) ?_
  refine ar_box 2 [] rfl rfl rfl ⟨rfl, trivial⟩ rfl rfl rfl ?_
  refine ar_box 3 [] rfl rfl rfl ⟨rfl, trivial⟩ rfl rfl rfl ?_
  refine ar_assign rfl rfl rfl rfl ?_
  refine ar_nil ?_
  refine then_n ?_
  refine wp_seq ?_
  refine wp_reg (by kernel_rfl) ?_
  refine ar_call [] (pc_80) rfl rfl rfl rfl rfl rfl trivial (.inl rfl) rfl rfl rfl ?_
  refine ar_assign rfl rfl rfl rfl ?_
  refine ar_nil ?_
  refine then_n ?_
  refine wp_seq ?_
  refine wp_seq ?_
  refine wp_reg (by kernel_rfl) ?_
  refine ar_lda tab_ok rfl rfl rfl tb27 rfl rfl rfl rfl rfl rfl ?_
  refine ar_callE [] (pce_55 a hf) rfl rfl rfl rfl rfl rfl trivial (.inl rfl) rfl rfl rfl ?_
  rintro _ ⟨b16, rfl, hb16⟩
  refine ar_split (fun h16 => ?_) (fun h16 => ?_)
  · refine ar_not rfl rfl rfl rfl rfl ?_
    refine ar_move rfl rfl rfl rfl ?_
    refine ar_lda tab_ok rfl rfl rfl tb101 rfl rfl rfl rfl rfl rfl ?_
    refine ar_callE [] (pce_81 t 20 htf.il htf.nl (by decide)) rfl rfl rfl rfl rfl rfl trivial (.inl rfl) rfl rfl rfl ?_
    rintro _ ⟨b20, rfl, hb20⟩
    refine ar_split (fun h20 => ?_) (fun h20 => ?_)
    · refine ar_not rfl rfl rfl rfl rfl ?_
      refine ar_pickF rfl rfl rfl rfl rfl ?_
      refine ar_move rfl rfl rfl rfl ?_
      refine ar_lda tab_ok rfl rfl rfl tb27 rfl rfl rfl rfl rfl rfl ?_
      refine ar_lda tab_ok rfl rfl rfl tb101 rfl rfl rfl rfl rfl rfl ?_
      refine ar_call [] (pc_79 a t hf hn htf.il htf.nl htf.rl) rfl rfl rfl rfl rfl rfl trivial (.inl rfl) rfl rfl rfl ?_
      refine ar_split (fun h26 => ?_) (fun h26 => ?_)
      · refine ar_not rfl rfl rfl rfl rfl ?_
        refine ar_pickF rfl rfl rfl rfl rfl ?_
        refine ar_nil ?_
        refine then_n ?_
        refine wp_condF rfl ?_
        refine wp_skip ?_
        refine then_n ?_
        refine wp_seq ?_
        have hg := hb16 h16
        have hbd := hg.bd
        have hz := (hb20 h20).sz (by decide)
        have ho := okt_of (rightT_iff.1 h26) hn hn2
        have hq1 := ho.r.b0; have hq2 := ho.r.b1
        have hx := hg.lit (x := (a.bad.getD t.bad.toNat default)) (.inr (.inl (getD_mem (by omega))))
        have hv := hg.vars
        have hL := lastP hg ho
        refine wp_reg (by kernel_rfl) ?_
        refine ar_fa tab_ok rfl rfl rfl tb27 rfl rfl rfl rfl rfl ?_
        refine ar_ld tab_ok rfl rfl rfl tb24 rfl rfl rfl rfl rfl ?_
        refine ar_fa tab_ok rfl rfl rfl tb101 rfl rfl rfl rfl rfl ?_
        refine ar_ld tab_ok rfl rfl rfl tb3 rfl rfl rfl rfl rfl ?_
        refine ar_ia tab_ok rfl rfl rfl tb24 rfl tb3 hq1 (map_get (n := t.bad.toNat) (by omega)) rfl rfl rfl ?_
        refine ar_ld_ref tab_ok rfl rfl tb3 rfl rfl rfl rfl ?_
        refine ar_assign rfl rfl rfl rfl ?_
        refine ar_nil ?_
        refine then_n ?_
        refine wp_seq ?_
        refine wp_reg (by kernel_rfl) ?_
        refine ar_lda tab_ok rfl rfl rfl tb27 rfl rfl rfl rfl rfl rfl ?_
        refine ar_alloc (id := 7) tab_ok rfl rfl tb27 rfl rfl rfl rfl ?_
        refine ar_st [] tab_ok rfl tb27 rfl rfl rfl trivial rfl rfl rfl rfl rfl rfl rfl rfl ?_
        refine ar_nil ?_
        refine then_n ?_
        refine wp_seq ?_
        refine wp_reg (by kernel_rfl) ?_
        refine ar_move rfl rfl rfl rfl ?_
        refine ar_move rfl rfl rfl rfl ?_
        refine ar_xor (z := xo (a.bad.getD t.bad.toNat default)) rfl rfl rfl (bits_xor1 hx.1 (by omega)) rfl rfl ?_
        refine ar_bs (es := [(a.bad.getD t.bad.toNat default), xo (a.bad.getD t.bad.toNat default), 1, 0].map encI) [] tab_ok rfl tb24 rfl tb3 rfl trivial rfl rfl rfl rfl rfl rfl rfl rfl ?_
        refine ar_fa tab_ok rfl rfl rfl tb27 rfl rfl rfl rfl rfl ?_
        refine ar_st [] tab_ok rfl tb24 rfl rfl rfl trivial rfl rfl rfl rfl rfl rfl rfl rfl ?_
        refine ar_nil ?_
        refine then_n ?_
        refine wp_seq ?_
        refine wp_reg (by kernel_rfl) ?_
        refine ar_fa tab_ok rfl rfl rfl tb27 rfl rfl rfl rfl rfl ?_
        refine ar_st [] tab_ok rfl tb25 rfl rfl rfl trivial rfl rfl rfl rfl rfl rfl rfl rfl ?_
        refine ar_nil ?_
        refine then_n ?_
        refine wp_seq ?_
        refine wp_reg (by kernel_rfl) ?_
        refine ar_lda tab_ok rfl rfl rfl tb101 rfl rfl rfl rfl rfl rfl ?_
        refine ar_call [] (pc_89 t 0) rfl rfl rfl rfl rfl rfl trivial (.inl rfl) rfl rfl rfl ?_
        refine ar_alloc (id := 8) tab_ok rfl rfl tb101 rfl rfl rfl rfl ?_
        refine ar_st [] tab_ok rfl tb101 rfl rfl rfl trivial rfl rfl rfl rfl rfl rfl rfl rfl ?_
        refine ar_nil ?_
        refine then_n ?_
        refine wp_seq ?_
        refine wp_reg (by kernel_rfl) ?_
        refine ar_lda tab_ok rfl rfl rfl tb101 rfl rfl rfl rfl rfl rfl ?_
        refine ar_call [] (pc_89 t 1) rfl rfl rfl rfl rfl rfl trivial (.inl rfl) rfl rfl rfl ?_
        refine ar_alloc (id := 9) tab_ok rfl rfl tb101 rfl rfl rfl rfl ?_
        refine ar_st [] tab_ok rfl tb101 rfl rfl rfl trivial rfl rfl rfl rfl rfl rfl rfl rfl ?_
        refine ar_nil ?_
        refine then_n ?_
        refine wp_seq ?_
        refine wp_draw (L := [([7], []), ([3], []), ([], []), ([], []), ([], [])]) (by kernel_rfl) mixed (by kernel_rfl) ?_
        refine ar_lda tab_ok rfl rfl rfl tb27 rfl rfl rfl rfl rfl rfl ?_
        refine ar_lda tab_ok rfl rfl rfl tb101 rfl rfl rfl rfl rfl rfl ?_
        refine ar_call [] (pc_89 t 2) rfl rfl rfl rfl rfl rfl trivial (.inl rfl) rfl rfl rfl ?_
        refine ar_call [] (pc_85 (badA a (a.bad.getD t.bad.toNat default)) (trB t 2) (badA_fit hf _) (badA_bd hbd _) (trB_sz hz _) hn hn2) rfl rfl rfl rfl rfl rfl trivial (.inl rfl) rfl rfl rfl ?_
        refine ar_assign rfl rfl rfl rfl ?_
        refine ar_nil ?_
        refine then_n ?_
        refine wp_seq ?_
        refine wp_draw (L := [([7], []), ([3], []), ([], []), ([], []), ([], [])]) (by kernel_rfl) mixed (by kernel_rfl) ?_
        refine ar_lda tab_ok rfl rfl rfl tb27 rfl rfl rfl rfl rfl rfl ?_
        refine ar_lda tab_ok rfl rfl rfl tb101 rfl rfl rfl rfl rfl rfl ?_
        refine ar_call [] (pc_89 t 3) rfl rfl rfl rfl rfl rfl trivial (.inl rfl) rfl rfl rfl ?_
        refine ar_call [] (pc_85 (badA a (a.bad.getD t.bad.toNat default)) (trB t 3) (badA_fit hf _) (badA_bd hbd _) (trB_sz hz _) hn hn2) rfl rfl rfl rfl rfl rfl trivial (.inl rfl) rfl rfl rfl ?_
        refine ar_assign rfl rfl rfl rfl ?_
        refine ar_nil ?_
        refine then_n ?_
        refine wp_seq ?_
        refine wp_reg (by kernel_rfl) ?_
        refine ar_lda tab_ok rfl rfl rfl tb27 rfl rfl rfl rfl rfl rfl ?_
        refine ar_lda tab_ok rfl rfl rfl tb101 rfl rfl rfl rfl rfl rfl ?_
        refine ar_call [] (pc_85 (badA a (a.bad.getD t.bad.toNat default)) (trB t 0) (badA_fit hf _) (badA_bd hbd _) (trB_sz hz _) hn hn2) rfl rfl rfl rfl rfl rfl trivial (.inl rfl) rfl rfl rfl ?_
        refine ar_assign rfl rfl rfl rfl ?_
        refine ar_nil ?_
        refine then_n ?_
        refine wp_seq ?_
        refine wp_reg (by kernel_rfl) ?_
        refine ar_lda tab_ok rfl rfl rfl tb27 rfl rfl rfl rfl rfl rfl ?_
        refine ar_lda tab_ok rfl rfl rfl tb101 rfl rfl rfl rfl rfl rfl ?_
        refine ar_call [] (pc_85 (badA a (a.bad.getD t.bad.toNat default)) (trB t 1) (badA_fit hf _) (badA_bd hbd _) (trB_sz hz _) hn hn2) rfl rfl rfl rfl rfl rfl trivial (.inl rfl) rfl rfl rfl ?_
        refine ar_assign rfl rfl rfl rfl ?_
        refine ar_nil ?_
        refine then_n ?_
        refine wp_seq ?_
        refine wp_reg (by kernel_rfl) ?_
        refine ar_move rfl rfl rfl rfl ?_
        refine ar_move rfl rfl rfl rfl ?_
        refine ar_move rfl rfl rfl rfl ?_
        refine ar_lda tab_ok rfl rfl rfl tb27 rfl rfl rfl rfl rfl rfl ?_
        refine ar_lda tab_ok rfl rfl rfl tb101 rfl rfl rfl rfl rfl rfl ?_
        refine ar_call [] (pc_85 a t hf hbd hz hn hn2) rfl rfl rfl rfl rfl rfl trivial (.inl rfl) rfl rfl rfl ?_
        refine ar_eql rfl rfl rfl (decide_eq_true (by rw [hL.at0, hL.b0])) rfl rfl ?_
        refine ar_pickT rfl rfl rfl rfl rfl ?_
        refine ar_move rfl rfl rfl rfl ?_
        refine ar_move rfl rfl rfl rfl ?_
        refine ar_eql rfl rfl rfl (decide_eq_true (by exact hL.b3)) rfl rfl ?_
        refine ar_pickT rfl rfl rfl rfl rfl ?_
        refine ar_move rfl rfl rfl rfl ?_
        refine ar_move rfl rfl rfl rfl ?_
        refine ar_neq_s rfl rfl rfl rfl rfl (fun h75 => ?_) (fun h75 => ?_)
        · refine ar_move rfl rfl rfl rfl ?_
          refine ar_skip rfl rfl ?_
          refine ar_skip rfl rfl ?_
          refine ar_pickT rfl rfl rfl rfl rfl ?_
          refine ar_pickT rfl rfl rfl rfl rfl ?_
          refine ar_move rfl rfl rfl rfl ?_
          refine ar_move rfl rfl rfl rfl ?_
          refine ar_eql_s rfl rfl rfl rfl rfl (fun h83 => ?_) (fun h83 => ?_)
          · refine ar_move rfl rfl rfl rfl ?_
            refine ar_skip rfl rfl ?_
            refine ar_skip rfl rfl ?_
            refine ar_skip rfl rfl ?_
            refine ar_skip rfl rfl ?_
            refine ar_skip rfl rfl ?_
            refine ar_skip rfl rfl ?_
            refine ar_pickT rfl rfl rfl rfl rfl ?_
            refine ar_pickT rfl rfl rfl rfl rfl ?_
            refine ar_move rfl rfl rfl rfl ?_
            refine ar_lda tab_ok rfl rfl rfl tb101 rfl rfl rfl rfl rfl rfl ?_
            refine ar_call [] (pc_90 t hz) rfl rfl rfl rfl rfl rfl trivial (.inl rfl) rfl rfl rfl ?_
            refine ar_split (fun h95 => ?_) (fun h95 => ?_)
            · refine ar_not rfl rfl rfl rfl rfl ?_
              refine ar_move rfl rfl rfl rfl ?_
              refine ar_move rfl rfl rfl rfl ?_
              refine ar_neq_s rfl rfl rfl rfl rfl (fun h99 => ?_) (fun h99 => ?_)
              · refine ar_pickF rfl rfl rfl rfl rfl ?_
                refine ar_move rfl rfl rfl rfl ?_
                refine ar_skip rfl rfl ?_
                refine ar_skip rfl rfl ?_
                refine ar_skip rfl rfl ?_
                refine ar_skip rfl rfl ?_
                refine ar_skip rfl rfl ?_
                refine ar_pickT rfl rfl rfl rfl rfl ?_
                refine ar_pickT rfl rfl rfl rfl rfl ?_
                refine ar_assign rfl rfl rfl rfl ?_
                refine ar_nil ?_
                refine then_n ?_
                refine wp_ret ?_
                refine ret_post rfl rfl ?_
                first | rfl | exact congrArg V.bool (last_d hL (last_val hg ho (of_decide_eq_true h95)) h99)
              · refine ar_pickF rfl rfl rfl rfl rfl ?_
                refine ar_move rfl rfl rfl rfl ?_
                refine ar_move rfl rfl rfl rfl ?_
                refine ar_eql rfl rfl rfl rfl rfl rfl ?_
                refine ar_move rfl rfl rfl rfl ?_
                refine ar_eql rfl rfl rfl rfl rfl rfl ?_
                refine ar_bneq tab_ok rfl rfl rfl tb4 rfl rfl rfl rfl ?_
                refine ar_pickF rfl rfl rfl rfl rfl ?_
                refine ar_pickT rfl rfl rfl rfl rfl ?_
                refine ar_assign rfl rfl rfl rfl ?_
                refine ar_nil ?_
                refine then_n ?_
                refine wp_ret ?_
                refine ret_post rfl rfl ?_
                first | rfl | exact congrArg V.bool (last_d hL (last_val hg ho (of_decide_eq_true h95)) h99)
            · refine ar_not rfl rfl rfl rfl rfl ?_
              refine ar_move rfl rfl rfl rfl ?_
              refine ar_skip rfl rfl ?_
              refine ar_skip rfl rfl ?_
              refine ar_pickT rfl rfl rfl rfl rfl ?_
              refine ar_move rfl rfl rfl rfl ?_
              refine ar_skip rfl rfl ?_
              refine ar_skip rfl rfl ?_
              refine ar_skip rfl rfl ?_
              refine ar_skip rfl rfl ?_
              refine ar_skip rfl rfl ?_
              refine ar_pickT rfl rfl rfl rfl rfl ?_
              refine ar_pickT rfl rfl rfl rfl rfl ?_
              refine ar_assign rfl rfl rfl rfl ?_
              refine ar_nil ?_
              refine then_n ?_
              refine wp_ret ?_
              refine ret_post rfl rfl ?_
              first | rfl | exact congrArg V.bool (last_d hL (last_val hg ho (of_decide_eq_true h95)) h99)
          · refine ar_move rfl rfl rfl rfl ?_
            refine ar_move rfl rfl rfl rfl ?_
            refine ar_neq rfl rfl rfl (decide_eq_true (by exact last_c hL h83)) rfl rfl ?_
            refine ar_move rfl rfl rfl rfl ?_
            refine ar_move rfl rfl rfl rfl ?_
            refine ar_neq rfl rfl rfl (decide_eq_true (by exact last_b hL h83)) rfl rfl ?_
            refine ar_pickT rfl rfl rfl rfl rfl ?_
            refine ar_pickF rfl rfl rfl rfl rfl ?_
            refine ar_pickT rfl rfl rfl rfl rfl ?_
            refine ar_move rfl rfl rfl rfl ?_
            refine ar_lda tab_ok rfl rfl rfl tb101 rfl rfl rfl rfl rfl rfl ?_
            refine ar_call [] (pc_90 t hz) rfl rfl rfl rfl rfl rfl trivial (.inl rfl) rfl rfl rfl ?_
            refine ar_split (fun h95 => ?_) (fun h95 => ?_)
            · refine ar_not rfl rfl rfl rfl rfl ?_
              refine ar_move rfl rfl rfl rfl ?_
              refine ar_move rfl rfl rfl rfl ?_
              refine ar_neq_s rfl rfl rfl rfl rfl (fun h99 => ?_) (fun h99 => ?_)
              · refine ar_pickF rfl rfl rfl rfl rfl ?_
                refine ar_move rfl rfl rfl rfl ?_
                refine ar_skip rfl rfl ?_
                refine ar_skip rfl rfl ?_
                refine ar_skip rfl rfl ?_
                refine ar_skip rfl rfl ?_
                refine ar_skip rfl rfl ?_
                refine ar_pickT rfl rfl rfl rfl rfl ?_
                refine ar_pickT rfl rfl rfl rfl rfl ?_
                refine ar_assign rfl rfl rfl rfl ?_
                refine ar_nil ?_
                refine then_n ?_
                refine wp_ret ?_
                refine ret_post rfl rfl ?_
                first | rfl | exact congrArg V.bool (last_d hL (last_val hg ho (of_decide_eq_true h95)) h99)
              · refine ar_pickF rfl rfl rfl rfl rfl ?_
                refine ar_move rfl rfl rfl rfl ?_
                refine ar_move rfl rfl rfl rfl ?_
                refine ar_eql rfl rfl rfl rfl rfl rfl ?_
                refine ar_move rfl rfl rfl rfl ?_
                refine ar_eql rfl rfl rfl rfl rfl rfl ?_
                refine ar_bneq tab_ok rfl rfl rfl tb4 rfl rfl rfl rfl ?_
                refine ar_pickF rfl rfl rfl rfl rfl ?_
                refine ar_pickT rfl rfl rfl rfl rfl ?_
                refine ar_assign rfl rfl rfl rfl ?_
                refine ar_nil ?_
                refine then_n ?_
                refine wp_ret ?_
                refine ret_post rfl rfl ?_
                first | rfl | exact congrArg V.bool (last_d hL (last_val hg ho (of_decide_eq_true h95)) h99)
            · refine ar_not rfl rfl rfl rfl rfl ?_
              refine ar_move rfl rfl rfl rfl ?_
              refine ar_skip rfl rfl ?_
              refine ar_skip rfl rfl ?_
              refine ar_pickT rfl rfl rfl rfl rfl ?_
              refine ar_move rfl rfl rfl rfl ?_
              refine ar_skip rfl rfl ?_
              refine ar_skip rfl rfl ?_
              refine ar_skip rfl rfl ?_
              refine ar_skip rfl rfl ?_
              refine ar_skip rfl rfl ?_
              refine ar_pickT rfl rfl rfl rfl rfl ?_
              refine ar_pickT rfl rfl rfl rfl rfl ?_
              refine ar_assign rfl rfl rfl rfl ?_
              refine ar_nil ?_
              refine then_n ?_
              refine wp_ret ?_
              refine ret_post rfl rfl ?_
              first | rfl | exact congrArg V.bool (last_d hL (last_val hg ho (of_decide_eq_true h95)) h99)
        · refine ar_move rfl rfl rfl rfl ?_
          refine ar_move rfl rfl rfl rfl ?_
          refine ar_neq rfl rfl rfl (decide_eq_true (by exact last_a hL h75)) rfl rfl ?_
          refine ar_pickF rfl rfl rfl rfl rfl ?_
          refine ar_pickT rfl rfl rfl rfl rfl ?_
          refine ar_move rfl rfl rfl rfl ?_
          refine ar_move rfl rfl rfl rfl ?_
          refine ar_eql_s rfl rfl rfl rfl rfl (fun h83 => ?_) (fun h83 => ?_)
          · refine ar_move rfl rfl rfl rfl ?_
            refine ar_skip rfl rfl ?_
            refine ar_skip rfl rfl ?_
            refine ar_skip rfl rfl ?_
            refine ar_skip rfl rfl ?_
            refine ar_skip rfl rfl ?_
            refine ar_skip rfl rfl ?_
            refine ar_pickT rfl rfl rfl rfl rfl ?_
            refine ar_pickT rfl rfl rfl rfl rfl ?_
            refine ar_move rfl rfl rfl rfl ?_
            refine ar_lda tab_ok rfl rfl rfl tb101 rfl rfl rfl rfl rfl rfl ?_
            refine ar_call [] (pc_90 t hz) rfl rfl rfl rfl rfl rfl trivial (.inl rfl) rfl rfl rfl ?_
            refine ar_split (fun h95 => ?_) (fun h95 => ?_)
            · refine ar_not rfl rfl rfl rfl rfl ?_
              refine ar_move rfl rfl rfl rfl ?_
              refine ar_move rfl rfl rfl rfl ?_
              refine ar_neq_s rfl rfl rfl rfl rfl (fun h99 => ?_) (fun h99 => ?_)
              · refine ar_pickF rfl rfl rfl rfl rfl ?_
                refine ar_move rfl rfl rfl rfl ?_
                refine ar_skip rfl rfl ?_
                refine ar_skip rfl rfl ?_
                refine ar_skip rfl rfl ?_
                refine ar_skip rfl rfl ?_
                refine ar_skip rfl rfl ?_
                refine ar_pickT rfl rfl rfl rfl rfl ?_
                refine ar_pickT rfl rfl rfl rfl rfl ?_
                refine ar_assign rfl rfl rfl rfl ?_
                refine ar_nil ?_
                refine then_n ?_
                refine wp_ret ?_
                refine ret_post rfl rfl ?_
                first | rfl | exact congrArg V.bool (last_d hL (last_val hg ho (of_decide_eq_true h95)) h99)
              · refine ar_pickF rfl rfl rfl rfl rfl ?_
                refine ar_move rfl rfl rfl rfl ?_
                refine ar_move rfl rfl rfl rfl ?_
                refine ar_eql rfl rfl rfl rfl rfl rfl ?_
                refine ar_move rfl rfl rfl rfl ?_
                refine ar_eql rfl rfl rfl rfl rfl rfl ?_
                refine ar_bneq tab_ok rfl rfl rfl tb4 rfl rfl rfl rfl ?_
                refine ar_pickF rfl rfl rfl rfl rfl ?_
                refine ar_pickT rfl rfl rfl rfl rfl ?_
                refine ar_assign rfl rfl rfl rfl ?_
                refine ar_nil ?_
                refine then_n ?_
                refine wp_ret ?_
                refine ret_post rfl rfl ?_
                first | rfl | exact congrArg V.bool (last_d hL (last_val hg ho (of_decide_eq_true h95)) h99)
            · refine ar_not rfl rfl rfl rfl rfl ?_
              refine ar_move rfl rfl rfl rfl ?_
              refine ar_skip rfl rfl ?_
              refine ar_skip rfl rfl ?_
              refine ar_pickT rfl rfl rfl rfl rfl ?_
              refine ar_move rfl rfl rfl rfl ?_
              refine ar_skip rfl rfl ?_
              refine ar_skip rfl rfl ?_
              refine ar_skip rfl rfl ?_
              refine ar_skip rfl rfl ?_
              refine ar_skip rfl rfl ?_
              refine ar_pickT rfl rfl rfl rfl rfl ?_
              refine ar_pickT rfl rfl rfl rfl rfl ?_
              refine ar_assign rfl rfl rfl rfl ?_
              refine ar_nil ?_
              refine then_n ?_
              refine wp_ret ?_
              refine ret_post rfl rfl ?_
              first | rfl | exact congrArg V.bool (last_d hL (last_val hg ho (of_decide_eq_true h95)) h99)
          · refine ar_move rfl rfl rfl rfl ?_
            refine ar_move rfl rfl rfl rfl ?_
            refine ar_neq rfl rfl rfl (decide_eq_true (by exact last_c hL h83)) rfl rfl ?_
            refine ar_move rfl rfl rfl rfl ?_
            refine ar_move rfl rfl rfl rfl ?_
            refine ar_neq rfl rfl rfl (decide_eq_true (by exact last_b hL h83)) rfl rfl ?_
            refine ar_pickT rfl rfl rfl rfl rfl ?_
            refine ar_pickF rfl rfl rfl rfl rfl ?_
            refine ar_pickT rfl rfl rfl rfl rfl ?_
            refine ar_move rfl rfl rfl rfl ?_
            refine ar_lda tab_ok rfl rfl rfl tb101 rfl rfl rfl rfl rfl rfl ?_
            refine ar_call [] (pc_90 t hz) rfl rfl rfl rfl rfl rfl trivial (.inl rfl) rfl rfl rfl ?_
            refine ar_split (fun h95 => ?_) (fun h95 => ?_)
            · refine ar_not rfl rfl rfl rfl rfl ?_
              refine ar_move rfl rfl rfl rfl ?_
              refine ar_move rfl rfl rfl rfl ?_
              refine ar_neq_s rfl rfl rfl rfl rfl (fun h99 => ?_) (fun h99 => ?_)
              · refine ar_pickF rfl rfl rfl rfl rfl ?_
                refine ar_move rfl rfl rfl rfl ?_
                refine ar_skip rfl rfl ?_
                refine ar_skip rfl rfl ?_
                refine ar_skip rfl rfl ?_
                refine ar_skip rfl rfl ?_
                refine ar_skip rfl rfl ?_
                refine ar_pickT rfl rfl rfl rfl rfl ?_
                refine ar_pickT rfl rfl rfl rfl rfl ?_
                refine ar_assign rfl rfl rfl rfl ?_
                refine ar_nil ?_
                refine then_n ?_
                refine wp_ret ?_
                refine ret_post rfl rfl ?_
                first | rfl | exact congrArg V.bool (last_d hL (last_val hg ho (of_decide_eq_true h95)) h99)
              · refine ar_pickF rfl rfl rfl rfl rfl ?_
                refine ar_move rfl rfl rfl rfl ?_
                refine ar_move rfl rfl rfl rfl ?_
                refine ar_eql rfl rfl rfl rfl rfl rfl ?_
                refine ar_move rfl rfl rfl rfl ?_
                refine ar_eql rfl rfl rfl rfl rfl rfl ?_
                refine ar_bneq tab_ok rfl rfl rfl tb4 rfl rfl rfl rfl ?_
                refine ar_pickF rfl rfl rfl rfl rfl ?_
                refine ar_pickT rfl rfl rfl rfl rfl ?_
                refine ar_assign rfl rfl rfl rfl ?_
                refine ar_nil ?_
                refine then_n ?_
                refine wp_ret ?_
                refine ret_post rfl rfl ?_
                first | rfl | exact congrArg V.bool (last_d hL (last_val hg ho (of_decide_eq_true h95)) h99)
            · refine ar_not rfl rfl rfl rfl rfl ?_
              refine ar_move rfl rfl rfl rfl ?_
              refine ar_skip rfl rfl ?_
              refine ar_skip rfl rfl ?_
              refine ar_pickT rfl rfl rfl rfl rfl ?_
              refine ar_move rfl rfl rfl rfl ?_
              refine ar_skip rfl rfl ?_
              refine ar_skip rfl rfl ?_
              refine ar_skip rfl rfl ?_
              refine ar_skip rfl rfl ?_
              refine ar_skip rfl rfl ?_
              refine ar_pickT rfl rfl rfl rfl rfl ?_
              refine ar_pickT rfl rfl rfl rfl rfl ?_
              refine ar_assign rfl rfl rfl rfl ?_
              refine ar_nil ?_
              refine then_n ?_
              refine wp_ret ?_
              refine ret_post rfl rfl ?_
              first | rfl | exact congrArg V.bool (last_d hL (last_val hg ho (of_decide_eq_true h95)) h99)
      · refine ar_not rfl rfl rfl rfl rfl ?_
        refine ar_pickF rfl rfl rfl rfl rfl ?_
        refine ar_nil ?_
        refine then_n ?_
        refine wp_condT rfl ?_
        refine wp_seq ?_
        refine wp_reg (by kernel_rfl) ?_
        refine ar_move rfl rfl rfl rfl ?_
        refine ar_assign rfl rfl rfl rfl ?_
        refine ar_nil ?_
        refine then_n ?_
        refine wp_ret ?_
        refine then_r (ret_post rfl rfl ?_)
        first | rfl | exact congrArg V.bool (last_d hL (last_val hg ho (of_decide_eq_true h95)) h99)
    · refine ar_not rfl rfl rfl rfl rfl ?_
      refine ar_pickF rfl rfl rfl rfl rfl ?_
      refine ar_move rfl rfl rfl rfl ?_
      refine ar_skip rfl rfl ?_
      refine ar_skip rfl rfl ?_
      refine ar_skip rfl rfl ?_
      refine ar_skip rfl rfl ?_
      refine ar_pickT rfl rfl rfl rfl rfl ?_
      refine ar_nil ?_
      refine then_n ?_
      refine wp_condT rfl ?_
      refine wp_seq ?_
      refine wp_reg (by kernel_rfl) ?_
      refine ar_move rfl rfl rfl rfl ?_
      refine ar_assign rfl rfl rfl rfl ?_
      refine ar_nil ?_
      refine then_n ?_
      refine wp_ret ?_
      refine then_r (ret_post rfl rfl ?_)
      first | rfl | exact congrArg V.bool (last_d hL (last_val hg ho (of_decide_eq_true h95)) h99)
  · refine ar_not rfl rfl rfl rfl rfl ?_
    refine ar_move rfl rfl rfl rfl ?_
    refine ar_skip rfl rfl ?_
    refine ar_skip rfl rfl ?_
    refine ar_skip rfl rfl ?_
    refine ar_pickT rfl rfl rfl rfl rfl ?_
    refine ar_move rfl rfl rfl rfl ?_
    refine ar_skip rfl rfl ?_
    refine ar_skip rfl rfl ?_
    refine ar_skip rfl rfl ?_
    refine ar_skip rfl rfl ?_
    refine ar_pickT rfl rfl rfl rfl rfl ?_
    refine ar_nil ?_
    refine then_n ?_
    refine wp_condT rfl ?_
    refine wp_seq ?_
    refine wp_reg (by kernel_rfl) ?_
    refine ar_move rfl rfl rfl rfl ?_
    refine ar_assign rfl rfl rfl rfl ?_
    refine ar_nil ?_
    refine then_n ?_
    refine wp_ret ?_
    refine then_r (ret_post rfl rfl ?_)
    first | rfl | exact congrArg V.bool (last_d hL (last_val hg ho (of_decide_eq_true h95)) h99)

end Go.Vd
