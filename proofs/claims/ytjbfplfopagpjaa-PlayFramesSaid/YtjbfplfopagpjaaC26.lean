/- PlayBelow, PlayFrames: as the program tells them. -/
import Derived.Test.YtjbfplfopagpjaaC25
namespace Go.Vd
open Go.Proofs

abbrev outs (a : Aig) (t : Trace) : List (List Int) := t.ini :: (frT a t.ini t.ins).map StepT.n
theorem outs_len (a : Aig) (t : Trace) : (outs a t).length = t.ins.length + 1 := by simp [frT_len]
theorem outs_low {a : Aig} {t u : Trace} (ht : Okt a t) (hu : Okt a u) (hl : LowTr u t) : lowR (outs a u) (outs a t) = true :=
  states_low hl.n hl.i hu.r.il hu.i ht.r.il ht.i hu.rok ht.rok
theorem lowR_get {x y : List (List Int)} (h : lowR x y = true) {j : Nat} (hj : j < x.length) : belowT (x.getD j default) (y.getD j default) = true := ((pairs_iff (pairs lowT) x y).1 h).2 j hj
theorem states_7 {a : Aig} {t : Trace} (h : (statesT a t).2 ≠ 0) : (statesT a t).2 = 7 ∧ (statesT a t).1 = [] := by
  cases hb : rightT a t with
  | true => rw [statesT_ok hb] at h; exact absurd rfl h
  | false => rw [statesT_bad hb]; exact ⟨rfl, rfl⟩
theorem frT_take (a : Aig) : ∀ (ins : List (List Int)) (s : List Int) (k : Nat), frT a s (ins.take k) = (frT a s ins).take k
  | [], _, k => by simp [frT]
  | r :: rs, s, 0 => rfl
  | r :: rs, s, k + 1 => by simp only [List.take_succ_cons, frT, frT_take a rs]
theorem ternGo_bad {k : Nat} : ∀ (fs : List StepT) (b : Int) (j : Nat), j < fs.length → conT (fs.getD j default) = false → ternGo k b fs = 0
  | [], _, _, h, _ => by simp at h
  | f :: fs, b, 0, _, h => by
    have h : conT f = false := h
    rw [ternGo, if_neg (by rw [h]; exact Bool.false_ne_true)]
  | f :: fs, b, j + 1, hj, h => by
    rw [ternGo]
    split
    · exact ternGo_bad fs _ j (by simpa using hj) h
    · rfl
abbrev lessT (t : Trace) (k : Nat) : Trace := ⟨t.bad, t.ini, t.ins.take k⟩
theorem okt_less {a : Aig} {t : Trace} (h : Okt a t) {k : Nat} (h0 : 1 ≤ k) : Okt a (lessT t k) :=
  ⟨⟨h.r.b0, h.r.b1, by have := h.r.n0; simp; omega, by have := h.r.n1; simp; omega, h.r.it, h.r.ip, fun r hr => h.r.rl r (List.mem_of_mem_take hr), fun r hr => h.r.rt r (List.mem_of_mem_take hr)⟩, h.i, fun r hr => h.n r (List.mem_of_mem_take hr)⟩
theorem less_sz {t : Trace} (h : SzT t) (k : Nat) : SzT (lessT t k) := ⟨h.il, by have := h.nl; simp; omega, fun r hr => h.rl r (List.mem_of_mem_take hr)⟩
theorem less_outs (a : Aig) (t : Trace) (k : Nat) : outs a (lessT t k) = (outs a t).take (k + 1) := by
  simp only [outs, List.take_succ_cons, frT_take, List.map_take]
theorem less_8 {a : Aig} {t : Trace} (h : Okt a t) {j : Nat} (hj : j < t.ins.length) (hc : conT ((frT a t.ini t.ins).getD j default) = false) : ternaryT a t = 8 :=
  ternaryT_8 (rightT_iff.2 h.r) (by rw [ternGo_bad _ _ j (by rw [frT_len]; exact hj) hc]; decide)
theorem getD_take {α : Type} [Inhabited α] {xs : List α} {j k : Nat} (h : j < k) : (xs.take k).getD j default = xs.getD j default := by
  rw [List.getD_eq_getElem?_getD, List.getD_eq_getElem?_getD, List.getElem?_take, if_pos h]


theorem fill_nn {l : List Int} (h : Nn l) (m : List Bool) : Nn (fillR m l) := by
  have : ∀ (l : List Int) (m : List Bool), Nn l → Nn (fillR m l) := by
    intro l
    induction l with
    | nil => intro m _ x hx; simp [fillR] at hx
    | cons y ys ih =>
      intro m h
      have h1 : Nn ys := fun z hz => h z (List.mem_cons_of_mem _ hz)
      have hc : ∀ {z : Int} {zs : List Int}, 0 ≤ z → Nn zs → Nn (z :: zs) := fun h h' w hw => by
        rcases List.mem_cons.1 hw with rfl | hw
        · exact h
        · exact h' w hw
      by_cases hy : y = 2
      · cases m with
        | nil => rw [fillR_h0 hy]; exact hc (h y List.mem_cons_self) (ih [] h1)
        | cons b m => rw [fillR_h1 hy]; exact hc (ofB_tri b).1 (ih m h1)
      · rw [fillR_nn hy]; exact hc (h y List.mem_cons_self) (ih m h1)
  exact this l m h
theorem fillRows_nn {t : Trace} (h : ∀ r, r ∈ t.ins → Nn r) (m : List Bool) : ∀ r, r ∈ (fillT t m).ins → Nn r := by
  have : ∀ (rs : List (List Int)) (m : List Bool), (∀ r, r ∈ rs → Nn r) → ∀ r, r ∈ fillRows m rs → Nn r := by
    intro rs
    induction rs with
    | nil => intro m _ r hr; simp [fillRows] at hr
    | cons x rs ih =>
      intro m h r hr
      simp only [fillRows, List.mem_cons] at hr
      rcases hr with rfl | hr
      · exact fill_nn (h x List.mem_cons_self) m
      · exact ih _ (fun y hy => h y (List.mem_cons_of_mem _ hy)) r hr
  exact this t.ins _ h

theorem pc_25 (a : Aig) (t : Trace) (m : List Bool) (hf : Fit a) (htf : FitT t) : PCall Try.prog 25 [aigV a, trV t, slB m] (.bool true) := by
  refine pc_of tab_ok (f := 25) (fn := Try.f25) (N := 103) (rs := [.tmp 6]) (by kernel_rfl) rfl (by kernel_rfl) rfl rfl [(0, .v (aigV a)), (1, .v (trV t)), (2, .v (slB m))] ⟨rfl, rfl, rfl, trivial⟩ rfl rfl ?_
  intro B
  have hn : Nn t.ini := htf.iu.nn
  have hn2 : ∀ r, r ∈ t.ins → Nn r := fun r hr => (htf.ru r hr).nn
  refine wp_seq ?_
  refine wp_reg (by kernel_rfl) ?_
  refine ar_box 3 [] rfl rfl rfl ⟨rfl, trivial⟩ rfl rfl rfl ?_
  refine ar_box 4 [] rfl rfl rfl ⟨rfl, trivial⟩ rfl rfl rfl ?_
  refine ar_assign rfl rfl rfl rfl ?_
  refine ar_nil ?_
  refine then_n ?_
  refine wp_seq ?_
  refine wp_reg (by kernel_rfl) ?_
  refine ar_call [] (pc_80) rfl rfl rfl rfl rfl rfl trivial (.inl rfl) rfl rfl rfl ?_
  refine ar_assign rfl rfl rfl rfl ?_
  refine ar_nil ?_
  refine then_n ?_
  refine wp_seq ?_
  refine wp_seq ?_
  refine wp_reg (by kernel_rfl) ?_
  refine ar_lda tab_ok rfl rfl rfl tb27 rfl rfl rfl rfl rfl rfl ?_
  refine ar_callE [] (pce_55 a hf) rfl rfl rfl rfl rfl rfl trivial (.inl rfl) rfl rfl rfl ?_
  rintro _ ⟨b16, rfl, hb16⟩
  refine ar_split (fun h16 => ?_) (fun h16 => ?_)
  · refine ar_not rfl rfl rfl rfl rfl ?_
    refine ar_move rfl rfl rfl rfl ?_
    refine ar_lda tab_ok rfl rfl rfl tb101 rfl rfl rfl rfl rfl rfl ?_
    refine ar_callE [] (pce_81 t 20 htf.il htf.nl (by decide)) rfl rfl rfl rfl rfl rfl trivial (.inl rfl) rfl rfl rfl ?_
    rintro _ ⟨b20, rfl, hb20⟩
    refine ar_split (fun h20 => ?_) (fun h20 => ?_)
    · refine ar_not rfl rfl rfl rfl rfl ?_
      refine ar_pickF rfl rfl rfl rfl rfl ?_
      refine ar_move rfl rfl rfl rfl ?_
      refine ar_move rfl rfl rfl rfl ?_
      refine ar_len tab_ok rfl rfl tb28 rfl len_map rfl rfl ?_
      refine ar_gtr_s rfl rfl rfl rfl rfl (fun h26 => ?_) (fun h26 => ?_)
      · refine ar_pickF rfl rfl rfl rfl rfl ?_
        refine ar_nil ?_
        refine then_n ?_
        refine wp_condT rfl ?_
        refine wp_seq ?_
        refine wp_reg (by kernel_rfl) ?_
        refine ar_move rfl rfl rfl rfl ?_
        refine ar_assign rfl rfl rfl rfl ?_
        refine ar_nil ?_
        refine then_n ?_
        refine wp_ret ?_
        refine then_r (ret_post rfl rfl ?_)
        rfl
      · refine ar_pickF rfl rfl rfl rfl rfl ?_
        refine ar_nil ?_
        refine then_n ?_
        refine wp_condF rfl ?_
        refine wp_skip ?_
        refine then_n ?_
        refine wp_seq ?_
        have hg := hb16 h16
        have hbd := hg.bd
        have hz := (hb20 h20).sz (by decide)
        refine wp_reg (by kernel_rfl) ?_
        refine ar_lda tab_ok rfl rfl rfl tb101 rfl rfl rfl rfl rfl rfl ?_
        refine ar_move rfl rfl rfl rfl ?_
        refine ar_call [] (pc_74 t m hz (by omega)) rfl rfl rfl rfl rfl rfl trivial (.inl rfl) rfl rfl rfl ?_
        refine ar_alloc (id := 8) tab_ok rfl rfl tb101 rfl rfl rfl rfl ?_
        refine ar_st [] tab_ok rfl tb101 rfl rfl rfl trivial rfl rfl rfl rfl rfl rfl rfl rfl ?_
        refine ar_nil ?_
        refine then_n ?_
        refine wp_seq ?_
        refine wp_reg (by kernel_rfl) ?_
        refine ar_lda tab_ok rfl rfl rfl tb27 rfl rfl rfl rfl rfl rfl ?_
        refine ar_lda tab_ok rfl rfl rfl tb101 rfl rfl rfl rfl rfl rfl ?_
        refine ar_call [] (pc_82 a t hf hbd hz hn hn2) rfl rfl rfl rfl rfl rfl trivial (.inl rfl) rfl rfl rfl ?_
        refine ar_move rfl rfl rfl rfl ?_
        refine ar_ext rfl rfl rfl rfl rfl ?_
        refine ar_ext rfl rfl rfl rfl rfl ?_
        refine ar_assign rfl rfl rfl rfl ?_
        refine ar_assign rfl rfl rfl rfl ?_
        refine ar_nil ?_
        refine then_n ?_
        refine wp_seq ?_
        refine wp_reg (by kernel_rfl) ?_
        refine ar_lda tab_ok rfl rfl rfl tb27 rfl rfl rfl rfl rfl rfl ?_
        refine ar_lda tab_ok rfl rfl rfl tb101 rfl rfl rfl rfl rfl rfl ?_
        refine ar_call [] (pc_82 a (fillT t m) hf hbd (fill_sz hz m) (fill_nn hn m) (fillRows_nn hn2 m)) rfl rfl rfl rfl rfl rfl trivial (.inl rfl) rfl rfl rfl ?_
        refine ar_move rfl rfl rfl rfl ?_
        refine ar_ext rfl rfl rfl rfl rfl ?_
        refine ar_ext rfl rfl rfl rfl rfl ?_
        refine ar_assign rfl rfl rfl rfl ?_
        refine ar_assign rfl rfl rfl rfl ?_
        refine ar_nil ?_
        refine then_n ?_
        refine wp_seq ?_
        refine wp_seq ?_
        refine wp_reg (by kernel_rfl) ?_
        refine ar_move rfl rfl rfl rfl ?_
        refine ar_neq_s rfl rfl rfl rfl rfl (fun h45 => ?_) (fun h45 => ?_)
        · refine ar_nil ?_
          refine then_n ?_
          refine wp_condT rfl ?_
          refine wp_seq ?_
          refine wp_reg (by kernel_rfl) ?_
          refine ar_move rfl rfl rfl rfl ?_
          refine ar_move rfl rfl rfl rfl ?_
          refine ar_move rfl rfl rfl rfl ?_
          refine ar_eql rfl rfl rfl (decide_eq_true (by exact (states_7 h45).1)) rfl rfl ?_
          refine ar_pickT rfl rfl rfl rfl rfl ?_
          refine ar_move rfl rfl rfl rfl ?_
          refine ar_move rfl rfl rfl rfl ?_
          refine ar_len tab_ok rfl rfl tb99 rfl (show _ = ((0 : Nat) : Int) by rw [(states_7 h45).2]; rfl) rfl rfl ?_
          refine ar_eql rfl rfl rfl (decide_eq_true (by rfl)) rfl rfl ?_
          refine ar_pickT rfl rfl rfl rfl rfl ?_
          refine ar_assign rfl rfl rfl rfl ?_
          refine ar_nil ?_
          refine then_n ?_
          refine wp_ret ?_
          refine then_r (ret_post rfl rfl ?_)
          rfl
        · refine ar_nil ?_
          refine then_n ?_
          refine wp_condF rfl ?_
          refine wp_skip ?_
          refine then_n ?_
          refine wp_seq ?_
          refine wp_seq ?_
          have hr := statesT_0 h45
          have ho := okt_of (rightT_iff.1 hr) hn hn2
          have hu := okt_fill ho m
          have hru := rightT_iff.2 hu.r
          rw [statesT_ok hr, statesT_ok hru]
          have hl1 := outs_len a t
          have hl2 : (outs a (fillT t m)).length = t.ins.length + 1 := by rw [outs_len]; show (fillRows _ t.ins).length + 1 = _; rw [fillRows_len]
          have hlow := outs_low ho hu (fillT_low t m)
          have hn1 := ho.r.n1
          have hs1 := statesT_le hbd hz
          have hs2 := statesT_le hbd (fill_sz hz m)
          rw [statesT_ok hr] at hs1
          rw [statesT_ok hru] at hs2
          have ho1 : ∀ r, r ∈ (outs a t) → r.length ≤ 1000000 := hs1.2
          have ho2 : ∀ r, r ∈ (outs a (fillT t m)) → r.length ≤ 1000000 := hs2.2
          refine wp_reg (by kernel_rfl) ?_
          refine ar_move rfl rfl rfl rfl ?_
          refine ar_neq rfl rfl rfl (decide_eq_false (by exact fun h => h rfl)) rfl rfl ?_
          refine ar_move rfl rfl rfl rfl ?_
          refine ar_move rfl rfl rfl rfl ?_
          refine ar_len tab_ok rfl rfl tb99 rfl (len_map (xs := (outs a t))) rfl rfl ?_
          refine ar_move rfl rfl rfl rfl ?_
          refine ar_len tab_ok rfl rfl tb99 rfl (len_map (xs := (outs a (fillT t m)))) rfl rfl ?_
          refine ar_neq rfl rfl rfl (decide_eq_false (by omega)) rfl rfl ?_
          refine ar_pickF rfl rfl rfl rfl rfl ?_
          refine ar_move rfl rfl rfl rfl ?_
          refine ar_move rfl rfl rfl rfl ?_
          refine ar_len tab_ok rfl rfl tb99 rfl (len_map (xs := (outs a t))) rfl rfl ?_
          refine ar_fa tab_ok rfl rfl rfl tb101 rfl rfl rfl rfl rfl ?_
          refine ar_ld tab_ok rfl rfl rfl tb99 rfl rfl rfl rfl rfl ?_
          refine ar_len tab_ok rfl rfl tb99 rfl len_map rfl rfl ?_
          refine ar_addi rfl rfl rfl rfl (by omega) (by omega) rfl rfl ?_
          refine ar_neq rfl rfl rfl (decide_eq_false (by omega)) rfl rfl ?_
          refine ar_pickF rfl rfl rfl rfl rfl ?_
          refine ar_nil ?_
          refine then_n ?_
          refine wp_condF rfl ?_
          refine wp_skip ?_
          refine then_n ?_
          refine wp_seq ?_
          refine wp_seq ?_
          refine wp_reg (by kernel_rfl) ?_
          refine ar_assign rfl rfl rfl rfl ?_
          refine ar_nil ?_
          refine then_n ?_
          refine wp_block ?_
          refine wp_loop (α := Nat) (fun j => mk [(3, .ptr 3 0), (4, .ptr 4 0), (7, .v (.bool true)), (8, .ptr 8 0), (9, .v (slUU (outs a t))), (11, .v (slUU (outs a (fillT t m)))), (13, .v (.int .i64 (j : Nat)))] [(3, .box ((encA a).map .v)), (4, .box ((encT t).map .v)), (8, .box ((encT (fillT t m)).map .v))] 0) (fun j => j ≤ (outs a t).length) (fun j => (outs a t).length - j) 0 (Nat.zero_le _) (le_to ⟨rfl, rfl, rfl, rfl, rfl, rfl, rfl, trivial⟩ ⟨rfl, rfl, rfl, trivial⟩ rfl rfl rfl rfl) ?_
          rintro j hinv
          refine wp_seq ?_
          refine wp_seq ?_
          refine wp_reg (by kernel_rfl) ?_
          refine ar_move rfl rfl rfl rfl ?_
          refine ar_move rfl rfl rfl rfl ?_
          refine ar_len tab_ok rfl rfl tb99 rfl len_map rfl rfl ?_
          refine ar_lss_s rfl rfl rfl rfl rfl (fun h77 => ?_) (fun h77 => ?_)
          · refine ar_nil ?_
            refine then_n ?_
            refine wp_condT rfl ?_
            refine wp_skip ?_
            refine then_n ?_
            refine wp_seq ?_
            refine wp_block ?_
            refine wp_seq ?_
            refine wp_draw (L := [([], []), ([], []), ([], []), ([], []), ([], []), ([], []), ([], []), ([], []), ([], []), ([], [])]) (by kernel_rfl) mixed (by kernel_rfl) ?_
            refine ar_move rfl rfl rfl rfl ?_
            refine ar_move rfl rfl rfl rfl ?_
            refine ar_ia tab_ok rfl rfl rfl tb99 rfl tb70 (by omega) (map_get (n := j) (by omega)) rfl rfl rfl ?_
            refine ar_ld_ref tab_ok rfl rfl tb70 rfl rfl rfl rfl ?_
            refine ar_move rfl rfl rfl rfl ?_
            refine ar_move rfl rfl rfl rfl ?_
            refine ar_ia tab_ok rfl rfl rfl tb99 rfl tb70 (by omega) (map_get (n := j) (by omega)) rfl rfl rfl ?_
            refine ar_ld_ref tab_ok rfl rfl tb70 rfl rfl rfl rfl ?_
            refine ar_call [] (pc_52 ((outs a (fillT t m)).getD j default) ((outs a t).getD j default) (by have := ho2 _ (getD_mem (xs := (outs a (fillT t m))) (n := j) (by omega)); omega) (by have := ho1 _ (getD_mem (xs := (outs a t)) (n := j) (by omega)); omega)) rfl rfl rfl rfl rfl rfl trivial (.inl rfl) rfl rfl rfl ?_
            refine ar_to (d' := .v (.bool true)) (congrArg (fun b => D.v (V.bool b)) (lowR_get hlow (by omega))) ?_
            refine ar_not rfl rfl rfl rfl rfl ?_
            refine ar_nil ?_
            refine then_n ?_
            refine wp_condF rfl ?_
            refine wp_skip ?_
            refine inblk_n ?_
            refine then_n ?_
            refine wp_reg (by kernel_rfl) ?_
            refine ar_move rfl rfl rfl rfl ?_
            refine ar_addi rfl rfl rfl rfl (by omega) (by omega) rfl rfl ?_
            refine ar_assign rfl rfl rfl rfl ?_
            refine ar_nil ?_
            exact loop_n (j + 1) (by omega) (by omega) (le_to ⟨rfl, rfl, rfl, rfl, rfl, rfl, rfl, trivial⟩ ⟨rfl, rfl, rfl, trivial⟩ rfl rfl rfl rfl)
          · refine ar_nil ?_
            refine then_n ?_
            refine wp_condF rfl ?_
            refine wp_exit ?_
            refine then_x (loop_x (inblk_e ?_))
            refine then_n ?_
            refine wp_seq ?_
            refine wp_reg (by kernel_rfl) ?_
            refine ar_move rfl rfl rfl rfl ?_
            refine ar_move rfl rfl rfl rfl ?_
            refine ar_lda tab_ok rfl rfl rfl tb27 rfl rfl rfl rfl rfl rfl ?_
            refine ar_lda tab_ok rfl rfl rfl tb101 rfl rfl rfl rfl rfl rfl ?_
            refine ar_call [] (pc_85 a t hf hbd hz hn hn2) rfl rfl rfl rfl rfl rfl trivial (.inl rfl) rfl rfl rfl ?_
            refine ar_neq_s rfl rfl rfl rfl rfl (fun h95 => ?_) (fun h95 => ?_)
            · refine ar_move rfl rfl rfl rfl ?_
              refine ar_skip rfl rfl ?_
              refine ar_skip rfl rfl ?_
              refine ar_skip rfl rfl ?_
              refine ar_skip rfl rfl ?_
              refine ar_pickT rfl rfl rfl rfl rfl ?_
              refine ar_pickT rfl rfl rfl rfl rfl ?_
              refine ar_assign rfl rfl rfl rfl ?_
              refine ar_nil ?_
              refine then_n ?_
              refine wp_ret ?_
              refine ret_post rfl rfl ?_
              rfl
            · refine ar_move rfl rfl rfl rfl ?_
              refine ar_lda tab_ok rfl rfl rfl tb27 rfl rfl rfl rfl rfl rfl ?_
              refine ar_lda tab_ok rfl rfl rfl tb101 rfl rfl rfl rfl rfl rfl ?_
              refine ar_call [] (pc_85 a (fillT t m) hf hbd (fill_sz hz m) (fill_nn hn m) (fillRows_nn hn2 m)) rfl rfl rfl rfl rfl rfl trivial (.inl rfl) rfl rfl rfl ?_
              refine ar_eql rfl rfl rfl (decide_eq_true (by exact ternary_low ho hu (fillT_low t m) (Decidable.not_not.1 h95))) rfl rfl ?_
              refine ar_pickF rfl rfl rfl rfl rfl ?_
              refine ar_pickT rfl rfl rfl rfl rfl ?_
              refine ar_assign rfl rfl rfl rfl ?_
              refine ar_nil ?_
              refine then_n ?_
              refine wp_ret ?_
              refine ret_post rfl rfl ?_
              rfl
    · refine ar_not rfl rfl rfl rfl rfl ?_
      refine ar_pickF rfl rfl rfl rfl rfl ?_
      refine ar_move rfl rfl rfl rfl ?_
      refine ar_skip rfl rfl ?_
      refine ar_skip rfl rfl ?_
      refine ar_skip rfl rfl ?_
      refine ar_pickT rfl rfl rfl rfl rfl ?_
      refine ar_nil ?_
      refine then_n ?_
      refine wp_condT rfl ?_
      refine wp_seq ?_
      refine wp_reg (by kernel_rfl) ?_
      refine ar_move rfl rfl rfl rfl ?_
      refine ar_assign rfl rfl rfl rfl ?_
      refine ar_nil ?_
      refine then_n ?_
      refine wp_ret ?_
      refine then_r (ret_post rfl rfl ?_)
      rfl
  · refine ar_not rfl rfl rfl rfl rfl ?_
    refine ar_move rfl rfl rfl rfl ?_
    refine ar_skip rfl rfl ?_
    refine ar_skip rfl rfl ?_
    refine ar_skip rfl rfl ?_
    refine ar_pickT rfl rfl rfl rfl rfl ?_
    refine ar_move rfl rfl rfl rfl ?_
    refine ar_skip rfl rfl ?_
    refine ar_skip rfl rfl ?_
    refine ar_skip rfl rfl ?_
    refine ar_pickT rfl rfl rfl rfl rfl ?_
    refine ar_nil ?_
    refine then_n ?_
    refine wp_condT rfl ?_
    refine wp_seq ?_
    refine wp_reg (by kernel_rfl) ?_
    refine ar_move rfl rfl rfl rfl ?_
    refine ar_assign rfl rfl rfl rfl ?_
    refine ar_nil ?_
    refine then_n ?_
    refine wp_ret ?_
    refine then_r (ret_post rfl rfl ?_)
    rfl


theorem all_snoc {c : List Int} {j : Nat} (h : j < c.length) : ((c.take (j + 1)).all fun x => decide (x = 1)) = (((c.take j).all fun x => decide (x = 1)) && decide (c.getD j default = 1)) := by
  rw [take_snoc h, List.all_append]; simp

theorem pc_26 (a : Aig) (t : Trace) (n : Int) (hf : Fit a) (htf : FitT t) (h0 : 0 ≤ n) (h1 : n ≤ 255) : PCall Try.prog 26 [aigV a, trV t, .int .u8 n] (.bool true) := by
  refine pc_of tab_ok (f := 26) (fn := Try.f26) (N := 136) (rs := [.tmp 6]) (by kernel_rfl) rfl (by kernel_rfl) rfl rfl [(0, .v (aigV a)), (1, .v (trV t)), (2, .v (.int .u8 n))] ⟨rfl, rfl, rfl, trivial⟩ rfl rfl ?_
  intro B
  have hn : Nn t.ini := htf.iu.nn
  have hn2 : ∀ r, r ∈ t.ins → Nn r := fun r hr => (htf.ru r hr).nn
  refine wp_seq ?_
  refine wp_reg (by kernel_rfl) ?_
  refine ar_box 3 [] rfl rfl rfl ⟨rfl, trivial⟩ rfl rfl rfl ?_
  refine ar_box 4 [] rfl rfl rfl ⟨rfl, trivial⟩ rfl rfl rfl ?_
  refine ar_assign rfl rfl rfl rfl ?_
  refine ar_nil ?_
  refine then_n ?_
  refine wp_seq ?_
  refine wp_reg (by kernel_rfl) ?_
  refine ar_call [] (pc_80) rfl rfl rfl rfl rfl rfl trivial (.inl rfl) rfl rfl rfl ?_
  refine ar_assign rfl rfl rfl rfl ?_
  refine ar_nil ?_
  refine then_n ?_
  refine wp_seq ?_
  refine wp_seq ?_
  refine wp_reg (by kernel_rfl) ?_
  refine ar_lda tab_ok rfl rfl rfl tb27 rfl rfl rfl rfl rfl rfl ?_
  refine ar_callE [] (pce_55 a hf) rfl rfl rfl rfl rfl rfl trivial (.inl rfl) rfl rfl rfl ?_
  rintro _ ⟨b21, rfl, hb21⟩
  refine ar_split (fun h21 => ?_) (fun h21 => ?_)
  · refine ar_not rfl rfl rfl rfl rfl ?_
    refine ar_move rfl rfl rfl rfl ?_
    refine ar_lda tab_ok rfl rfl rfl tb101 rfl rfl rfl rfl rfl rfl ?_
    refine ar_callE [] (pce_81 t 20 htf.il htf.nl (by decide)) rfl rfl rfl rfl rfl rfl trivial (.inl rfl) rfl rfl rfl ?_
    rintro _ ⟨b25, rfl, hb25⟩
    refine ar_split (fun h25 => ?_) (fun h25 => ?_)
    · refine ar_not rfl rfl rfl rfl rfl ?_
      refine ar_pickF rfl rfl rfl rfl rfl ?_
      refine ar_move rfl rfl rfl rfl ?_
      refine ar_lda tab_ok rfl rfl rfl tb27 rfl rfl rfl rfl rfl rfl ?_
      refine ar_lda tab_ok rfl rfl rfl tb101 rfl rfl rfl rfl rfl rfl ?_
      refine ar_call [] (pc_79 a t hf hn htf.il htf.nl htf.rl) rfl rfl rfl rfl rfl rfl trivial (.inl rfl) rfl rfl rfl ?_
      refine ar_split (fun h31 => ?_) (fun h31 => ?_)
      · refine ar_not rfl rfl rfl rfl rfl ?_
        refine ar_pickF rfl rfl rfl rfl rfl ?_
        refine ar_nil ?_
        refine then_n ?_
        refine wp_condF rfl ?_
        refine wp_skip ?_
        refine then_n ?_
        refine wp_seq ?_
        have hg := hb21 h21
        have hbd := hg.bd
        have hz := (hb25 h25).sz (by decide)
        have hr := h31
        have ho := okt_of (rightT_iff.1 hr) hn hn2
        have hn0 := ho.r.n0; have hn1 := ho.r.n1
        have hkk : ∃ kn : Nat, (kn : Int) = n % (t.ins.length : Int) ∧ kn < t.ins.length := ⟨(n % (t.ins.length : Int)).toNat, Int.toNat_of_nonneg (Int.emod_nonneg _ (by omega)), by have := Int.emod_lt_of_pos n (show 0 < (t.ins.length : Int) by omega); omega⟩
        obtain ⟨kn, hk1, hk2⟩ := hkk
        have hol := okt_less ho (k := (kn + 1)) (by omega)
        refine wp_reg (by kernel_rfl) ?_
        refine ar_move rfl rfl rfl rfl ?_
        refine ar_conv (z := n) tab_ok rfl rfl tb5 tb3 rfl rfl (IntWalk.i64_in _ ⟨by omega, by omega⟩) rfl rfl ?_
        refine ar_fa tab_ok rfl rfl rfl tb101 rfl rfl rfl rfl rfl ?_
        refine ar_ld tab_ok rfl rfl rfl tb99 rfl rfl rfl rfl rfl ?_
        refine ar_len tab_ok rfl rfl tb99 rfl len_map rfl rfl ?_
        refine ar_rem (z := (kn : Int)) rfl rfl rfl (by omega) (by rw [Int.tmod_eq_emod_of_nonneg (by omega)]; exact hk1.symm) rfl rfl ?_
        refine ar_addi (z := (((kn + 1) : Nat) : Int)) rfl rfl rfl (by omega) (by omega) (by omega) rfl rfl ?_
        refine ar_assign rfl rfl rfl rfl ?_
        refine ar_nil ?_
        refine then_n ?_
        refine wp_seq ?_
        refine wp_draw (L := [([4], []), ([4], []), ([4], []), ([4], []), ([4], []), ([4], []), ([], []), ([], []), ([], []), ([9], [9]), ([9], [9])]) (by kernel_rfl) mixed (by kernel_rfl) ?_
        refine ar_fa tab_ok rfl rfl rfl tb101 rfl rfl rfl rfl rfl ?_
        refine ar_ld tab_ok rfl rfl rfl tb3 rfl rfl rfl rfl rfl ?_
        refine ar_fa tab_ok rfl rfl rfl tb101 rfl rfl rfl rfl rfl ?_
        refine ar_ld tab_ok rfl rfl rfl tb70 rfl rfl rfl rfl rfl ?_
        refine ar_fa tab_ok rfl rfl rfl tb101 rfl rfl rfl rfl rfl ?_
        refine ar_ld tab_ok rfl rfl rfl tb99 rfl rfl rfl rfl rfl ?_
        refine ar_move rfl rfl rfl rfl ?_
        refine ar_slice_hi (es' := (t.ins.take (kn + 1)).map encUs) (kn + 1) tab_ok rfl tb99 rfl tb70 rfl rfl rfl (by simp; omega) (fun el h => by obtain ⟨_, _, rfl⟩ := List.mem_map.1 h; rfl) List.map_take.symm rfl rfl ?_
        refine ar_build [] tab_ok rfl tb101 rfl rfl trivial rfl rfl rfl rfl rfl rfl ?_
        refine ar_alloc (id := 9) tab_ok rfl rfl tb101 rfl rfl rfl rfl ?_
        refine ar_st [] tab_ok rfl tb101 rfl rfl rfl trivial rfl rfl rfl rfl rfl rfl rfl rfl ?_
        refine ar_nil ?_
        refine then_n ?_
        refine wp_seq ?_
        refine wp_reg (by kernel_rfl) ?_
        refine ar_lda tab_ok rfl rfl rfl tb27 rfl rfl rfl rfl rfl rfl ?_
        refine ar_lda tab_ok rfl rfl rfl tb101 rfl rfl rfl rfl rfl rfl ?_
        refine ar_call [] (pc_82 a t hf hbd hz hn hn2) rfl rfl rfl rfl rfl rfl trivial (.inl rfl) rfl rfl rfl ?_
        refine ar_move rfl rfl rfl rfl ?_
        refine ar_ext rfl rfl rfl rfl rfl ?_
        refine ar_ext rfl rfl rfl rfl rfl ?_
        refine ar_assign rfl rfl rfl rfl ?_
        refine ar_assign rfl rfl rfl rfl ?_
        refine ar_nil ?_
        refine then_n ?_
        refine wp_seq ?_
        refine wp_reg (by kernel_rfl) ?_
        refine ar_lda tab_ok rfl rfl rfl tb27 rfl rfl rfl rfl rfl rfl ?_
        refine ar_lda tab_ok rfl rfl rfl tb101 rfl rfl rfl rfl rfl rfl ?_
        refine ar_call [] (pc_82 a (lessT t (kn + 1)) hf hbd (less_sz hz _) hn (fun r hr => hn2 r (List.mem_of_mem_take hr))) rfl rfl rfl rfl rfl rfl trivial (.inl rfl) rfl rfl rfl ?_
        refine ar_move rfl rfl rfl rfl ?_
        refine ar_ext rfl rfl rfl rfl rfl ?_
        refine ar_ext rfl rfl rfl rfl rfl ?_
        refine ar_assign rfl rfl rfl rfl ?_
        refine ar_assign rfl rfl rfl rfl ?_
        refine ar_nil ?_
        refine then_n ?_
        refine wp_seq ?_
        refine wp_seq ?_
        rw [statesT_ok hr, statesT_ok (rightT_iff.2 hol.r)]
        have hl1 := outs_len a t
        have hs1 := statesT_le hbd hz
        rw [statesT_ok hr] at hs1
        have ho1 : ∀ r, r ∈ outs a t → r.length ≤ 1000000 := hs1.2
        have hlo := less_outs a t (kn + 1)
        have hlk := outs_len a (lessT t (kn + 1))
        have hlt : (t.ins.take (kn + 1)).length = kn + 1 := by rw [List.length_take]; omega
        have hlk2 : (outs a (lessT t (kn + 1))).length = kn + 2 := by rw [hlk]; show (t.ins.take (kn + 1)).length + 1 = _; rw [hlt]
        refine wp_reg (by kernel_rfl) ?_
        refine ar_move rfl rfl rfl rfl ?_
        refine ar_neq rfl rfl rfl (decide_eq_false (by exact fun h => h rfl)) rfl rfl ?_
        refine ar_move rfl rfl rfl rfl ?_
        refine ar_move rfl rfl rfl rfl ?_
        refine ar_neq rfl rfl rfl (decide_eq_false (by exact fun h => h rfl)) rfl rfl ?_
        refine ar_pickF rfl rfl rfl rfl rfl ?_
        refine ar_move rfl rfl rfl rfl ?_
        refine ar_move rfl rfl rfl rfl ?_
        refine ar_len tab_ok rfl rfl tb99 rfl (len_map (xs := outs a t)) rfl rfl ?_
        refine ar_fa tab_ok rfl rfl rfl tb101 rfl rfl rfl rfl rfl ?_
        refine ar_ld tab_ok rfl rfl rfl tb99 rfl rfl rfl rfl rfl ?_
        refine ar_len tab_ok rfl rfl tb99 rfl len_map rfl rfl ?_
        refine ar_addi rfl rfl rfl rfl (by omega) (by omega) rfl rfl ?_
        refine ar_neq rfl rfl rfl (decide_eq_false (by omega)) rfl rfl ?_
        refine ar_pickF rfl rfl rfl rfl rfl ?_
        refine ar_move rfl rfl rfl rfl ?_
        refine ar_move rfl rfl rfl rfl ?_
        refine ar_move rfl rfl rfl rfl ?_
        refine ar_move rfl rfl rfl rfl ?_
        refine ar_addi (z := ((kn + 2 : Nat) : Int)) rfl rfl rfl (by omega) (by omega) (by omega) rfl rfl ?_
        refine ar_slice_hi (es' := ((outs a t).take (kn + 2)).map encUs) (kn + 2) tab_ok rfl tb99 rfl tb70 rfl rfl rfl (by show kn + 2 ≤ ((outs a t).map encUs).length; rw [List.length_map]; omega) (fun el h => by obtain ⟨_, _, rfl⟩ := List.mem_map.1 h; rfl) List.map_take.symm rfl rfl ?_
        refine ar_call [] (pc_84 (outs a (lessT t (kn + 1))) ((outs a t).take (kn + 2)) (by omega) (fun r hr => by rw [hlo] at hr; have := ho1 r (List.mem_of_mem_take hr); omega) (fun r hr => by have := ho1 r (List.mem_of_mem_take hr); omega)) rfl rfl rfl rfl rfl rfl trivial (.inl rfl) rfl rfl rfl ?_
        refine ar_to (d' := .v (.bool true)) (congrArg (fun b => D.v (V.bool b)) (decide_eq_true hlo)) ?_
        refine ar_not rfl rfl rfl rfl rfl ?_
        refine ar_pickF rfl rfl rfl rfl rfl ?_
        refine ar_nil ?_
        refine then_n ?_
        refine wp_condF rfl ?_
        refine wp_skip ?_
        refine then_n ?_
        refine wp_seq ?_
        have hat := ho.at kn
        have hrow := ho.row hk2
        have hgt : (outs a (lessT t (kn + 1))).getD kn default = endT a t.ini (t.ins.take kn) := by rw [hlo, getD_take (by omega)]; have h9 := outT_get (a := a) (t := t) (j := t.ins.length) (i := kn) (Nat.le_refl _) (by omega); rw [outT_all] at h9; exact h9
        have hfk := frT_get a t.ins t.ini kn hk2
        have hlen := ho.fb hk2
        have hcl := hbd.c1
        have hq1 := hbd.l1; have hq2 := hbd.i1
        refine wp_draw (L := [([3], []), ([], []), ([], []), ([], []), ([], []), ([], []), ([4], []), ([4], []), ([], []), ([], []), ([], []), ([], []), ([], []), ([], []), ([], []), ([], []), ([], []), ([15], [15]), ([], []), ([15], [15]), ([], [])]) (by kernel_rfl) mixed (by kernel_rfl) ?_
        refine ar_lda tab_ok rfl rfl rfl tb27 rfl rfl rfl rfl rfl rfl ?_
        refine ar_move rfl rfl rfl rfl ?_
        refine ar_move rfl rfl rfl rfl ?_
        refine ar_subi (z := (kn : Int)) rfl rfl rfl (by omega) (by omega) (by omega) rfl rfl ?_
        refine ar_ia (el := encUs (endT a t.ini (t.ins.take kn))) tab_ok rfl rfl rfl tb99 rfl tb70 (by omega) (by have := map_get (enc := encUs) (xs := outs a (lessT t (kn + 1))) (n := kn) (by omega); rw [hgt] at this; exact this) rfl rfl rfl ?_
        refine ar_ld_ref tab_ok rfl rfl tb70 rfl rfl rfl rfl ?_
        refine ar_fa tab_ok rfl rfl rfl tb101 rfl rfl rfl rfl rfl ?_
        refine ar_ld tab_ok rfl rfl rfl tb99 rfl rfl rfl rfl rfl ?_
        refine ar_move rfl rfl rfl rfl ?_
        refine ar_subi (z := (kn : Int)) rfl rfl rfl (by omega) (by omega) (by omega) rfl rfl ?_
        refine ar_ia tab_ok rfl rfl rfl tb99 rfl tb70 (by omega) (map_get (n := kn) (by omega)) rfl rfl rfl ?_
        refine ar_ld_ref tab_ok rfl rfl tb70 rfl rfl rfl rfl ?_
        refine ar_call [] (pc_59 a (endT a t.ini (t.ins.take kn)) (t.ins.getD kn default) hg (by have := hat.1; omega) (by have := hrow.1; omega)) rfl rfl rfl rfl rfl rfl trivial (.inl rfl) rfl rfl rfl ?_
        rw [← hfk]
        refine ar_move rfl rfl rfl rfl ?_
        refine ar_ext rfl rfl rfl rfl rfl ?_
        refine ar_ext rfl rfl rfl rfl rfl ?_
        refine ar_ext rfl rfl rfl rfl rfl ?_
        refine ar_alloc (id := 15) tab_ok rfl rfl tb83 rfl rfl rfl rfl ?_
        refine ar_assign rfl rfl rfl rfl ?_
        refine ar_st [] tab_ok rfl tb83 rfl rfl rfl trivial rfl rfl rfl rfl rfl rfl rfl rfl ?_
        refine ar_assign rfl rfl rfl rfl ?_
        refine ar_nil ?_
        refine then_n ?_
        refine wp_seq ?_
        refine wp_reg (by kernel_rfl) ?_
        refine ar_assign rfl rfl rfl rfl ?_
        refine ar_nil ?_
        refine then_n ?_
        refine wp_seq ?_
        refine wp_seq ?_
        refine wp_reg (by kernel_rfl) ?_
        refine ar_assign rfl rfl rfl rfl ?_
        refine ar_nil ?_
        refine then_n ?_
        refine wp_block ?_
        refine wp_loop (α := Nat) (fun j => mk [(3, .ptr 3 0), (4, .ptr 4 0), (7, .v (.bool true)), (9, .ptr 9 0), (15, .ptr 15 0), (17, .v (.bool ((((frT a t.ini t.ins).getD kn default).c.take j).all fun x => decide (x = 1)))), (18, .v (.int .i64 (j : Nat)))] [(3, .box ((encA a).map .v)), (4, .box ((encT t).map .v)), (9, .box ((encT (lessT t (kn + 1))).map .v)), (15, .box [.v (slU ((frT a t.ini t.ins).getD kn default).o), .v (slU ((frT a t.ini t.ins).getD kn default).b), .v (slU ((frT a t.ini t.ins).getD kn default).c)])] 0) (fun j => j ≤ ((frT a t.ini t.ins).getD kn default).c.length) (fun j => ((frT a t.ini t.ins).getD kn default).c.length - j) 0 (Nat.zero_le _) (le_to ⟨rfl, rfl, rfl, rfl, rfl, (bool_eq rfl (by simp)), rfl, trivial⟩ ⟨rfl, rfl, rfl, rfl, trivial⟩ rfl rfl rfl rfl) ?_
        rintro j hinv
        refine wp_seq ?_
        refine wp_seq ?_
        refine wp_reg (by kernel_rfl) ?_
        refine ar_move rfl rfl rfl rfl ?_
        refine ar_ia_arr tab_ok rfl rfl rfl rfl tb83 rfl tb70 (by omega) (by omega) rfl rfl rfl rfl ?_
        refine ar_ld tab_ok rfl rfl rfl tb70 rfl rfl rfl rfl rfl ?_
        refine ar_len tab_ok rfl rfl tb70 rfl len_map rfl rfl ?_
        refine ar_lss_s rfl rfl rfl rfl rfl (fun h108 => ?_) (fun h108 => ?_)
        · refine ar_nil ?_
          refine then_n ?_
          refine wp_condT rfl ?_
          refine wp_skip ?_
          refine then_n ?_
          refine wp_seq ?_
          refine wp_block ?_
          refine wp_reg (by kernel_rfl) ?_
          refine ar_move rfl rfl rfl rfl ?_
          refine ar_split (fun h111 => ?_) (fun h111 => ?_)
          · refine ar_move rfl rfl rfl rfl ?_
            refine ar_ia_arr tab_ok rfl rfl rfl rfl tb83 rfl tb70 (by omega) (by omega) rfl rfl rfl rfl ?_
            refine ar_ld tab_ok rfl rfl rfl tb70 rfl rfl rfl rfl rfl ?_
            refine ar_move rfl rfl rfl rfl ?_
            refine ar_ia tab_ok rfl rfl rfl tb70 rfl tb72 (by omega) (map_get (n := j) (by omega)) rfl rfl rfl ?_
            refine ar_ld_ref tab_ok rfl rfl tb72 rfl rfl rfl rfl ?_
            refine ar_eql_s rfl rfl rfl rfl rfl (fun h118 => ?_) (fun h118 => ?_)
            · refine ar_pickT rfl rfl rfl rfl rfl ?_
              refine ar_assign rfl rfl rfl rfl ?_
              refine ar_nil ?_
              refine inblk_n ?_
              refine then_n ?_
              refine wp_reg (by kernel_rfl) ?_
              refine ar_move rfl rfl rfl rfl ?_
              refine ar_addi rfl rfl rfl rfl (by omega) (by omega) rfl rfl ?_
              refine ar_assign rfl rfl rfl rfl ?_
              refine ar_nil ?_
              exact loop_n (j + 1) (by omega) (by omega) (le_to ⟨rfl, rfl, rfl, rfl, rfl, (bool_eq rfl (by rw [all_snoc (by omega), h111]; first | rfl | (rw [decide_eq_true h118]; rfl) | (rw [decide_eq_false h118]; rfl))), rfl, trivial⟩ ⟨rfl, rfl, rfl, rfl, trivial⟩ rfl rfl rfl rfl)
            · refine ar_pickT rfl rfl rfl rfl rfl ?_
              refine ar_assign rfl rfl rfl rfl ?_
              refine ar_nil ?_
              refine inblk_n ?_
              refine then_n ?_
              refine wp_reg (by kernel_rfl) ?_
              refine ar_move rfl rfl rfl rfl ?_
              refine ar_addi rfl rfl rfl rfl (by omega) (by omega) rfl rfl ?_
              refine ar_assign rfl rfl rfl rfl ?_
              refine ar_nil ?_
              exact loop_n (j + 1) (by omega) (by omega) (le_to ⟨rfl, rfl, rfl, rfl, rfl, (bool_eq rfl (by rw [all_snoc (by omega), h111]; first | rfl | (rw [decide_eq_true h118]; rfl) | (rw [decide_eq_false h118]; rfl))), rfl, trivial⟩ ⟨rfl, rfl, rfl, rfl, trivial⟩ rfl rfl rfl rfl)
          · refine ar_move rfl rfl rfl rfl ?_
            refine ar_skip rfl rfl ?_
            refine ar_skip rfl rfl ?_
            refine ar_skip rfl rfl ?_
            refine ar_skip rfl rfl ?_
            refine ar_skip rfl rfl ?_
            refine ar_skip rfl rfl ?_
            refine ar_pickF rfl rfl rfl rfl rfl ?_
            refine ar_assign rfl rfl rfl rfl ?_
            refine ar_nil ?_
            refine inblk_n ?_
            refine then_n ?_
            refine wp_reg (by kernel_rfl) ?_
            refine ar_move rfl rfl rfl rfl ?_
            refine ar_addi rfl rfl rfl rfl (by omega) (by omega) rfl rfl ?_
            refine ar_assign rfl rfl rfl rfl ?_
            refine ar_nil ?_
            exact loop_n (j + 1) (by omega) (by omega) (le_to ⟨rfl, rfl, rfl, rfl, rfl, (bool_eq rfl (by rw [all_snoc (by omega), h111]; first | rfl | (rw [decide_eq_true h118]; rfl) | (rw [decide_eq_false h118]; rfl))), rfl, trivial⟩ ⟨rfl, rfl, rfl, rfl, trivial⟩ rfl rfl rfl rfl)
        · refine ar_nil ?_
          refine then_n ?_
          refine wp_condF rfl ?_
          refine wp_exit ?_
          refine then_x (loop_x (inblk_e ?_))
          refine then_n ?_
          refine wp_seq ?_
          have hj : j = ((frT a t.ini t.ins).getD kn default).c.length := by omega
          have hcon : ((((frT a t.ini t.ins).getD kn default).c.take j).all fun x => decide (x = 1)) = false → conT ((frT a t.ini t.ins).getD kn default) = false := fun h => by rw [hj, List.take_length] at h; exact h
          refine wp_reg (by kernel_rfl) ?_
          refine ar_move rfl rfl rfl rfl ?_
          refine ar_move rfl rfl rfl rfl ?_
          refine ar_move rfl rfl rfl rfl ?_
          refine ar_split (fun h122 => ?_) (fun h122 => ?_)
          · refine ar_move rfl rfl rfl rfl ?_
            refine ar_skip rfl rfl ?_
            refine ar_skip rfl rfl ?_
            refine ar_skip rfl rfl ?_
            refine ar_skip rfl rfl ?_
            refine ar_skip rfl rfl ?_
            refine ar_skip rfl rfl ?_
            refine ar_skip rfl rfl ?_
            refine ar_skip rfl rfl ?_
            refine ar_skip rfl rfl ?_
            refine ar_skip rfl rfl ?_
            refine ar_pickT rfl rfl rfl rfl rfl ?_
            refine ar_pickT rfl rfl rfl rfl rfl ?_
            refine ar_assign rfl rfl rfl rfl ?_
            refine ar_nil ?_
            refine then_n ?_
            refine wp_ret ?_
            refine ret_post rfl rfl ?_
            rfl
          · refine ar_move rfl rfl rfl rfl ?_
            refine ar_lda tab_ok rfl rfl rfl tb27 rfl rfl rfl rfl rfl rfl ?_
            refine ar_lda tab_ok rfl rfl rfl tb101 rfl rfl rfl rfl rfl rfl ?_
            refine ar_call [] (pc_85 a t hf hbd hz hn hn2) rfl rfl rfl rfl rfl rfl trivial (.inl rfl) rfl rfl rfl ?_
            refine ar_eql rfl rfl rfl (decide_eq_true (by exact less_8 ho hk2 (hcon h122))) rfl rfl ?_
            refine ar_move rfl rfl rfl rfl ?_
            refine ar_lda tab_ok rfl rfl rfl tb27 rfl rfl rfl rfl rfl rfl ?_
            refine ar_lda tab_ok rfl rfl rfl tb101 rfl rfl rfl rfl rfl rfl ?_
            refine ar_call [] (pc_85 a (lessT t (kn + 1)) hf hbd (less_sz hz _) hn (fun r hr => hn2 r (List.mem_of_mem_take hr))) rfl rfl rfl rfl rfl rfl trivial (.inl rfl) rfl rfl rfl ?_
            refine ar_eql rfl rfl rfl (decide_eq_true (by exact less_8 hol (j := kn) (by show kn < (t.ins.take (kn + 1)).length; omega) (by show conT ((frT a t.ini (t.ins.take (kn + 1))).getD kn default) = false; rw [frT_take, getD_take (by omega)]; exact hcon h122))) rfl rfl ?_
            refine ar_pickT rfl rfl rfl rfl rfl ?_
            refine ar_pickF rfl rfl rfl rfl rfl ?_
            refine ar_pickT rfl rfl rfl rfl rfl ?_
            refine ar_assign rfl rfl rfl rfl ?_
            refine ar_nil ?_
            refine then_n ?_
            refine wp_ret ?_
            refine ret_post rfl rfl ?_
            rfl
      · refine ar_not rfl rfl rfl rfl rfl ?_
        refine ar_pickF rfl rfl rfl rfl rfl ?_
        refine ar_nil ?_
        refine then_n ?_
        refine wp_condT rfl ?_
        refine wp_seq ?_
        refine wp_reg (by kernel_rfl) ?_
        refine ar_move rfl rfl rfl rfl ?_
        refine ar_assign rfl rfl rfl rfl ?_
        refine ar_nil ?_
        refine then_n ?_
        refine wp_ret ?_
        refine then_r (ret_post rfl rfl ?_)
        rfl
    · refine ar_not rfl rfl rfl rfl rfl ?_
      refine ar_pickF rfl rfl rfl rfl rfl ?_
      refine ar_move rfl rfl rfl rfl ?_
      refine ar_skip rfl rfl ?_
      refine ar_skip rfl rfl ?_
      refine ar_skip rfl rfl ?_
      refine ar_skip rfl rfl ?_
      refine ar_pickT rfl rfl rfl rfl rfl ?_
      refine ar_nil ?_
      refine then_n ?_
      refine wp_condT rfl ?_
      refine wp_seq ?_
      refine wp_reg (by kernel_rfl) ?_
      refine ar_move rfl rfl rfl rfl ?_
      refine ar_assign rfl rfl rfl rfl ?_
      refine ar_nil ?_
      refine then_n ?_
      refine wp_ret ?_
      refine then_r (ret_post rfl rfl ?_)
      rfl
  · refine ar_not rfl rfl rfl rfl rfl ?_
    refine ar_move rfl rfl rfl rfl ?_
    refine ar_skip rfl rfl ?_
    refine ar_skip rfl rfl ?_
    refine ar_skip rfl rfl ?_
    refine ar_pickT rfl rfl rfl rfl rfl ?_
    refine ar_move rfl rfl rfl rfl ?_
    refine ar_skip rfl rfl ?_
    refine ar_skip rfl rfl ?_
    refine ar_skip rfl rfl ?_
    refine ar_skip rfl rfl ?_
    refine ar_pickT rfl rfl rfl rfl rfl ?_
    refine ar_nil ?_
    refine then_n ?_
    refine wp_condT rfl ?_
    refine wp_seq ?_
    refine wp_reg (by kernel_rfl) ?_
    refine ar_move rfl rfl rfl rfl ?_
    refine ar_assign rfl rfl rfl rfl ?_
    refine ar_nil ?_
    refine then_n ?_
    refine wp_ret ?_
    refine then_r (ret_post rfl rfl ?_)
    rfl

end Go.Vd
