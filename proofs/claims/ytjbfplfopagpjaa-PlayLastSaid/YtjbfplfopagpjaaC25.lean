/- PlayTells, PlayEvery, PlayImplies: as the program tells them. -/
import Derived.Test.YtjbfplfopagpjaaC24
namespace Go.Vd
open Go.Proofs

def ex11 : Aig := ⟨1, [], [], [], [2], [], []⟩
theorem ex11_fit : Fit ex11 := ⟨by decide, by decide, by decide, by decide, by decide, by decide, fun j hj => absurd hj (Nat.not_lt_zero j)⟩
theorem ex11_bd : Bd ex11 := ⟨by decide, by decide, by decide, by decide, by decide, by decide, by decide⟩
abbrev tr1 (x : Int) : Trace := ⟨0, [], [[x]]⟩
theorem tr1_sz (x : Int) : SzT (tr1 x) := ⟨by simp, by simp, fun r hr => by
  have : r = [x] := by simpa using hr
  subst this; simp⟩
theorem tr1_n (x : Int) : Nn (tr1 x).ini := fun y hy => by cases hy
theorem tr1_n2 {x : Int} (h : 0 ≤ x) : ∀ r, r ∈ (tr1 x).ins → Nn r := fun r hr y hy => by
  have : r = [x] := by simpa using hr
  subst this
  have : y = x := by simpa using hy
  omega
theorem statesT_le {a : Aig} {t : Trace} (hb : Bd a) (hz : SzT t) : (statesT a t).1.length ≤ 1000001 ∧ ∀ r, r ∈ (statesT a t).1 → r.length ≤ 1000000 := by
  cases h : rightT a t with
  | false => rw [statesT_bad h]; simp
  | true =>
    rw [statesT_ok h]
    refine ⟨by simp only [List.length_cons, List.length_map, frT_len]; have := hz.nl; omega, fun r hr => ?_⟩
    rcases List.mem_cons.1 hr with rfl | hr
    · exact hz.il
    · obtain ⟨f, hf, rfl⟩ := List.mem_map.1 hr
      obtain ⟨j, hj, rfl⟩ := List.getElem_of_mem hf
      rw [frT_len] at hj
      have := frT_get a t.ins t.ini j hj
      rw [List.getD_eq_getElem?_getD, List.getElem?_eq_getElem (by rw [frT_len]; exact hj)] at this
      simp only [Option.getD_some] at this
      rw [this]
      have := stepT_le (st := endT a t.ini (t.ins.take j)) (inp := t.ins.getD j default) hb
      omega
theorem tern_7 {a : Aig} {t : Trace} : ternaryT a t = 7 ↔ rightT a t = false := by
  cases hb : rightT a t with
  | false => simp [ternaryT_bad hb]
  | true =>
    by_cases h : ternGo t.bad.toNat 0 (frT a t.ini t.ins) = 1
    · rw [ternaryT_0 hb h]; simp
    · rw [ternaryT_8 hb h]; simp
theorem tern_n7 {a : Aig} {t : Trace} (h : ¬ ternaryT a t = 7) : rightT a t = true := by
  cases hb : rightT a t with
  | true => rfl
  | false => exact absurd (tern_7.2 hb) h
theorem fillR_nil : ∀ (l : List Int), fillR [] l = l
  | [] => by simp [fillR]
  | x :: xs => by
    by_cases h : x = 2
    · rw [fillR_h0 h, fillR_nil xs]
    · rw [fillR_nn h, fillR_nil xs]
theorem fillRows_nil : ∀ (rs : List (List Int)), fillRows [] rs = rs
  | [] => rfl
  | r :: rs => by rw [fillRows, List.drop_nil, fillR_nil, fillRows_nil rs]
theorem fillT_nil (t : Trace) : fillT t [] = t := by
  simp only [fillT, List.drop_nil, fillR_nil, fillRows_nil]
theorem every_none {a : Aig} {t : Trace} {most : Int} (h : rightT a t = true) (h0 : holesT t = 0) (hm : 0 ≤ most) : everyT a t most = wholeT a t := by
  have hn : ¬ ((holesT t : Int) > most ∨ holesT t > 12) := by omega
  have hk : allB (holesT t) (okF a t) = decide (wholeT a t = 0) := by rw [h0]; show okF a t [] = _; simp only [okF, fillT_nil]
  rcases whole_78 h h0 with hw | hw
  · rw [everyT_0 h hn (by rw [hk, hw]; rfl), hw]
  · rw [everyT_8 h hn (by rw [hk, hw]; decide), hw]
theorem fill_ok {a : Aig} (hg : Good a) {t : Trace} (ho : Okt a t) {m : List Bool} (hm : holesT t ≤ m.length) (h : ternaryT a t = 0) : wholeT a (fillT t m) = 0 := by
  rw [whole_tern hg (okt_fill ho m) (fillT_none hm)]
  exact ternary_low ho (okt_fill ho m) (fillT_low t m) h
theorem every_ok {a : Aig} (hg : Good a) {t : Trace} (ho : Okt a t) {most : Int} (h1 : (holesT t : Int) ≤ most) (h2 : holesT t ≤ 12) (h : ternaryT a t = 0) : everyT a t most = 0 :=
  everyT_0 (rightT_iff.2 ho.r) (by omega) (allB_iff.2 fun m hm => decide_eq_true (fill_ok hg ho (by omega) h))

theorem pc_80  : PCall Try.prog 80 [] (.bool true) := by
  refine pc_of tab_ok (f := 80) (fn := Try.f80) (N := 61) (rs := [.tmp 0]) (by kernel_rfl) rfl (by kernel_rfl) rfl rfl [] trivial rfl rfl ?_
  intro B
  refine wp_seq ?_
  refine wp_reg (by kernel_rfl) ?_
  refine ar_assign rfl rfl rfl rfl ?_
  refine ar_nil ?_
  refine then_n ?_
  refine wp_seq ?_
  refine wp_reg (by kernel_rfl) ?_
  refine ar_bs [] tab_ok rfl tb24 rfl tb3 rfl trivial rfl rfl rfl rfl rfl rfl rfl rfl ?_
  refine ar_build [] tab_ok rfl tb27 rfl rfl trivial rfl rfl rfl rfl rfl rfl ?_
  refine ar_alloc (id := 1) tab_ok rfl rfl tb27 rfl rfl rfl rfl ?_
  refine ar_st [] tab_ok rfl tb27 rfl rfl rfl trivial rfl rfl rfl rfl rfl rfl rfl rfl ?_
  refine ar_nil ?_
  refine then_n ?_
  refine wp_seq ?_
  refine wp_draw (L := [([1], []), ([], []), ([], []), ([], []), ([], []), ([], []), ([], []), ([], [])]) (by kernel_rfl) mixed (by kernel_rfl) ?_
  refine ar_lda tab_ok rfl rfl rfl tb27 rfl rfl rfl rfl rfl rfl ?_
  refine ar_call [] (pc_120 1) rfl rfl rfl rfl rfl rfl trivial (.inl rfl) rfl rfl rfl ?_
  refine ar_call [] (pc_82 ex11 (tr1 1) ex11_fit ex11_bd (tr1_sz 1) (tr1_n 1) (tr1_n2 (by decide))) rfl rfl rfl rfl rfl rfl trivial (.inl rfl) rfl rfl rfl ?_
  refine ar_to (d' := .v (.tup [slUU [[], []], .int .i64 0])) (by kernel_rfl) ?_
  refine ar_move rfl rfl rfl rfl ?_
  refine ar_ext rfl rfl rfl rfl rfl ?_
  refine ar_ext rfl rfl rfl rfl rfl ?_
  refine ar_assign rfl rfl rfl rfl ?_
  refine ar_assign rfl rfl rfl rfl ?_
  refine ar_nil ?_
  refine then_n ?_
  refine wp_seq ?_
  refine wp_draw (L := [([1], []), ([], []), ([], []), ([], []), ([], []), ([1], []), ([], []), ([], []), ([], []), ([], []), ([], []), ([1], []), ([], []), ([], []), ([], []), ([], []), ([], []), ([1], []), ([], []), ([], []), ([], []), ([], []), ([], []), ([1], []), ([], []), ([], []), ([], []), ([], []), ([], []), ([1], []), ([], []), ([], []), ([], []), ([], []), ([], []), ([1], []), ([], []), ([], []), ([], []), ([], []), ([], []), ([], []), ([], []), ([], []), ([], []), ([], []), ([], []), ([], []), ([], []), ([], [])]) (by kernel_rfl) mixed (by kernel_rfl) ?_
  refine ar_lda tab_ok rfl rfl rfl tb27 rfl rfl rfl rfl rfl rfl ?_
  refine ar_call [] (pc_120 1) rfl rfl rfl rfl rfl rfl trivial (.inl rfl) rfl rfl rfl ?_
  refine ar_call [] (pc_85 ex11 (tr1 1) ex11_fit ex11_bd (tr1_sz 1) (tr1_n 1) (tr1_n2 (by decide))) rfl rfl rfl rfl rfl rfl trivial (.inl rfl) rfl rfl rfl ?_
  refine ar_to (d' := .v (.int .i64 0)) (by kernel_rfl) ?_
  refine ar_eql rfl rfl rfl (decide_eq_true (by rfl)) rfl rfl ?_
  refine ar_move rfl rfl rfl rfl ?_
  refine ar_lda tab_ok rfl rfl rfl tb27 rfl rfl rfl rfl rfl rfl ?_
  refine ar_call [] (pc_120 0) rfl rfl rfl rfl rfl rfl trivial (.inl rfl) rfl rfl rfl ?_
  refine ar_call [] (pc_85 ex11 (tr1 0) ex11_fit ex11_bd (tr1_sz 0) (tr1_n 0) (tr1_n2 (by decide))) rfl rfl rfl rfl rfl rfl trivial (.inl rfl) rfl rfl rfl ?_
  refine ar_to (d' := .v (.int .i64 8)) (by kernel_rfl) ?_
  refine ar_eql rfl rfl rfl (decide_eq_true (by rfl)) rfl rfl ?_
  refine ar_pickT rfl rfl rfl rfl rfl ?_
  refine ar_move rfl rfl rfl rfl ?_
  refine ar_lda tab_ok rfl rfl rfl tb27 rfl rfl rfl rfl rfl rfl ?_
  refine ar_call [] (pc_120 2) rfl rfl rfl rfl rfl rfl trivial (.inl rfl) rfl rfl rfl ?_
  refine ar_call [] (pc_85 ex11 (tr1 2) ex11_fit ex11_bd (tr1_sz 2) (tr1_n 2) (tr1_n2 (by decide))) rfl rfl rfl rfl rfl rfl trivial (.inl rfl) rfl rfl rfl ?_
  refine ar_to (d' := .v (.int .i64 8)) (by kernel_rfl) ?_
  refine ar_eql rfl rfl rfl (decide_eq_true (by rfl)) rfl rfl ?_
  refine ar_pickT rfl rfl rfl rfl rfl ?_
  refine ar_move rfl rfl rfl rfl ?_
  refine ar_lda tab_ok rfl rfl rfl tb27 rfl rfl rfl rfl rfl rfl ?_
  refine ar_call [] (pc_120 1) rfl rfl rfl rfl rfl rfl trivial (.inl rfl) rfl rfl rfl ?_
  refine ar_call [] (pc_86 ex11 (tr1 1) ex11_fit ex11_bd (tr1_sz 1) (tr1_n 1) (tr1_n2 (by decide))) rfl rfl rfl rfl rfl rfl trivial (.inl rfl) rfl rfl rfl ?_
  refine ar_to (d' := .v (.int .i64 0)) (by kernel_rfl) ?_
  refine ar_eql rfl rfl rfl (decide_eq_true (by rfl)) rfl rfl ?_
  refine ar_pickT rfl rfl rfl rfl rfl ?_
  refine ar_move rfl rfl rfl rfl ?_
  refine ar_lda tab_ok rfl rfl rfl tb27 rfl rfl rfl rfl rfl rfl ?_
  refine ar_call [] (pc_120 2) rfl rfl rfl rfl rfl rfl trivial (.inl rfl) rfl rfl rfl ?_
  refine ar_call [] (pc_86 ex11 (tr1 2) ex11_fit ex11_bd (tr1_sz 2) (tr1_n 2) (tr1_n2 (by decide))) rfl rfl rfl rfl rfl rfl trivial (.inl rfl) rfl rfl rfl ?_
  refine ar_to (d' := .v (.int .i64 7)) (by kernel_rfl) ?_
  refine ar_eql rfl rfl rfl (decide_eq_true (by rfl)) rfl rfl ?_
  refine ar_pickT rfl rfl rfl rfl rfl ?_
  refine ar_move rfl rfl rfl rfl ?_
  refine ar_lda tab_ok rfl rfl rfl tb27 rfl rfl rfl rfl rfl rfl ?_
  refine ar_call [] (pc_120 2) rfl rfl rfl rfl rfl rfl trivial (.inl rfl) rfl rfl rfl ?_
  refine ar_call [] (pc_87 ex11 (tr1 2) 5 ex11_fit ex11_bd (tr1_sz 2) (tr1_n 2) (tr1_n2 (by decide))) rfl rfl rfl rfl rfl rfl trivial (.inl rfl) rfl rfl rfl ?_
  refine ar_to (d' := .v (.int .i64 8)) (by kernel_rfl) ?_
  refine ar_eql rfl rfl rfl (decide_eq_true (by rfl)) rfl rfl ?_
  refine ar_pickT rfl rfl rfl rfl rfl ?_
  refine ar_move rfl rfl rfl rfl ?_
  refine ar_lda tab_ok rfl rfl rfl tb27 rfl rfl rfl rfl rfl rfl ?_
  refine ar_call [] (pc_120 1) rfl rfl rfl rfl rfl rfl trivial (.inl rfl) rfl rfl rfl ?_
  refine ar_call [] (pc_87 ex11 (tr1 1) 5 ex11_fit ex11_bd (tr1_sz 1) (tr1_n 1) (tr1_n2 (by decide))) rfl rfl rfl rfl rfl rfl trivial (.inl rfl) rfl rfl rfl ?_
  refine ar_to (d' := .v (.int .i64 0)) (by kernel_rfl) ?_
  refine ar_eql rfl rfl rfl (decide_eq_true (by rfl)) rfl rfl ?_
  refine ar_pickT rfl rfl rfl rfl rfl ?_
  refine ar_move rfl rfl rfl rfl ?_
  refine ar_move rfl rfl rfl rfl ?_
  refine ar_eql rfl rfl rfl (decide_eq_true (by rfl)) rfl rfl ?_
  refine ar_pickT rfl rfl rfl rfl rfl ?_
  refine ar_move rfl rfl rfl rfl ?_
  refine ar_move rfl rfl rfl rfl ?_
  refine ar_len tab_ok rfl rfl tb99 rfl rfl rfl rfl ?_
  refine ar_eql rfl rfl rfl (decide_eq_true (by rfl)) rfl rfl ?_
  refine ar_pickT rfl rfl rfl rfl rfl ?_
  refine ar_assign rfl rfl rfl rfl ?_
  refine ar_nil ?_
  refine then_n ?_
  refine wp_ret ?_
  refine ret_post rfl rfl ?_
  rfl

theorem pc_22 (a : Aig) (t : Trace) (hf : Fit a) (htf : FitT t) : PCall Try.prog 22 [aigV a, trV t] (.bool true) := by
  refine pc_of tab_ok (f := 22) (fn := Try.f22) (N := 61) (rs := [.tmp 4]) (by kernel_rfl) rfl (by kernel_rfl) rfl rfl [(0, .v (aigV a)), (1, .v (trV t))] ⟨rfl, rfl, trivial⟩ rfl rfl ?_
  intro B
  have hn : Nn t.ini := htf.iu.nn
  have hn2 : ∀ r, r ∈ t.ins → Nn r := fun r hr => (htf.ru r hr).nn
  refine wp_seq ?_
  refine wp_reg (by kernel_rfl) ?_
  refine ar_box 2 [] rfl rfl rfl ⟨rfl, trivial⟩ rfl rfl rfl ?_
  refine ar_box 3 [] rfl rfl rfl ⟨rfl, trivial⟩ rfl rfl rfl ?_
  refine ar_assign rfl rfl rfl rfl ?_
  refine ar_nil ?_
  refine then_n ?_
  refine wp_seq ?_
  refine wp_reg (by kernel_rfl) ?_
  refine ar_call [] (pc_80) rfl rfl rfl rfl rfl rfl trivial (.inl rfl) rfl rfl rfl ?_
  refine ar_assign rfl rfl rfl rfl ?_
  refine ar_nil ?_
  refine then_n ?_
  refine wp_seq ?_
  refine wp_seq ?_
  refine wp_reg (by kernel_rfl) ?_
  refine ar_lda tab_ok rfl rfl rfl tb27 rfl rfl rfl rfl rfl rfl ?_
  refine ar_callE [] (pce_55 a hf) rfl rfl rfl rfl rfl rfl trivial (.inl rfl) rfl rfl rfl ?_
  rintro _ ⟨b12, rfl, hb12⟩
  refine ar_split (fun h12 => ?_) (fun h12 => ?_)
  · refine ar_not rfl rfl rfl rfl rfl ?_
    refine ar_move rfl rfl rfl rfl ?_
    refine ar_lda tab_ok rfl rfl rfl tb101 rfl rfl rfl rfl rfl rfl ?_
    refine ar_callE [] (pce_81 t 20 htf.il htf.nl (by decide)) rfl rfl rfl rfl rfl rfl trivial (.inl rfl) rfl rfl rfl ?_
    rintro _ ⟨b16, rfl, hb16⟩
    refine ar_split (fun h16 => ?_) (fun h16 => ?_)
    · refine ar_not rfl rfl rfl rfl rfl ?_
      refine ar_pickF rfl rfl rfl rfl rfl ?_
      refine ar_nil ?_
      refine then_n ?_
      refine wp_condF rfl ?_
      refine wp_skip ?_
      refine then_n ?_
      refine wp_seq ?_
      have hg := hb12 h12
      have hbd := hg.bd
      have hz := (hb16 h16).sz (by decide)
      have hsl := statesT_le hbd hz
      refine wp_reg (by kernel_rfl) ?_
      refine ar_lda tab_ok rfl rfl rfl tb27 rfl rfl rfl rfl rfl rfl ?_
      refine ar_lda tab_ok rfl rfl rfl tb101 rfl rfl rfl rfl rfl rfl ?_
      refine ar_call [] (pc_82 a t hf hbd hz hn hn2) rfl rfl rfl rfl rfl rfl trivial (.inl rfl) rfl rfl rfl ?_
      refine ar_move rfl rfl rfl rfl ?_
      refine ar_ext rfl rfl rfl rfl rfl ?_
      refine ar_ext rfl rfl rfl rfl rfl ?_
      refine ar_assign rfl rfl rfl rfl ?_
      refine ar_assign rfl rfl rfl rfl ?_
      refine ar_nil ?_
      refine then_n ?_
      refine wp_seq ?_
      refine wp_reg (by kernel_rfl) ?_
      refine ar_lda tab_ok rfl rfl rfl tb27 rfl rfl rfl rfl rfl rfl ?_
      refine ar_lda tab_ok rfl rfl rfl tb101 rfl rfl rfl rfl rfl rfl ?_
      refine ar_call [] (pc_83 a t hf hg hz hn hn2) rfl rfl rfl rfl rfl rfl trivial (.inl rfl) rfl rfl rfl ?_
      refine ar_move rfl rfl rfl rfl ?_
      refine ar_ext rfl rfl rfl rfl rfl ?_
      refine ar_ext rfl rfl rfl rfl rfl ?_
      refine ar_assign rfl rfl rfl rfl ?_
      refine ar_assign rfl rfl rfl rfl ?_
      refine ar_nil ?_
      refine then_n ?_
      refine wp_seq ?_
      refine wp_draw (L := [([], []), ([], []), ([], []), ([], []), ([], []), ([], []), ([], []), ([], []), ([], []), ([], []), ([], []), ([], []), ([2], []), ([3], []), ([], []), ([2], []), ([3], []), ([], []), ([], []), ([], []), ([], []), ([2], []), ([3], []), ([], []), ([2], []), ([3], []), ([], []), ([], []), ([], []), ([], [])]) (by kernel_rfl) mixed (by kernel_rfl) ?_
      refine ar_move rfl rfl rfl rfl ?_
      refine ar_move rfl rfl rfl rfl ?_
      refine ar_move rfl rfl rfl rfl ?_
      refine ar_move rfl rfl rfl rfl ?_
      refine ar_call [] (pc_84 _ _ (by have := hsl.1; omega) (fun r hr => by have := hsl.2 r hr; omega) (fun r hr => by have := hsl.2 r hr; omega)) rfl rfl rfl rfl rfl rfl trivial (.inl rfl) rfl rfl rfl ?_
      refine ar_to (d' := .v (.bool true)) (congrArg (fun b => D.v (V.bool b)) (decide_eq_true rfl)) ?_
      refine ar_pickT rfl rfl rfl rfl rfl ?_
      refine ar_move rfl rfl rfl rfl ?_
      refine ar_move rfl rfl rfl rfl ?_
      refine ar_move rfl rfl rfl rfl ?_
      refine ar_eql rfl rfl rfl (decide_eq_true (by rfl)) rfl rfl ?_
      refine ar_pickT rfl rfl rfl rfl rfl ?_
      refine ar_move rfl rfl rfl rfl ?_
      refine ar_lda tab_ok rfl rfl rfl tb27 rfl rfl rfl rfl rfl rfl ?_
      refine ar_lda tab_ok rfl rfl rfl tb101 rfl rfl rfl rfl rfl rfl ?_
      refine ar_call [] (pc_85 a t hf hbd hz hn hn2) rfl rfl rfl rfl rfl rfl trivial (.inl rfl) rfl rfl rfl ?_
      refine ar_lda tab_ok rfl rfl rfl tb27 rfl rfl rfl rfl rfl rfl ?_
      refine ar_lda tab_ok rfl rfl rfl tb101 rfl rfl rfl rfl rfl rfl ?_
      refine ar_call [] (pc_68 a t hf hg hz hn hn2) rfl rfl rfl rfl rfl rfl trivial (.inl rfl) rfl rfl rfl ?_
      refine ar_eql rfl rfl rfl (decide_eq_true (by rfl)) rfl rfl ?_
      refine ar_pickT rfl rfl rfl rfl rfl ?_
      refine ar_move rfl rfl rfl rfl ?_
      refine ar_lda tab_ok rfl rfl rfl tb27 rfl rfl rfl rfl rfl rfl ?_
      refine ar_lda tab_ok rfl rfl rfl tb101 rfl rfl rfl rfl rfl rfl ?_
      refine ar_call [] (pc_86 a t hf hbd hz hn hn2) rfl rfl rfl rfl rfl rfl trivial (.inl rfl) rfl rfl rfl ?_
      refine ar_lda tab_ok rfl rfl rfl tb27 rfl rfl rfl rfl rfl rfl ?_
      refine ar_lda tab_ok rfl rfl rfl tb101 rfl rfl rfl rfl rfl rfl ?_
      refine ar_call [] (pc_77 a t hf hg hz hn hn2) rfl rfl rfl rfl rfl rfl trivial (.inl rfl) rfl rfl rfl ?_
      refine ar_eql rfl rfl rfl (decide_eq_true (by rfl)) rfl rfl ?_
      refine ar_pickT rfl rfl rfl rfl rfl ?_
      refine ar_assign rfl rfl rfl rfl ?_
      refine ar_nil ?_
      refine then_n ?_
      refine wp_ret ?_
      refine ret_post rfl rfl ?_
      rfl
    · refine ar_not rfl rfl rfl rfl rfl ?_
      refine ar_pickF rfl rfl rfl rfl rfl ?_
      refine ar_nil ?_
      refine then_n ?_
      refine wp_condT rfl ?_
      refine wp_seq ?_
      refine wp_reg (by kernel_rfl) ?_
      refine ar_move rfl rfl rfl rfl ?_
      refine ar_assign rfl rfl rfl rfl ?_
      refine ar_nil ?_
      refine then_n ?_
      refine wp_ret ?_
      refine then_r (ret_post rfl rfl ?_)
      rfl
  · refine ar_not rfl rfl rfl rfl rfl ?_
    refine ar_move rfl rfl rfl rfl ?_
    refine ar_skip rfl rfl ?_
    refine ar_skip rfl rfl ?_
    refine ar_skip rfl rfl ?_
    refine ar_pickT rfl rfl rfl rfl rfl ?_
    refine ar_nil ?_
    refine then_n ?_
    refine wp_condT rfl ?_
    refine wp_seq ?_
    refine wp_reg (by kernel_rfl) ?_
    refine ar_move rfl rfl rfl rfl ?_
    refine ar_assign rfl rfl rfl rfl ?_
    refine ar_nil ?_
    refine then_n ?_
    refine wp_ret ?_
    refine then_r (ret_post rfl rfl ?_)
    rfl

theorem pc_23 (a : Aig) (t : Trace) (most : Int) (hf : Fit a) (htf : FitT t) : PCall Try.prog 23 [aigV a, trV t, .int .i64 most] (.bool true) := by
  refine pc_of tab_ok (f := 23) (fn := Try.f23) (N := 41) (rs := [.tmp 6]) (by kernel_rfl) rfl (by kernel_rfl) rfl rfl [(0, .v (aigV a)), (1, .v (trV t)), (2, .v (.int .i64 most))] ⟨rfl, rfl, rfl, trivial⟩ rfl rfl ?_
  intro B
  have hn : Nn t.ini := htf.iu.nn
  have hn2 : ∀ r, r ∈ t.ins → Nn r := fun r hr => (htf.ru r hr).nn
  refine wp_seq ?_
  refine wp_reg (by kernel_rfl) ?_
  refine ar_box 3 [] rfl rfl rfl ⟨rfl, trivial⟩ rfl rfl rfl ?_
  refine ar_box 4 [] rfl rfl rfl ⟨rfl, trivial⟩ rfl rfl rfl ?_
  refine ar_assign rfl rfl rfl rfl ?_
  refine ar_nil ?_
  refine then_n ?_
  refine wp_seq ?_
  refine wp_reg (by kernel_rfl) ?_
  refine ar_call [] (pc_80) rfl rfl rfl rfl rfl rfl trivial (.inl rfl) rfl rfl rfl ?_
  refine ar_assign rfl rfl rfl rfl ?_
  refine ar_nil ?_
  refine then_n ?_
  refine wp_seq ?_
  refine wp_seq ?_
  refine wp_reg (by kernel_rfl) ?_
  refine ar_lda tab_ok rfl rfl rfl tb27 rfl rfl rfl rfl rfl rfl ?_
  refine ar_callE [] (pce_55 a hf) rfl rfl rfl rfl rfl rfl trivial (.inl rfl) rfl rfl rfl ?_
  rintro _ ⟨b10, rfl, hb10⟩
  refine ar_split (fun h10 => ?_) (fun h10 => ?_)
  · refine ar_not rfl rfl rfl rfl rfl ?_
    refine ar_move rfl rfl rfl rfl ?_
    refine ar_lda tab_ok rfl rfl rfl tb101 rfl rfl rfl rfl rfl rfl ?_
    refine ar_callE [] (pce_81 t 20 htf.il htf.nl (by decide)) rfl rfl rfl rfl rfl rfl trivial (.inl rfl) rfl rfl rfl ?_
    rintro _ ⟨b14, rfl, hb14⟩
    refine ar_split (fun h14 => ?_) (fun h14 => ?_)
    · refine ar_not rfl rfl rfl rfl rfl ?_
      refine ar_pickF rfl rfl rfl rfl rfl ?_
      refine ar_move rfl rfl rfl rfl ?_
      refine ar_lda tab_ok rfl rfl rfl tb101 rfl rfl rfl rfl rfl rfl ?_
      refine ar_call [] (pc_76 t ((hb14 h14).sz (by decide))) rfl rfl rfl rfl rfl rfl trivial (.inl rfl) rfl rfl rfl ?_
      refine ar_gtr_s rfl rfl rfl rfl rfl (fun h20 => ?_) (fun h20 => ?_)
      · refine ar_move rfl rfl rfl rfl ?_
        refine ar_move rfl rfl rfl rfl ?_
        refine ar_lda tab_ok rfl rfl rfl tb101 rfl rfl rfl rfl rfl rfl ?_
        refine ar_call [] (pc_76 t ((hb14 h14).sz (by decide))) rfl rfl rfl rfl rfl rfl trivial (.inl rfl) rfl rfl rfl ?_
        refine ar_geq_s rfl rfl rfl rfl rfl (fun h25 => ?_) (fun h25 => ?_)
        · refine ar_pickT rfl rfl rfl rfl rfl ?_
          refine ar_pickF rfl rfl rfl rfl rfl ?_
          refine ar_nil ?_
          refine then_n ?_
          refine wp_condT rfl ?_
          refine wp_seq ?_
          refine wp_reg (by kernel_rfl) ?_
          refine ar_move rfl rfl rfl rfl ?_
          refine ar_assign rfl rfl rfl rfl ?_
          refine ar_nil ?_
          refine then_n ?_
          refine wp_ret ?_
          refine then_r (ret_post rfl rfl ?_)
          rfl
        · refine ar_pickT rfl rfl rfl rfl rfl ?_
          refine ar_pickF rfl rfl rfl rfl rfl ?_
          refine ar_nil ?_
          refine then_n ?_
          refine wp_condF rfl ?_
          refine wp_skip ?_
          refine then_n ?_
          refine wp_seq ?_
          have hg := hb10 h10
          have hbd := hg.bd
          have hz := (hb14 h14).sz (by decide)
          refine wp_draw (L := [([], []), ([], []), ([3], []), ([4], []), ([], []), ([], []), ([3], []), ([4], []), ([], []), ([], []), ([], []), ([], []), ([], [])]) (by kernel_rfl) mixed (by kernel_rfl) ?_
          refine ar_move rfl rfl rfl rfl ?_
          refine ar_move rfl rfl rfl rfl ?_
          refine ar_lda tab_ok rfl rfl rfl tb27 rfl rfl rfl rfl rfl rfl ?_
          refine ar_lda tab_ok rfl rfl rfl tb101 rfl rfl rfl rfl rfl rfl ?_
          refine ar_move rfl rfl rfl rfl ?_
          refine ar_call [] (pc_87 a t most hf hbd hz hn hn2) rfl rfl rfl rfl rfl rfl trivial (.inl rfl) rfl rfl rfl ?_
          refine ar_lda tab_ok rfl rfl rfl tb27 rfl rfl rfl rfl rfl rfl ?_
          refine ar_lda tab_ok rfl rfl rfl tb101 rfl rfl rfl rfl rfl rfl ?_
          refine ar_move rfl rfl rfl rfl ?_
          refine ar_call [] (pc_88 a t most hf hg hz hn hn2) rfl rfl rfl rfl rfl rfl trivial (.inl rfl) rfl rfl rfl ?_
          refine ar_eql rfl rfl rfl (decide_eq_true (by rfl)) rfl rfl ?_
          refine ar_pickT rfl rfl rfl rfl rfl ?_
          refine ar_assign rfl rfl rfl rfl ?_
          refine ar_nil ?_
          refine then_n ?_
          refine wp_ret ?_
          refine ret_post rfl rfl ?_
          rfl
      · refine ar_move rfl rfl rfl rfl ?_
        refine ar_skip rfl rfl ?_
        refine ar_skip rfl rfl ?_
        refine ar_skip rfl rfl ?_
        refine ar_skip rfl rfl ?_
        refine ar_pickF rfl rfl rfl rfl rfl ?_
        refine ar_pickF rfl rfl rfl rfl rfl ?_
        refine ar_nil ?_
        refine then_n ?_
        refine wp_condF rfl ?_
        refine wp_skip ?_
        refine then_n ?_
        refine wp_seq ?_
        have hg := hb10 h10
        have hbd := hg.bd
        have hz := (hb14 h14).sz (by decide)
        refine wp_draw (L := [([], []), ([], []), ([3], []), ([4], []), ([], []), ([], []), ([3], []), ([4], []), ([], []), ([], []), ([], []), ([], []), ([], [])]) (by kernel_rfl) mixed (by kernel_rfl) ?_
        refine ar_move rfl rfl rfl rfl ?_
        refine ar_move rfl rfl rfl rfl ?_
        refine ar_lda tab_ok rfl rfl rfl tb27 rfl rfl rfl rfl rfl rfl ?_
        refine ar_lda tab_ok rfl rfl rfl tb101 rfl rfl rfl rfl rfl rfl ?_
        refine ar_move rfl rfl rfl rfl ?_
        refine ar_call [] (pc_87 a t most hf hbd hz hn hn2) rfl rfl rfl rfl rfl rfl trivial (.inl rfl) rfl rfl rfl ?_
        refine ar_lda tab_ok rfl rfl rfl tb27 rfl rfl rfl rfl rfl rfl ?_
        refine ar_lda tab_ok rfl rfl rfl tb101 rfl rfl rfl rfl rfl rfl ?_
        refine ar_move rfl rfl rfl rfl ?_
        refine ar_call [] (pc_88 a t most hf hg hz hn hn2) rfl rfl rfl rfl rfl rfl trivial (.inl rfl) rfl rfl rfl ?_
        refine ar_eql rfl rfl rfl (decide_eq_true (by rfl)) rfl rfl ?_
        refine ar_pickT rfl rfl rfl rfl rfl ?_
        refine ar_assign rfl rfl rfl rfl ?_
        refine ar_nil ?_
        refine then_n ?_
        refine wp_ret ?_
        refine ret_post rfl rfl ?_
        rfl
    · refine ar_not rfl rfl rfl rfl rfl ?_
      refine ar_pickF rfl rfl rfl rfl rfl ?_
      refine ar_move rfl rfl rfl rfl ?_
      refine ar_skip rfl rfl ?_
      refine ar_skip rfl rfl ?_
      refine ar_skip rfl rfl ?_
      refine ar_skip rfl rfl ?_
      refine ar_skip rfl rfl ?_
      refine ar_skip rfl rfl ?_
      refine ar_skip rfl rfl ?_
      refine ar_skip rfl rfl ?_
      refine ar_skip rfl rfl ?_
      refine ar_pickT rfl rfl rfl rfl rfl ?_
      refine ar_nil ?_
      refine then_n ?_
      refine wp_condT rfl ?_
      refine wp_seq ?_
      refine wp_reg (by kernel_rfl) ?_
      refine ar_move rfl rfl rfl rfl ?_
      refine ar_assign rfl rfl rfl rfl ?_
      refine ar_nil ?_
      refine then_n ?_
      refine wp_ret ?_
      refine then_r (ret_post rfl rfl ?_)
      rfl
  · refine ar_not rfl rfl rfl rfl rfl ?_
    refine ar_move rfl rfl rfl rfl ?_
    refine ar_skip rfl rfl ?_
    refine ar_skip rfl rfl ?_
    refine ar_skip rfl rfl ?_
    refine ar_pickT rfl rfl rfl rfl rfl ?_
    refine ar_move rfl rfl rfl rfl ?_
    refine ar_skip rfl rfl ?_
    refine ar_skip rfl rfl ?_
    refine ar_skip rfl rfl ?_
    refine ar_skip rfl rfl ?_
    refine ar_skip rfl rfl ?_
    refine ar_skip rfl rfl ?_
    refine ar_skip rfl rfl ?_
    refine ar_skip rfl rfl ?_
    refine ar_skip rfl rfl ?_
    refine ar_pickT rfl rfl rfl rfl rfl ?_
    refine ar_nil ?_
    refine then_n ?_
    refine wp_condT rfl ?_
    refine wp_seq ?_
    refine wp_reg (by kernel_rfl) ?_
    refine ar_move rfl rfl rfl rfl ?_
    refine ar_assign rfl rfl rfl rfl ?_
    refine ar_nil ?_
    refine then_n ?_
    refine wp_ret ?_
    refine then_r (ret_post rfl rfl ?_)
    rfl

theorem pc_24 (a : Aig) (t : Trace) (m : List Bool) (hf : Fit a) (htf : FitT t) : PCall Try.prog 24 [aigV a, trV t, slB m] (.bool true) := by
  refine pc_of tab_ok (f := 24) (fn := Try.f24) (N := 98) (rs := [.tmp 6]) (by kernel_rfl) rfl (by kernel_rfl) rfl rfl [(0, .v (aigV a)), (1, .v (trV t)), (2, .v (slB m))] ⟨rfl, rfl, rfl, trivial⟩ rfl rfl ?_
  intro B
  have hn : Nn t.ini := htf.iu.nn
  have hn2 : ∀ r, r ∈ t.ins → Nn r := fun r hr => (htf.ru r hr).nn
  refine wp_seq ?_
  refine wp_reg (by kernel_rfl) ?_
  refine ar_box 3 [] rfl rfl rfl ⟨rfl, trivial⟩ rfl rfl rfl ?_
  refine ar_box 4 [] rfl rfl rfl ⟨rfl, trivial⟩ rfl rfl rfl ?_
  refine ar_assign rfl rfl rfl rfl ?_
  refine ar_nil ?_
  refine then_n ?_
  refine wp_seq ?_
  refine wp_reg (by kernel_rfl) ?_
  refine ar_call [] (pc_80) rfl rfl rfl rfl rfl rfl trivial (.inl rfl) rfl rfl rfl ?_
  refine ar_assign rfl rfl rfl rfl ?_
  refine ar_nil ?_
  refine then_n ?_
  refine wp_seq ?_
  refine wp_seq ?_
  refine wp_reg (by kernel_rfl) ?_
  refine ar_lda tab_ok rfl rfl rfl tb27 rfl rfl rfl rfl rfl rfl ?_
  refine ar_callE [] (pce_55 a hf) rfl rfl rfl rfl rfl rfl trivial (.inl rfl) rfl rfl rfl ?_
  rintro _ ⟨b12, rfl, hb12⟩
  refine ar_split (fun h12 => ?_) (fun h12 => ?_)
  · refine ar_not rfl rfl rfl rfl rfl ?_
    refine ar_move rfl rfl rfl rfl ?_
    refine ar_lda tab_ok rfl rfl rfl tb101 rfl rfl rfl rfl rfl rfl ?_
    refine ar_callE [] (pce_81 t 20 htf.il htf.nl (by decide)) rfl rfl rfl rfl rfl rfl trivial (.inl rfl) rfl rfl rfl ?_
    rintro _ ⟨b16, rfl, hb16⟩
    refine ar_split (fun h16 => ?_) (fun h16 => ?_)
    · refine ar_not rfl rfl rfl rfl rfl ?_
      refine ar_pickF rfl rfl rfl rfl rfl ?_
      refine ar_move rfl rfl rfl rfl ?_
      refine ar_move rfl rfl rfl rfl ?_
      refine ar_len tab_ok rfl rfl tb28 rfl len_map rfl rfl ?_
      refine ar_gtr_s rfl rfl rfl rfl rfl (fun h22 => ?_) (fun h22 => ?_)
      · refine ar_pickF rfl rfl rfl rfl rfl ?_
        refine ar_nil ?_
        refine then_n ?_
        refine wp_condT rfl ?_
        refine wp_seq ?_
        refine wp_reg (by kernel_rfl) ?_
        refine ar_move rfl rfl rfl rfl ?_
        refine ar_assign rfl rfl rfl rfl ?_
        refine ar_nil ?_
        refine then_n ?_
        refine wp_ret ?_
        refine then_r (ret_post rfl rfl ?_)
        rfl
      · refine ar_pickF rfl rfl rfl rfl rfl ?_
        refine ar_nil ?_
        refine then_n ?_
        refine wp_condF rfl ?_
        refine wp_skip ?_
        refine then_n ?_
        refine wp_seq ?_
        have hg := hb12 h12
        have hbd := hg.bd
        have hz := (hb16 h16).sz (by decide)
        refine wp_reg (by kernel_rfl) ?_
        refine ar_lda tab_ok rfl rfl rfl tb27 rfl rfl rfl rfl rfl rfl ?_
        refine ar_lda tab_ok rfl rfl rfl tb101 rfl rfl rfl rfl rfl rfl ?_
        refine ar_call [] (pc_85 a t hf hbd hz hn hn2) rfl rfl rfl rfl rfl rfl trivial (.inl rfl) rfl rfl rfl ?_
        refine ar_assign rfl rfl rfl rfl ?_
        refine ar_nil ?_
        refine then_n ?_
        refine wp_seq ?_
        refine wp_reg (by kernel_rfl) ?_
        refine ar_lda tab_ok rfl rfl rfl tb101 rfl rfl rfl rfl rfl rfl ?_
        refine ar_call [] (pc_76 t hz) rfl rfl rfl rfl rfl rfl trivial (.inl rfl) rfl rfl rfl ?_
        refine ar_assign rfl rfl rfl rfl ?_
        refine ar_nil ?_
        refine then_n ?_
        refine wp_seq ?_
        refine wp_seq ?_
        refine wp_reg (by kernel_rfl) ?_
        refine ar_move rfl rfl rfl rfl ?_
        refine ar_eql_s rfl rfl rfl rfl rfl (fun h31 => ?_) (fun h31 => ?_)
        · refine ar_nil ?_
          refine then_n ?_
          refine wp_condT rfl ?_
          refine wp_seq ?_
          refine wp_reg (by kernel_rfl) ?_
          refine ar_move rfl rfl rfl rfl ?_
          refine ar_move rfl rfl rfl rfl ?_
          refine ar_lda tab_ok rfl rfl rfl tb27 rfl rfl rfl rfl rfl rfl ?_
          refine ar_lda tab_ok rfl rfl rfl tb101 rfl rfl rfl rfl rfl rfl ?_
          refine ar_call [] (pc_86 a t hf hbd hz hn hn2) rfl rfl rfl rfl rfl rfl trivial (.inl rfl) rfl rfl rfl ?_
          refine ar_eql rfl rfl rfl (decide_eq_true (by exact wholeT_bad (fun h => Bool.false_ne_true ((tern_7.1 h31).symm.trans h.1)))) rfl rfl ?_
          refine ar_pickT rfl rfl rfl rfl rfl ?_
          refine ar_move rfl rfl rfl rfl ?_
          refine ar_lda tab_ok rfl rfl rfl tb27 rfl rfl rfl rfl rfl rfl ?_
          refine ar_lda tab_ok rfl rfl rfl tb101 rfl rfl rfl rfl rfl rfl ?_
          refine ar_call [] (pc_87 a t 12 hf hbd hz hn hn2) rfl rfl rfl rfl rfl rfl trivial (.inl rfl) rfl rfl rfl ?_
          refine ar_eql rfl rfl rfl (decide_eq_true (by exact everyT_7 (tern_7.1 h31))) rfl rfl ?_
          refine ar_pickT rfl rfl rfl rfl rfl ?_
          refine ar_assign rfl rfl rfl rfl ?_
          refine ar_nil ?_
          refine then_n ?_
          refine wp_ret ?_
          refine then_r (ret_post rfl rfl ?_)
          rfl
        · refine ar_nil ?_
          refine then_n ?_
          refine wp_condF rfl ?_
          refine wp_skip ?_
          refine then_n ?_
          refine wp_seq ?_
          refine wp_seq ?_
          have hr := tern_n7 h31
          have ho := okt_of (rightT_iff.1 hr) hn hn2
          refine wp_reg (by kernel_rfl) ?_
          refine ar_move rfl rfl rfl rfl ?_
          refine ar_eql_s rfl rfl rfl rfl rfl (fun h46 => ?_) (fun h46 => ?_)
          · refine ar_nil ?_
            refine then_n ?_
            refine wp_condT rfl ?_
            refine wp_seq ?_
            refine wp_reg (by kernel_rfl) ?_
            refine ar_move rfl rfl rfl rfl ?_
            refine ar_move rfl rfl rfl rfl ?_
            refine ar_lda tab_ok rfl rfl rfl tb27 rfl rfl rfl rfl rfl rfl ?_
            refine ar_lda tab_ok rfl rfl rfl tb101 rfl rfl rfl rfl rfl rfl ?_
            refine ar_call [] (pc_86 a t hf hbd hz hn hn2) rfl rfl rfl rfl rfl rfl trivial (.inl rfl) rfl rfl rfl ?_
            refine ar_move rfl rfl rfl rfl ?_
            refine ar_eql rfl rfl rfl (decide_eq_true (by exact whole_tern hg ho (by omega))) rfl rfl ?_
            refine ar_pickT rfl rfl rfl rfl rfl ?_
            refine ar_move rfl rfl rfl rfl ?_
            refine ar_lda tab_ok rfl rfl rfl tb27 rfl rfl rfl rfl rfl rfl ?_
            refine ar_lda tab_ok rfl rfl rfl tb101 rfl rfl rfl rfl rfl rfl ?_
            refine ar_call [] (pc_87 a t 0 hf hbd hz hn hn2) rfl rfl rfl rfl rfl rfl trivial (.inl rfl) rfl rfl rfl ?_
            refine ar_move rfl rfl rfl rfl ?_
            refine ar_eql rfl rfl rfl (decide_eq_true (by rw [every_none hr (by omega) (by decide)]; exact whole_tern hg ho (by omega))) rfl rfl ?_
            refine ar_pickT rfl rfl rfl rfl rfl ?_
            refine ar_assign rfl rfl rfl rfl ?_
            refine ar_nil ?_
            refine then_n ?_
            refine wp_ret ?_
            refine then_r (ret_post rfl rfl ?_)
            rfl
          · refine ar_nil ?_
            refine then_n ?_
            refine wp_condF rfl ?_
            refine wp_skip ?_
            refine then_n ?_
            refine wp_seq ?_
            refine wp_seq ?_
            refine wp_reg (by kernel_rfl) ?_
            refine ar_move rfl rfl rfl rfl ?_
            refine ar_leq_s rfl rfl rfl rfl rfl (fun h63 => ?_) (fun h63 => ?_)
            · refine ar_move rfl rfl rfl rfl ?_
              refine ar_move rfl rfl rfl rfl ?_
              refine ar_eql_s rfl rfl rfl rfl rfl (fun h66 => ?_) (fun h66 => ?_)
              · refine ar_pickT rfl rfl rfl rfl rfl ?_
                refine ar_move rfl rfl rfl rfl ?_
                refine ar_lda tab_ok rfl rfl rfl tb27 rfl rfl rfl rfl rfl rfl ?_
                refine ar_lda tab_ok rfl rfl rfl tb101 rfl rfl rfl rfl rfl rfl ?_
                refine ar_call [] (pc_87 a t 8 hf hbd hz hn hn2) rfl rfl rfl rfl rfl rfl trivial (.inl rfl) rfl rfl rfl ?_
                refine ar_neq rfl rfl rfl (decide_eq_false (by rw [every_ok hg ho (by omega) (by omega) h66]; exact fun h => h rfl)) rfl rfl ?_
                refine ar_pickT rfl rfl rfl rfl rfl ?_
                refine ar_nil ?_
                refine then_n ?_
                refine wp_condF rfl ?_
                refine wp_skip ?_
                refine then_n ?_
                refine wp_seq ?_
                refine wp_seq ?_
                refine wp_reg (by kernel_rfl) ?_
                refine ar_move rfl rfl rfl rfl ?_
                refine ar_len tab_ok rfl rfl tb28 rfl len_map rfl rfl ?_
                refine ar_move rfl rfl rfl rfl ?_
                refine ar_lss_s rfl rfl rfl rfl rfl (fun h77 => ?_) (fun h77 => ?_)
                · refine ar_nil ?_
                  refine then_n ?_
                  refine wp_condT rfl ?_
                  refine wp_seq ?_
                  refine wp_reg (by kernel_rfl) ?_
                  refine ar_move rfl rfl rfl rfl ?_
                  refine ar_move rfl rfl rfl rfl ?_
                  refine ar_lda tab_ok rfl rfl rfl tb27 rfl rfl rfl rfl rfl rfl ?_
                  refine ar_lda tab_ok rfl rfl rfl tb101 rfl rfl rfl rfl rfl rfl ?_
                  refine ar_call [] (pc_86 a t hf hbd hz hn hn2) rfl rfl rfl rfl rfl rfl trivial (.inl rfl) rfl rfl rfl ?_
                  refine ar_eql rfl rfl rfl (decide_eq_true (by exact wholeT_bad (fun h => by have := h.2; omega))) rfl rfl ?_
                  refine ar_pickT rfl rfl rfl rfl rfl ?_
                  refine ar_assign rfl rfl rfl rfl ?_
                  refine ar_nil ?_
                  refine then_n ?_
                  refine wp_ret ?_
                  refine then_r (ret_post rfl rfl ?_)
                  rfl
                · refine ar_nil ?_
                  refine then_n ?_
                  refine wp_condF rfl ?_
                  refine wp_skip ?_
                  refine then_n ?_
                  refine wp_seq ?_
                  refine wp_draw (L := [([], []), ([], []), ([], []), ([], []), ([], []), ([3], []), ([4], []), ([], []), ([], []), ([], []), ([], []), ([], []), ([], []), ([], [])]) (by kernel_rfl) mixed (by kernel_rfl) ?_
                  refine ar_move rfl rfl rfl rfl ?_
                  refine ar_move rfl rfl rfl rfl ?_
                  refine ar_move rfl rfl rfl rfl ?_
                  refine ar_neq_s rfl rfl rfl rfl rfl (fun h88 => ?_) (fun h88 => ?_)
                  · refine ar_move rfl rfl rfl rfl ?_
                    refine ar_skip rfl rfl ?_
                    refine ar_skip rfl rfl ?_
                    refine ar_skip rfl rfl ?_
                    refine ar_skip rfl rfl ?_
                    refine ar_skip rfl rfl ?_
                    refine ar_skip rfl rfl ?_
                    refine ar_pickT rfl rfl rfl rfl rfl ?_
                    refine ar_pickT rfl rfl rfl rfl rfl ?_
                    refine ar_assign rfl rfl rfl rfl ?_
                    refine ar_nil ?_
                    refine then_n ?_
                    refine wp_ret ?_
                    refine ret_post rfl rfl ?_
                    rfl
                  · refine ar_move rfl rfl rfl rfl ?_
                    refine ar_lda tab_ok rfl rfl rfl tb27 rfl rfl rfl rfl rfl rfl ?_
                    refine ar_lda tab_ok rfl rfl rfl tb101 rfl rfl rfl rfl rfl rfl ?_
                    refine ar_move rfl rfl rfl rfl ?_
                    refine ar_call [] (pc_74 t m hz (by omega)) rfl rfl rfl rfl rfl rfl trivial (.inl rfl) rfl rfl rfl ?_
                    refine ar_call [] (pc_86 a (fillT t m) hf hbd (fill_sz hz m) (okt_fill ho m).i.nn (fun r hr => ((okt_fill ho m).n r hr).nn)) rfl rfl rfl rfl rfl rfl trivial (.inl rfl) rfl rfl rfl ?_
                    refine ar_eql rfl rfl rfl (decide_eq_true (by exact fill_ok hg ho (by omega) (Decidable.not_not.1 h88))) rfl rfl ?_
                    refine ar_pickF rfl rfl rfl rfl rfl ?_
                    refine ar_pickT rfl rfl rfl rfl rfl ?_
                    refine ar_assign rfl rfl rfl rfl ?_
                    refine ar_nil ?_
                    refine then_n ?_
                    refine wp_ret ?_
                    refine ret_post rfl rfl ?_
                    rfl
              · refine ar_pickT rfl rfl rfl rfl rfl ?_
                refine ar_move rfl rfl rfl rfl ?_
                refine ar_skip rfl rfl ?_
                refine ar_skip rfl rfl ?_
                refine ar_skip rfl rfl ?_
                refine ar_skip rfl rfl ?_
                refine ar_pickF rfl rfl rfl rfl rfl ?_
                refine ar_nil ?_
                refine then_n ?_
                refine wp_condF rfl ?_
                refine wp_skip ?_
                refine then_n ?_
                refine wp_seq ?_
                refine wp_seq ?_
                refine wp_reg (by kernel_rfl) ?_
                refine ar_move rfl rfl rfl rfl ?_
                refine ar_len tab_ok rfl rfl tb28 rfl len_map rfl rfl ?_
                refine ar_move rfl rfl rfl rfl ?_
                refine ar_lss_s rfl rfl rfl rfl rfl (fun h77 => ?_) (fun h77 => ?_)
                · refine ar_nil ?_
                  refine then_n ?_
                  refine wp_condT rfl ?_
                  refine wp_seq ?_
                  refine wp_reg (by kernel_rfl) ?_
                  refine ar_move rfl rfl rfl rfl ?_
                  refine ar_move rfl rfl rfl rfl ?_
                  refine ar_lda tab_ok rfl rfl rfl tb27 rfl rfl rfl rfl rfl rfl ?_
                  refine ar_lda tab_ok rfl rfl rfl tb101 rfl rfl rfl rfl rfl rfl ?_
                  refine ar_call [] (pc_86 a t hf hbd hz hn hn2) rfl rfl rfl rfl rfl rfl trivial (.inl rfl) rfl rfl rfl ?_
                  refine ar_eql rfl rfl rfl (decide_eq_true (by exact wholeT_bad (fun h => by have := h.2; omega))) rfl rfl ?_
                  refine ar_pickT rfl rfl rfl rfl rfl ?_
                  refine ar_assign rfl rfl rfl rfl ?_
                  refine ar_nil ?_
                  refine then_n ?_
                  refine wp_ret ?_
                  refine then_r (ret_post rfl rfl ?_)
                  rfl
                · refine ar_nil ?_
                  refine then_n ?_
                  refine wp_condF rfl ?_
                  refine wp_skip ?_
                  refine then_n ?_
                  refine wp_seq ?_
                  refine wp_draw (L := [([], []), ([], []), ([], []), ([], []), ([], []), ([3], []), ([4], []), ([], []), ([], []), ([], []), ([], []), ([], []), ([], []), ([], [])]) (by kernel_rfl) mixed (by kernel_rfl) ?_
                  refine ar_move rfl rfl rfl rfl ?_
                  refine ar_move rfl rfl rfl rfl ?_
                  refine ar_move rfl rfl rfl rfl ?_
                  refine ar_neq_s rfl rfl rfl rfl rfl (fun h88 => ?_) (fun h88 => ?_)
                  · refine ar_move rfl rfl rfl rfl ?_
                    refine ar_skip rfl rfl ?_
                    refine ar_skip rfl rfl ?_
                    refine ar_skip rfl rfl ?_
                    refine ar_skip rfl rfl ?_
                    refine ar_skip rfl rfl ?_
                    refine ar_skip rfl rfl ?_
                    refine ar_pickT rfl rfl rfl rfl rfl ?_
                    refine ar_pickT rfl rfl rfl rfl rfl ?_
                    refine ar_assign rfl rfl rfl rfl ?_
                    refine ar_nil ?_
                    refine then_n ?_
                    refine wp_ret ?_
                    refine ret_post rfl rfl ?_
                    rfl
                  · refine ar_move rfl rfl rfl rfl ?_
                    refine ar_lda tab_ok rfl rfl rfl tb27 rfl rfl rfl rfl rfl rfl ?_
                    refine ar_lda tab_ok rfl rfl rfl tb101 rfl rfl rfl rfl rfl rfl ?_
                    refine ar_move rfl rfl rfl rfl ?_
                    refine ar_call [] (pc_74 t m hz (by omega)) rfl rfl rfl rfl rfl rfl trivial (.inl rfl) rfl rfl rfl ?_
                    refine ar_call [] (pc_86 a (fillT t m) hf hbd (fill_sz hz m) (okt_fill ho m).i.nn (fun r hr => ((okt_fill ho m).n r hr).nn)) rfl rfl rfl rfl rfl rfl trivial (.inl rfl) rfl rfl rfl ?_
                    refine ar_eql rfl rfl rfl (decide_eq_true (by exact fill_ok hg ho (by omega) (Decidable.not_not.1 h88))) rfl rfl ?_
                    refine ar_pickF rfl rfl rfl rfl rfl ?_
                    refine ar_pickT rfl rfl rfl rfl rfl ?_
                    refine ar_assign rfl rfl rfl rfl ?_
                    refine ar_nil ?_
                    refine then_n ?_
                    refine wp_ret ?_
                    refine ret_post rfl rfl ?_
                    rfl
            · refine ar_move rfl rfl rfl rfl ?_
              refine ar_skip rfl rfl ?_
              refine ar_skip rfl rfl ?_
              refine ar_pickF rfl rfl rfl rfl rfl ?_
              refine ar_move rfl rfl rfl rfl ?_
              refine ar_skip rfl rfl ?_
              refine ar_skip rfl rfl ?_
              refine ar_skip rfl rfl ?_
              refine ar_skip rfl rfl ?_
              refine ar_pickF rfl rfl rfl rfl rfl ?_
              refine ar_nil ?_
              refine then_n ?_
              refine wp_condF rfl ?_
              refine wp_skip ?_
              refine then_n ?_
              refine wp_seq ?_
              refine wp_seq ?_
              refine wp_reg (by kernel_rfl) ?_
              refine ar_move rfl rfl rfl rfl ?_
              refine ar_len tab_ok rfl rfl tb28 rfl len_map rfl rfl ?_
              refine ar_move rfl rfl rfl rfl ?_
              refine ar_lss_s rfl rfl rfl rfl rfl (fun h77 => ?_) (fun h77 => ?_)
              · refine ar_nil ?_
                refine then_n ?_
                refine wp_condT rfl ?_
                refine wp_seq ?_
                refine wp_reg (by kernel_rfl) ?_
                refine ar_move rfl rfl rfl rfl ?_
                refine ar_move rfl rfl rfl rfl ?_
                refine ar_lda tab_ok rfl rfl rfl tb27 rfl rfl rfl rfl rfl rfl ?_
                refine ar_lda tab_ok rfl rfl rfl tb101 rfl rfl rfl rfl rfl rfl ?_
                refine ar_call [] (pc_86 a t hf hbd hz hn hn2) rfl rfl rfl rfl rfl rfl trivial (.inl rfl) rfl rfl rfl ?_
                refine ar_eql rfl rfl rfl (decide_eq_true (by exact wholeT_bad (fun h => by have := h.2; omega))) rfl rfl ?_
                refine ar_pickT rfl rfl rfl rfl rfl ?_
                refine ar_assign rfl rfl rfl rfl ?_
                refine ar_nil ?_
                refine then_n ?_
                refine wp_ret ?_
                refine then_r (ret_post rfl rfl ?_)
                rfl
              · refine ar_nil ?_
                refine then_n ?_
                refine wp_condF rfl ?_
                refine wp_skip ?_
                refine then_n ?_
                refine wp_seq ?_
                refine wp_draw (L := [([], []), ([], []), ([], []), ([], []), ([], []), ([3], []), ([4], []), ([], []), ([], []), ([], []), ([], []), ([], []), ([], []), ([], [])]) (by kernel_rfl) mixed (by kernel_rfl) ?_
                refine ar_move rfl rfl rfl rfl ?_
                refine ar_move rfl rfl rfl rfl ?_
                refine ar_move rfl rfl rfl rfl ?_
                refine ar_neq_s rfl rfl rfl rfl rfl (fun h88 => ?_) (fun h88 => ?_)
                · refine ar_move rfl rfl rfl rfl ?_
                  refine ar_skip rfl rfl ?_
                  refine ar_skip rfl rfl ?_
                  refine ar_skip rfl rfl ?_
                  refine ar_skip rfl rfl ?_
                  refine ar_skip rfl rfl ?_
                  refine ar_skip rfl rfl ?_
                  refine ar_pickT rfl rfl rfl rfl rfl ?_
                  refine ar_pickT rfl rfl rfl rfl rfl ?_
                  refine ar_assign rfl rfl rfl rfl ?_
                  refine ar_nil ?_
                  refine then_n ?_
                  refine wp_ret ?_
                  refine ret_post rfl rfl ?_
                  rfl
                · refine ar_move rfl rfl rfl rfl ?_
                  refine ar_lda tab_ok rfl rfl rfl tb27 rfl rfl rfl rfl rfl rfl ?_
                  refine ar_lda tab_ok rfl rfl rfl tb101 rfl rfl rfl rfl rfl rfl ?_
                  refine ar_move rfl rfl rfl rfl ?_
                  refine ar_call [] (pc_74 t m hz (by omega)) rfl rfl rfl rfl rfl rfl trivial (.inl rfl) rfl rfl rfl ?_
                  refine ar_call [] (pc_86 a (fillT t m) hf hbd (fill_sz hz m) (okt_fill ho m).i.nn (fun r hr => ((okt_fill ho m).n r hr).nn)) rfl rfl rfl rfl rfl rfl trivial (.inl rfl) rfl rfl rfl ?_
                  refine ar_eql rfl rfl rfl (decide_eq_true (by exact fill_ok hg ho (by omega) (Decidable.not_not.1 h88))) rfl rfl ?_
                  refine ar_pickF rfl rfl rfl rfl rfl ?_
                  refine ar_pickT rfl rfl rfl rfl rfl ?_
                  refine ar_assign rfl rfl rfl rfl ?_
                  refine ar_nil ?_
                  refine then_n ?_
                  refine wp_ret ?_
                  refine ret_post rfl rfl ?_
                  rfl
    · refine ar_not rfl rfl rfl rfl rfl ?_
      refine ar_pickF rfl rfl rfl rfl rfl ?_
      refine ar_move rfl rfl rfl rfl ?_
      refine ar_skip rfl rfl ?_
      refine ar_skip rfl rfl ?_
      refine ar_skip rfl rfl ?_
      refine ar_pickT rfl rfl rfl rfl rfl ?_
      refine ar_nil ?_
      refine then_n ?_
      refine wp_condT rfl ?_
      refine wp_seq ?_
      refine wp_reg (by kernel_rfl) ?_
      refine ar_move rfl rfl rfl rfl ?_
      refine ar_assign rfl rfl rfl rfl ?_
      refine ar_nil ?_
      refine then_n ?_
      refine wp_ret ?_
      refine then_r (ret_post rfl rfl ?_)
      rfl
  · refine ar_not rfl rfl rfl rfl rfl ?_
    refine ar_move rfl rfl rfl rfl ?_
    refine ar_skip rfl rfl ?_
    refine ar_skip rfl rfl ?_
    refine ar_skip rfl rfl ?_
    refine ar_pickT rfl rfl rfl rfl rfl ?_
    refine ar_move rfl rfl rfl rfl ?_
    refine ar_skip rfl rfl ?_
    refine ar_skip rfl rfl ?_
    refine ar_skip rfl rfl ?_
    refine ar_pickT rfl rfl rfl rfl rfl ?_
    refine ar_nil ?_
    refine then_n ?_
    refine wp_condT rfl ?_
    refine wp_seq ?_
    refine wp_reg (by kernel_rfl) ?_
    refine ar_move rfl rfl rfl rfl ?_
    refine ar_assign rfl rfl rfl rfl ?_
    refine ar_nil ?_
    refine then_n ?_
    refine wp_ret ?_
    refine then_r (ret_post rfl rfl ?_)
    rfl

end Go.Vd
