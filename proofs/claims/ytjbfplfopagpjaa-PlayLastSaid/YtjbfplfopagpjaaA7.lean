/- The steps of operations on data, fourth part: append, make, literals. -/
import Derived.Test.YtjbfplfopagpjaaA6
namespace Go.Vd
open Go.RowKit

section
variable {P : Program} {tab : Tab} {o : Oper} {s : St}

/-- A slice's cells, as a list of values that lie there. -/
theorem sl_cells {w : World} {im : Nat → Prop} {es : List (List V)} {u : Value} {sz : Nat} (h : RepV w im (.sl es) u) (hs : ∀ e ∈ es, e.length = sz) (hne : es ≠ []) :
    ∃ ad c news, u = .slice (some ad) es.length c ∧ news.length = es.length * sz ∧ (∀ j v, news[j]? = some v → w.cell? (ad.add j) = some v) ∧ PW (RepV w im) es.flatten news := by
  cases h with
  | sl0 => exact absurd rfl hne
  | sl _ b q sz' c hb hl hcap hs' hc hv =>
    have e1 : sz' = sz := by
      obtain ⟨e, he⟩ := List.exists_mem_of_ne_nil _ hne
      rw [← hs' e he, hs e he]
    subst e1
    have hsz : ∀ k, k < es.length * sz' → 0 < sz' := fun k hk => by
      rcases Nat.eq_zero_or_pos sz' with h0 | h0
      · subst h0; simp at hk
      · exact h0
    have hcell : ∀ k, k < es.length * sz' → (w.cell? ⟨b, q + k, none⟩).isSome = true := fun k hk => by
      have h0 := hsz k hk
      have h1 : k / sz' < es.length := (Nat.div_lt_iff_lt_mul h0).2 hk
      have h2 := hc (k / sz') (k % sz') h1 (Nat.mod_lt _ h0)
      have h3 : k / sz' * sz' + k % sz' = k := by rw [Nat.mul_comm]; exact Nat.div_add_mod k sz'
      rw [Nat.add_assoc, h3] at h2; exact h2
    have hlen : ((List.range (es.length * sz')).map fun k => (w.cell? ⟨b, q + k, none⟩).getD undef).length = es.length * sz' := by simp
    refine ⟨⟨b, q, none⟩, c, (List.range (es.length * sz')).map fun k => (w.cell? ⟨b, q + k, none⟩).getD undef, rfl, hlen, ?_, (pw_elems hs hlen).2 ?_⟩
    · intro j v hj
      rw [List.getElem?_map] at hj
      by_cases hlt : j < es.length * sz'
      · obtain ⟨u, hu⟩ := Option.isSome_iff_exists.1 (hcell j hlt)
        rw [List.getElem?_range hlt] at hj
        simp only [Option.map_some, hu, Option.getD_some, Option.some.injEq] at hj
        rw [Addr.add_lit, hu, hj]
      · rw [List.getElem?_eq_none (by simp; omega)] at hj; cases hj
    · intro i j el v u he hv' hu
      rw [List.getElem?_map] at hu
      by_cases hlt : i * sz' + j < es.length * sz'
      · obtain ⟨u', hu'⟩ := Option.isSome_iff_exists.1 (hcell _ hlt)
        rw [List.getElem?_range hlt] at hu
        simp only [Option.map_some, hu', Option.getD_some, Option.some.injEq] at hu
        subst hu
        exact hv i j el v _ he hv' (by rw [Nat.add_assoc]; exact hu')
      · rw [List.getElem?_eq_none (by simp; omega)] at hu; cases hu

theorem one_of_pw {w : World} {im : Nat → Prop} {vs : List V} {us : List Value} (p : PW (RepV w im) vs us) (h : ∀ v ∈ vs, v.one = true) : ∀ u ∈ us, u.oneCell' = true := by
  intro u hu
  obtain ⟨k, hk, rfl⟩ := List.mem_iff_getElem.1 hu
  have hk' : k < vs.length := by rw [← p.1]; exact hk
  exact (p.2 k vs[k] us[k] (by simp [hk']) (by simp [hk])).oneCell (h _ (List.getElem_mem hk'))

/-! ### append: the model's run -/

variable {t t' e e' : Nat} {i : TypeInfo} {z : Value}

theorem run_app_none {w : World} {ty : TypeId} {ad ad' : Option Addr} {n cap c : Nat} (ht : P.underlying t = some (.slice e)) (ht' : P.underlying t' = some (.slice e')) (hi : P.info? e = some i)
    (hn : n ≤ cap) : (Builtin.append_ #[t, t'] ty #[.slice ad n cap, .slice ad' 0 c]).run P w = .ok (.slice ad n cap) w := by
  cases ad <;> cases ad' <;> simp [Builtin.append_, run_underlying ht, run_underlying ht', sizeOf, typeInfo, hi, Builtin.lenOf, Builtin.firstCells, loadCells, loadCellsFrom, storeCells, hn]

theorem run_app_nil {w : World} {ty : TypeId} (ht : P.underlying t = some (.slice e)) (ht' : P.underlying t' = some (.slice e')) (hi : P.info? e = some i) (hz : i.zero = some z)
    (a : Addr) (n c : Nat) (news : List Value) (hl : news.length = n * i.size) (hnews : ∀ j v, news[j]? = some v → w.cell? (a.add j) = some v)
    (h0 : 0 < n) (h63 : (n : Int) ≤ 9223372036854775807) (h48 : n * i.bytes ≤ 281474976710656) :
    (Builtin.append_ #[t, t'] ty #[.slice none 0 0, .slice (some a) n c]).run P w =
      .ok (.slice (some ⟨w.heap.size, 0, none⟩) n (grownCap w n 0 e)) (w.drew.alloc (.cells (news.toArray ++ Builtin.zeroCells z.cells (grownCap w n 0 e - n)) e)) := by
  have hn : n ≠ 0 := by omega
  have h63' : ¬ (9223372036854775807 < (n : Int)) := by omega
  have h48' : ¬ (281474976710656 < Builtin.nextslicecap n 0 * i.bytes) := by rw [nextslicecap_zero h0]; omega
  have hf := run_firstCells_some (P := P) w.drew i.size n a n c news hl (by simpa using hnews)
  simp [Builtin.append_, run_underlying ht, run_underlying ht', sizeOf, typeInfo, zeroValue, hi, hz, Builtin.lenOf, hn, h63', h48', Question.forced, run_firstCells_none, hf, newRow, grownCap]

theorem run_app_grow {w : World} {ty : TypeId} (ht : P.underlying t = some (.slice e)) (ht' : P.underlying t' = some (.slice e')) (hi : P.info? e = some i) (hz : i.zero = some z)
    (b : Addr) (sLen sCap : Nat) (olds : List Value) (hlo : olds.length = sLen * i.size) (holds : ∀ j v, olds[j]? = some v → w.cell? (b.add j) = some v)
    (a : Addr) (n c : Nat) (news : List Value) (hl : news.length = n * i.size) (hnews : ∀ j v, news[j]? = some v → w.cell? (a.add j) = some v)
    (hg : sCap < sLen + n) (h63 : ((sLen + n : Nat) : Int) ≤ 9223372036854775807) (hfit : Builtin.nextslicecap (sLen + n) sCap * i.bytes ≤ 281474976710656) :
    (Builtin.append_ #[t, t'] ty #[.slice (some b) sLen sCap, .slice (some a) n c]).run P w =
      .ok (.slice (some ⟨w.heap.size, 0, none⟩) (sLen + n) (grownCap w (sLen + n) sCap e))
        (w.drew.alloc (.cells ((olds ++ news).toArray ++ Builtin.zeroCells z.cells (grownCap w (sLen + n) sCap e - (sLen + n))) e)) := by
  have hn : ¬ (sLen + n ≤ sCap) := by omega
  have h63' : ¬ (9223372036854775807 < ((sLen : Int) + (n : Int))) := by omega
  have h48' : ¬ (281474976710656 < Builtin.nextslicecap (sLen + n) sCap * i.bytes) := by omega
  have hf := run_firstCells_some (P := P) w.drew i.size n a n c news hl (by simpa using hnews)
  have hfo := run_firstCells_some (P := P) w.drew i.size sLen b sLen sCap olds hlo (by simpa using holds)
  simp [Builtin.append_, run_underlying ht, run_underlying ht', sizeOf, typeInfo, zeroValue, hi, hz, Builtin.lenOf, hn, h63', h48', Question.forced, hf, hfo, newRow, grownCap]
  congr 2
  apply Array.ext'
  simp [List.append_assoc]

theorem run_app_room {w : World} {ty : TypeId} (ht : P.underlying t = some (.slice e)) (ht' : P.underlying t' = some (.slice e')) (hi : P.info? e = some i)
    (g sLen sCap : Nat) (cur : Array Value) (hg : w.heap[g]? = some (.cells cur e (0, 0)))
    (a : Addr) (m c : Nat) (news : List Value) (hl : news.length = m * i.size) (hnews : ∀ j u, news[j]? = some u → w.cell? (a.add j) = some u) (h1 : ∀ u ∈ news, u.oneCell' = true)
    (hroom : sLen + m ≤ sCap) (hfit : sLen * i.size + news.length ≤ cur.size) :
    (Builtin.append_ #[t, t'] ty #[.slice (some ⟨g, 0, none⟩) sLen sCap, .slice (some a) m c]).run P w =
      .ok (.slice (some ⟨g, 0, none⟩) (sLen + m) sCap) (w.setRow g (cur.toList.take (sLen * i.size) ++ news ++ cur.toList.drop (sLen * i.size + news.length)).toArray) := by
  have hf := run_firstCells_some (P := P) w i.size m a m c news hl hnews
  have hst := run_storeCells_at P g (sLen * i.size) e news 0 cur w hg (by simpa using hfit) h1
  simp only [Nat.add_zero] at hst
  simp [Builtin.append_, run_underlying ht, run_underlying ht', sizeOf, typeInfo, hi, Builtin.lenOf, hroom, hf, Addr.add_lit, hst]

theorem runs_append_op {x y : Operand} {a : Act} {w w' : World} {u : Value} (ho : o.op = .call { callee := .builtin .append, args := #[x, y], argTypes := #[t, t'] })
    (h : (Builtin.append_ #[t, t'] o.type #[a.eval x, a.eval y]).run P w = .ok u w') : (execOp a.eval o).run P w = .ok (.value u) w' := by
  simp [execOp, ho, resolve, invoke, builtin, h]

/-- The row that a slice of the call's own becomes under another number. -/
theorem Sim.moveRow {B : Base} {s : St} {ι : Nat → Con} {a : Act} {w w' : World} (S : Sim B s ι a w) {id nid : Nat} {e sz : Nat} {es : List (List V)} (hid : s.h id = .row e sz es) (hn : s.h nid = .res) (c' : Con) (hc' : c'.blk = (ι id).blk) (blk : Blk)
    (hos : w'.os = w.os) (htape : w'.tape = w.tape) (hout : w'.output = w.output) (hsize : w'.heap.size = w.heap.size)
    (hw : ∀ b, b < w.heap.size → (ι id).blk ≠ some b → w'.heap[b]? = w.heap[b]?)
    (hblk : (∀ b, imS B ι b → b < w.heap.size → imS B (upd (upd ι id .dead) nid c') b ∧ w'.heap[b]? = w.heap[b]?) → BlkRel w' (imS B (upd (upd ι id .dead) nid c')) (upd (upd ι id .dead) nid c') blk c') :
    Sim B { s with h := upd (upd s.h id .dead) nid blk } (upd (upd ι id .dead) nid c') a w' := by
  have hne : nid ≠ id := by intro e; subst e; rw [hid] at hn; cases hn
  have hres : ι nid = .res := by have := S.blks nid; rw [hn] at this; exact this
  have hcase : ∀ k b, (upd (upd ι id .dead) nid c' k).blk = some b → (k = nid ∧ (ι id).blk = some b) ∨ (k ≠ nid ∧ k ≠ id ∧ (ι k).blk = some b) := by
    intro k b h
    by_cases hk : k = nid
    · subst hk; rw [upd_same] at h; exact .inl ⟨rfl, hc' ▸ h⟩
    · rw [upd_ne _ _ hk] at h
      by_cases hk' : k = id
      · subst hk'; rw [upd_same] at h; cases h
      · rw [upd_ne _ _ hk'] at h; exact .inr ⟨hk, hk', h⟩
  refine (S.evolve w' (upd (upd ι id .dead) nid c') (upd (upd s.h id .dead) nid blk) (fun b => (ι id).blk = some b) hos htape hout (by omega) (fun b h => ⟨id, h⟩) (fun b hb hx => hw b hb hx) ?_ ?_ ?_ ?_ ?_).1
  · intro k hk
    by_cases h : k = nid
    · subst h; exact absurd hres hk
    · rw [upd_ne _ _ h]
      by_cases h' : k = id
      · subst h'; exact .inr (upd_same _ _ _)
      · exact .inl (upd_ne _ _ h')
  · intro k b h _
    rcases hcase k b h with ⟨_, h1⟩ | ⟨_, _, h1⟩
    · exact ⟨id, h1⟩
    · exact ⟨k, h1⟩
  · intro k k' b h h'
    rcases hcase k b h with ⟨h0, h1⟩ | ⟨h0, h0', h1⟩ <;> rcases hcase k' b h' with ⟨h2, h3⟩ | ⟨h2, h2', h3⟩
    · rw [h0, h2]
    · exact absurd (S.inj _ _ b h1 h3).symm h2'
    · exact absurd (S.inj _ _ b h1 h3) h0'
    · exact S.inj k k' b h1 h3
  · intro k b h
    rw [hsize]
    rcases hcase k b h with ⟨_, h1⟩ | ⟨_, _, h1⟩
    · exact (S.bnd id b h1).1
    · exact (S.bnd k b h1).1
  · intro k
    by_cases h : k = nid
    · subst h
      exact .inr fun hk => by rw [upd_same, upd_same]; exact hblk hk
    · by_cases h' : k = id
      · subst h'
        exact .inr fun _ => by rw [upd_ne _ _ h, upd_same, upd_ne _ _ h, upd_same]; rfl
      · exact .inl ⟨by rw [upd_ne _ _ h, upd_ne _ _ h'], by rw [upd_ne _ _ h, upd_ne _ _ h'], fun b hb hx => h' (S.inj k id b hb hx)⟩

theorem grown_row {w : World} {e need old sz m0 : Nat} {z : Value} {vs : List Value} (hv : vs.length = need * sz) (hzs : z.cells.size = sz) (hm : need ≤ maxLen) (_ : m0 = m0 := by rfl) :
    need ≤ grownCap w need old e ∧ grownCap w need old e ≤ maxLen ∧ (vs.toArray ++ Builtin.zeroCells z.cells (grownCap w need old e - need)).size = grownCap w need old e * sz ∧
      ∀ k u, k < need * sz → (vs.toArray ++ Builtin.zeroCells z.cells (grownCap w need old e - need))[k]? = some u → vs[k]? = some u := by
  have h1 := grownCap_ge w need old e
  refine ⟨h1, grownCap_le_maxLen w need old e hm, ?_, ?_⟩
  · simp only [Array.size_append, List.size_toArray, size_zeroCells, hzs, hv, ← Nat.add_mul]
    congr 1; omega
  · intro k u hk hu
    rw [Array.getElem?_append_left (by simp; omega)] at hu
    simpa using hu

/-- What append adds: a slice read as elements. -/
def Src (s : St) (y : Operand) (es : List (List V)) (sz : Nat) : Prop :=
  ∀ (B : Base) (ι : Nat → Con) (a : Act) (w : World), Sim B s ι a w → (es = [] → ∃ ad c, a.eval y = .slice ad 0 c) ∧
    (es ≠ [] → ∃ ad c news, a.eval y = .slice (some ad) es.length c ∧ news.length = es.length * sz ∧ (∀ j v, news[j]? = some v → w.cell? (ad.add j) = some v) ∧ PW (RepV w (imS B ι)) es.flatten news)

theorem src_v {y : Operand} {es : List (List V)} {sz : Nat} (hy : s.ev y = some (.v (.sl es))) (hs : ∀ e ∈ es, e.length = sz) : Src s y es sz := fun B ι a w S => by
  have h := repD_v_inv (S.ev hy)
  refine ⟨fun h0 => ?_, sl_cells h hs⟩
  subst h0
  obtain ⟨ad, c, h1⟩ := repV_sl_inv h
  exact ⟨ad, c, h1⟩

theorem src_nils {y : Operand} {sz : Nat} (hy : s.ev y = some .nils) : Src s y [] sz := fun _ _ _ _ S =>
  ⟨fun _ => ⟨_, _, (S.ev hy).nils_inv⟩, fun h => absurd rfl h⟩

theorem src_own {y : Operand} {id e sz : Nat} {es : List (List V)} (hy : s.ev y = some (.own id)) (hb : s.h id = .row e sz es) : Src s y es sz := fun B ι a w S => by
  have h0 := S.blks id
  rw [hb] at h0
  have hs := h0.2.1
  have hv := (S.ev hy).own_inv.2
  refine ⟨fun h => ?_, fun hne => ?_⟩
  · obtain ⟨g, c, h1⟩ := blk_row S hb
    have := hv g _ c h1
    subst h
    cases g <;> exact ⟨_, _, this⟩
  · obtain ⟨g, cap, arr, h1, h2, h3, h4, h5, h6⟩ := row_some h0 hne
    have hle : es.length * sz ≤ arr.size := by rw [h5]; exact Nat.mul_le_mul_right _ h3
    refine ⟨⟨g, 0, none⟩, cap, arr.toList.take (es.length * sz), by rw [hv _ _ _ h1]; rfl, by simp; omega, ?_, (pw_elems hs (by simp; omega)).2 ?_⟩
    · intro j v hj
      rw [List.getElem?_take] at hj
      split at hj
      · rw [Addr.add_lit, Nat.zero_add, cell_of_row w g j arr e (0, 0) h2]; simpa using hj
      · cases hj
    · intro i j el v u he hv' hu
      rw [List.getElem?_take] at hu
      split at hu
      · exact h6 i j el v u he hv' (by simpa using hu)
      · cases hu

theorem runs_append (hT : tabOk P tab = true) {ti ti' te : TI} {x y : Operand} {nid sz : Nat} {es1 es2 : List (List V)} {kills : List (Nat × Blk)} (ho : o.op = .call { callee := .builtin .append, args := #[x, y], argTypes := #[t, t'] })
    (hl : lk tab t = some ti) (he : ti.sliceElem = some e) (hl' : lk tab t' = some ti') (he' : ti'.sliceElem = some e') (hle : lk tab e = some te) (hte : te.size = sz) (hsz : 0 < sz)
    (hx : (s.ev x = some .nils ∧ es1 = [] ∧ kills = []) ∨ ∃ id, s.ev x = some (.own id) ∧ s.h id = .row e sz es1 ∧ kills = [(id, .dead)])
    (hy : Src s y es2 sz) (hs2 : ∀ el ∈ es2, el.length = sz) (hone : ∀ el ∈ es2, ∀ v ∈ el, v.one = true) (hr : s.h nid = .res)
    (hb1 : es1.length + es2.length ≤ maxLen) (hb2 : (es1.length + es2.length) * te.bytes ≤ 140737488355328) :
    Runs P o s (.own nid) (kills ++ [(nid, .row e sz (es1 ++ es2))]) := by
  intro B ι a w S
  obtain ⟨i, z, hi, his, hib, hz, hz1, hz2⟩ := ti_info (tab_get hT hle)
  have ht := slice_kind hT hl he
  have ht' := slice_kind hT hl' he'
  have hb1' : ((es1.length + es2.length : Nat) : Int) ≤ 9223372036854775807 := by simp only [maxLen] at hb1; omega
  have hres : ι nid = .res := by have := S.blks nid; rw [hr] at this; exact this
  have hres' : ∀ id', ι id' ≠ .res → ∀ c, upd ι nid c id' = ι id' := fun id' h' c => by
    by_cases h : id' = nid
    · subst h; exact absurd hres h'
    · exact upd_ne _ _ h
  have hzs : z.cells.size = sz := by rw [hz2, hte]
  have hsrc := hy B ι a w S
  have hfone : ∀ v ∈ es2.flatten, v.one = true := fun v hv => by
    obtain ⟨el, h1, h2⟩ := List.mem_flatten.1 hv
    exact hone el h1 v h2
  rcases hx with ⟨hx, rfl, rfl⟩ | ⟨id, hx, hb, rfl⟩
  · have hxv := (S.ev hx).nils_inv
    by_cases h0 : es2 = []
    · subst h0
      obtain ⟨ad, c, h1⟩ := hsrc.1 rfl
      have hrun := runs_append_op (P := P) (a := a) (w := w) (w' := w) (u := .slice none 0 0) ho (by rw [hxv, h1]; exact run_app_none ht ht' hi (Nat.le_refl _))
      have S' := S.fresh (w' := w) hr (.row none 0 0) (.row e sz []) (fun b hb => by cases hb) rfl rfl rfl (Nat.le_refl _) (fun _ _ => rfl) (fun _ => ⟨hsz, by simp, .inl ⟨rfl, rfl⟩⟩)
      refine ⟨_, _, _, .inl hrun, S'.1, .own nid _ (by rw [upd_same]; simp) fun g m c h => ?_⟩
      rw [upd_same] at h; cases h; rfl
    · obtain ⟨ad, c, news, h1, h2, h3, h4⟩ := hsrc.2 h0
      have hpos : 0 < es2.length := List.length_pos_iff.2 h0
      simp only [List.length_nil, Nat.zero_add, List.nil_append] at *
      have hrun := runs_append_op (P := P) (a := a) (w := w) ho (by rw [hxv, h1]; exact run_app_nil ht ht' hi hz ad es2.length c news (by rw [h2, his, hte]) h3 hpos (by omega) (by rw [hib]; omega))
      obtain ⟨k1, k2, k3, k4⟩ := grown_row (w := w) (e := e) (need := es2.length) (old := 0) (sz := sz) (z := z) (vs := news) (m0 := 0) h2 hzs hb1
      have S' := S.fresh (w' := w.drew.alloc (.cells (news.toArray ++ Builtin.zeroCells z.cells (grownCap w es2.length 0 e - es2.length)) e)) hr (.row (some w.heap.size) es2.length (grownCap w es2.length 0 e)) (.row e sz es2)
        (fun b hb => by cases hb; simp) rfl rfl rfl (by simp) (fun b hb => Below.heap_alloc w.drew _ b hb)
        (fun hk => ⟨hsz, hs2, .inr ⟨w.heap.size, _, _, rfl, heap_alloc_new w.drew _, k1, k2, k3, fun i' j el v u he hv hu => ?_⟩⟩)
      · refine ⟨_, _, _, .inl hrun, S'.1, .own nid _ (by rw [upd_same]; simp) fun g m c h => ?_⟩
        rw [upd_same] at h; cases h; rfl
      · have hlt : i' * sz + j < es2.length * sz := by
          have a1 := (List.getElem?_eq_some_iff.1 he).1
          have a2 := (List.getElem?_eq_some_iff.1 hv).1
          rw [hs2 el (List.mem_of_getElem? he)] at a2
          calc i' * sz + j < i' * sz + sz := by omega
            _ = (i' + 1) * sz := by rw [Nat.add_mul, Nat.one_mul]
            _ ≤ es2.length * sz := Nat.mul_le_mul_right _ (by omega)
        exact ((pw_elems hs2 h2).1 h4 i' j el v u he hv (k4 _ u hlt hu)).mono hk
  · have h0 := S.blks id
    rw [hb] at h0
    have hs1 := h0.2.1
    have hxv := (S.ev hx).own_inv
    have hne : nid ≠ id := by intro e; subst e; rw [hb] at hr; cases hr
    have hs12 : ∀ el ∈ es1 ++ es2, el.length = sz := fun el h => by
      rcases List.mem_append.1 h with h | h
      · exact hs1 el h
      · exact hs2 el h
    have hins : ∀ i' j (el : List V) v, (es1 ++ es2)[i']? = some el → el[j]? = some v → i' * sz + j < (es1.length + es2.length) * sz := fun i' j el v he hv => by
      have a1 := (List.getElem?_eq_some_iff.1 he).1
      have a2 := (List.getElem?_eq_some_iff.1 hv).1
      rw [hs12 el (List.mem_of_getElem? he)] at a2
      rw [List.length_append] at a1
      calc i' * sz + j < i' * sz + sz := by omega
        _ = (i' + 1) * sz := by rw [Nat.add_mul, Nat.one_mul]
        _ ≤ (es1.length + es2.length) * sz := Nat.mul_le_mul_right _ (by omega)
    by_cases h20 : es2 = []
    · -- nothing is added
      subst h20
      obtain ⟨ad, c, h1⟩ := hsrc.1 rfl
      obtain ⟨g, cap, hιg⟩ := blk_row S hb
      have hxe := hxv.2 g _ cap hιg
      have hrun := runs_append_op (P := P) (a := a) (w := w) (w' := w) (u := a.eval x) ho (by
        rw [h1, hxe]
        rcases h0.2.2 with ⟨q1, q2⟩ | ⟨g', cap', arr, q1, _, q3, _⟩
        · subst q2
          rw [hιg] at q1; cases q1
          exact run_app_none ht ht' hi (Nat.le_refl _)
        · rw [hιg] at q1; cases q1
          exact run_app_none ht ht' hi q3)
      have S' := S.moveRow (w' := w) hb hr (ι id) rfl (.row e sz (es1 ++ [])) rfl rfl rfl rfl (fun _ _ _ => rfl) (fun hk => by
        have := h0.mono (w' := w) (im' := imS B (upd (upd ι id .dead) nid (ι id))) (ι' := upd (upd ι id .dead) nid (ι id)) hk (fun id' h' => by
          by_cases h : id' = nid
          · subst h; exact absurd hres h'
          · rw [upd_ne _ _ h]
            by_cases h'' : id' = id
            · subst h''; exact .inr (upd_same _ _ _)
            · exact .inl (upd_ne _ _ h'')) (fun _ _ => rfl)
        simpa using this)
      refine ⟨_, _, _, .inl hrun, S', .own nid _ (by rw [upd_same, hιg]; simp) fun g' m' c' h => ?_⟩
      rw [upd_same] at h
      simpa using hxv.2 g' m' c' h
    · obtain ⟨ad, c, news, h1, h2, h3, h4⟩ := hsrc.2 h20
      have hpos : 0 < es2.length := List.length_pos_iff.2 h20
      have hnone := one_of_pw h4 hfone
      rcases h0.2.2 with ⟨q1, q2⟩ | ⟨g, cap, arr, q1, q2, q3, q4, q5, q6⟩
      · -- the slice was nil
        subst q2
        have hxe := hxv.2 none 0 0 q1
        simp only [List.length_nil, Nat.zero_add, List.nil_append] at *
        have hrun := runs_append_op (P := P) (a := a) (w := w) ho (by rw [hxe, h1]; exact run_app_nil ht ht' hi hz ad es2.length c news (by rw [h2, his, hte]) h3 hpos (by omega) (by rw [hib]; omega))
        obtain ⟨k1, k2, k3, k4⟩ := grown_row (w := w) (e := e) (need := es2.length) (old := 0) (sz := sz) (z := z) (vs := news) (m0 := 0) h2 hzs hb1
        obtain ⟨S1, hk1⟩ := S.kill (id := id) (by rw [q1]; simp)
        have hr1 : ({ s with h := upd s.h id .dead } : St).h nid = .res := by rw [← hr]; exact upd_ne _ _ hne
        have S' := S1.fresh (w' := w.drew.alloc (.cells (news.toArray ++ Builtin.zeroCells z.cells (grownCap w es2.length 0 e - es2.length)) e)) hr1 (.row (some w.heap.size) es2.length (grownCap w es2.length 0 e)) (.row e sz es2)
          (fun b hb => by cases hb; simp) rfl rfl rfl (by simp) (fun b hb => Below.heap_alloc w.drew _ b hb)
          (fun hk => ⟨hsz, hs2, .inr ⟨w.heap.size, _, _, rfl, heap_alloc_new w.drew _, k1, k2, k3, fun i' j el v u he hv hu => ?_⟩⟩)
        · refine ⟨_, _, _, .inl hrun, S'.1, .own nid _ (by rw [upd_same]; simp) fun g m c h => ?_⟩
          rw [upd_same] at h; cases h; rfl
        · exact (((pw_elems hs2 h2).1 h4 i' j el v u he hv (k4 _ u (hins i' j el v he hv) hu)).mono hk1).mono hk
      · have hxe := hxv.2 _ _ _ q1
        have hle : es1.length * sz ≤ arr.size := by rw [q5]; exact Nat.mul_le_mul_right _ q3
        by_cases hroom : es1.length + es2.length ≤ cap
        · -- there is room
          have hfit : es1.length * i.size + news.length ≤ arr.size := by
            rw [h2, his, hte, q5, ← Nat.add_mul]; exact Nat.mul_le_mul_right _ hroom
          have hrun := runs_append_op (P := P) (a := a) (w := w) ho (by
            rw [hxe, h1]; exact run_app_room ht ht' hi g es1.length cap arr q2 ad es2.length c news (by rw [h2, his, hte]) h3 hnone hroom hfit)
          rw [his, hte] at hrun hfit
          have S' := S.moveRow (w' := w.setRow g (arr.toList.take (es1.length * sz) ++ news ++ arr.toList.drop (es1.length * sz + news.length)).toArray) hb hr (.row (some g) (es1.length + es2.length) cap) (by rw [q1]; rfl) (.row e sz (es1 ++ es2)) rfl rfl rfl (by simp)
            (fun b _ hbne => setRow_other w g b _ (by intro e; subst e; exact hbne (by rw [q1]; rfl))) (fun hk => by
              refine ⟨hsz, hs12, .inr ⟨g, cap, _, by simp, setRow_heap w g arr _ e _ q2, by simpa using hroom, q4, ?_, ?_⟩⟩
              · simp only [List.size_toArray, List.length_append, List.length_take, List.length_drop, Array.length_toList]; omega
              · intro i' j el v u he hv hu
                have p1 : PW (RepV w (imS B ι)) es1.flatten (arr.toList.take (es1.length * sz)) := (pw_elems hs1 (by simp; omega)).2 (fun i j el v u he hv hu => by
                  rw [List.getElem?_take] at hu
                  split at hu
                  · exact q6 i j el v u he hv (by simpa using hu)
                  · cases hu)
                have p := p1.append h4
                rw [← List.flatten_append] at p
                have hlen : (arr.toList.take (es1.length * sz) ++ news).length = (es1 ++ es2).length * sz := by
                  simp only [List.length_append, List.length_take, Array.length_toList, h2, Nat.add_mul]; omega
                refine ((pw_elems hs12 hlen).1 p i' j el v u he hv ?_).mono hk
                have hlt := hins i' j el v he hv
                rw [List.getElem?_toArray, List.getElem?_append_left (by rw [hlen, List.length_append]; exact hlt)] at hu
                exact hu)
          refine ⟨_, _, _, .inl hrun, S', .own nid _ (by rw [upd_same]; simp) fun g' m' c' h => ?_⟩
          rw [upd_same] at h; cases h; rfl
        · -- a new block
          have holds : ∀ j v, (arr.toList.take (es1.length * sz))[j]? = some v → w.cell? ((⟨g, 0, none⟩ : Addr).add j) = some v := fun j v hj => by
            rw [List.getElem?_take] at hj
            split at hj
            · rw [Addr.add_lit, Nat.zero_add, cell_of_row w g j arr e (0, 0) q2]; simpa using hj
            · cases hj
          have hrun := runs_append_op (P := P) (a := a) (w := w) ho (by
            rw [hxe, h1]; exact run_app_grow ht ht' hi hz ⟨g, 0, none⟩ es1.length cap (arr.toList.take (es1.length * sz)) (by rw [his, hte]; simp; omega) holds ad es2.length c news (by rw [h2, his, hte]) h3 (by omega) hb1'
              (growslice_fits (by omega) (by rw [hib]; exact hb2)))
          have hlen : (arr.toList.take (es1.length * sz) ++ news).length = (es1.length + es2.length) * sz := by
            simp only [List.length_append, List.length_take, Array.length_toList, h2, Nat.add_mul]; omega
          obtain ⟨k1, k2, k3, k4⟩ := grown_row (w := w) (e := e) (need := es1.length + es2.length) (old := cap) (sz := sz) (z := z) (vs := arr.toList.take (es1.length * sz) ++ news) (m0 := 0) hlen hzs hb1
          obtain ⟨S1, hk1⟩ := S.kill (id := id) (by rw [q1]; simp)
          have hr1 : ({ s with h := upd s.h id .dead } : St).h nid = .res := by rw [← hr]; exact upd_ne _ _ hne
          have S' := S1.fresh (w' := w.drew.alloc (.cells ((arr.toList.take (es1.length * sz) ++ news).toArray ++ Builtin.zeroCells z.cells (grownCap w (es1.length + es2.length) cap e - (es1.length + es2.length))) e)) hr1
            (.row (some w.heap.size) (es1.length + es2.length) (grownCap w (es1.length + es2.length) cap e)) (.row e sz (es1 ++ es2))
            (fun b hb => by cases hb; simp) rfl rfl rfl (by simp) (fun b hb => Below.heap_alloc w.drew _ b hb)
            (fun hk => ⟨hsz, hs12, .inr ⟨w.heap.size, _, _, by simp, heap_alloc_new w.drew _, by simpa using k1, k2, k3, fun i' j el v u he hv hu => ?_⟩⟩)
          · refine ⟨_, _, _, .inl hrun, S'.1, .own nid _ (by rw [upd_same]; simp) fun g m c h => ?_⟩
            rw [upd_same] at h; cases h; rfl
          · have p1 : PW (RepV w (imS B ι)) es1.flatten (arr.toList.take (es1.length * sz)) := (pw_elems hs1 (by simp; omega)).2 (fun i j el v u he hv hu => by
              rw [List.getElem?_take] at hu
              split at hu
              · exact q6 i j el v u he hv (by simpa using hu)
              · cases hu)
            have p := p1.append h4
            rw [← List.flatten_append] at p
            exact (((pw_elems hs12 (by rw [hlen, List.length_append])).1 p i' j el v u he hv (k4 _ u (hins i' j el v he hv) hu)).mono hk1).mono hk

end
end Go.Vd
