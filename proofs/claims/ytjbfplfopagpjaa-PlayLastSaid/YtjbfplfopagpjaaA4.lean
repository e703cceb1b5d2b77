/- The steps of operations on data: what each reads, what it gives, what it turns; and that the model's run is so. -/
import Derived.Test.YtjbfplfopagpjaaA3
namespace Go.Vd
open Go.RowKit

def TI.isAgg (t : TI) : Bool := match t.kind with | .struct _ | .array _ _ => true | _ => false
def TI.sliceElem (t : TI) : Option Nat := match t.kind with | .slice e => some e | _ => none
def TI.field (t : TI) (f : Nat) : Option Nat := match t.kind with | .struct fos => (fos[f]?).map (·.1) | _ => none
def TI.arr (t : TI) : Option (Nat × Nat) := match t.kind with | .array l e => some (l, e) | _ => none

def hF (F : List (Nat × Blk)) (id : Nat) : Blk := (lk F id).getD .dead

/-- The heads of a run: value and world. -/
def Runs (P : Program) (o : Oper) (s : St) (d : D) (e : List (Nat × Blk)) : Prop :=
  ∀ (B : Base) (ι : Nat → Con) (a : Act) (w : World), Sim B s ι a w →
    ∃ u w' ι', ((execOp a.eval o).run P w = .ok (.value u) w' ∨ ((execOp a.eval o).run P w = .ok .skip w' ∧ u = undef)) ∧ Sim B (s.eff e) ι' a w' ∧ RepD w' (imS B ι') ι' d u

theorem runs_pure {P : Program} {o : Oper} {s : St} {d : D}
    (h : ∀ (B : Base) (ι : Nat → Con) (a : Act) (w : World), Sim B s ι a w → ∃ u, (execOp a.eval o).run P w = .ok (.value u) w ∧ RepD w (imS B ι) ι d u) : Runs P o s d [] := by
  intro B ι a w S
  obtain ⟨u, h1, h2⟩ := h B ι a w S
  exact ⟨u, w, ι, .inl h1, S, h2⟩

section
variable {P : Program} {tab : Tab} {o : Oper} {s : St}

theorem runs_move {x : Operand} {d : D} (ho : o.op = .move x ∨ o.op = .assign x) (hx : s.ev x = some d) : Runs P o s d [] :=
  runs_pure fun B ι a w S => ⟨a.eval x, by rcases ho with ho | ho <;> simp [execOp, ho], S.ev hx⟩

theorem runs_pick {c x y : Operand} {d : D} {b : Bool} (ho : o.op = .pick c x y) (hc : s.ev c = some (.v (.bool b))) (hx : s.ev (if b then x else y) = some d) : Runs P o s d [] :=
  runs_pure fun B ι a w S => by
    have h2 := (repD_v_inv (S.ev hc)).bool_inv
    refine ⟨a.eval (if b then x else y), ?_, S.ev hx⟩
    cases b <;> simp [execOp, ho, h2, asBool]

theorem runs_not {x : Operand} {T : TypeId} {b : Bool} (ho : o.op = .unOp .not T x) (hx : s.ev x = some (.v (.bool b))) : Runs P o s (.v (.bool (!b))) [] :=
  runs_pure fun B ι a w S => by
    have h2 := (repD_v_inv (S.ev hx)).bool_inv
    exact ⟨.bool (!b), by simp [execOp, ho, h2, Op.unary], .v (.bool _)⟩

theorem repV_sl_inv {w : World} {im : Nat → Prop} {es : List (List V)} {u : Value} (h : RepV w im (.sl es) u) : ∃ a c, u = .slice a es.length c := by
  cases h with
  | sl0 a c => exact ⟨a, c, rfl⟩
  | sl _ b o sz c => exact ⟨_, c, rfl⟩

theorem run_len {t : TypeId} {x : Operand} {a : Act} {w : World} {e n c : Nat} {b : Option Addr} (ho : o.op = .call { callee := .builtin .len, args := #[x], argTypes := #[t] })
    (ht : P.underlying t = some (.slice e)) (hx : a.eval x = .slice b n c) : (execOp a.eval o).run P w = .ok (.value (.int .i64 n)) w := by
  simp [execOp, ho, resolve, invoke, builtin, Builtin.len_, hx, run_underlying ht, goInt]

theorem slice_kind (hT : tabOk P tab = true) {t e : Nat} {ti : TI} (hl : lk tab t = some ti) (he : ti.sliceElem = some e) : P.underlying t = some (.slice e) := by
  have h := ti_kind (tab_get hT hl)
  unfold TI.sliceElem at he
  cases hk : ti.kind <;> rw [hk] at he h <;> simp at he
  subst he; exact h

theorem runs_len_sl (hT : tabOk P tab = true) {t e : Nat} {ti : TI} {x : Operand} {es : List (List V)} (ho : o.op = .call { callee := .builtin .len, args := #[x], argTypes := #[t] })
    (hl : lk tab t = some ti) (he : ti.sliceElem = some e) (hx : s.ev x = some (.v (.sl es))) : Runs P o s (.v (.int .i64 es.length)) [] :=
  runs_pure fun B ι a w S => by
    obtain ⟨b, c, h1⟩ := repV_sl_inv (repD_v_inv (S.ev hx))
    exact ⟨_, run_len ho (slice_kind hT hl he) h1, .v (.int _ _)⟩

theorem runs_len_nils (hT : tabOk P tab = true) {t e : Nat} {ti : TI} {x : Operand} (ho : o.op = .call { callee := .builtin .len, args := #[x], argTypes := #[t] })
    (hl : lk tab t = some ti) (he : ti.sliceElem = some e) (hx : s.ev x = some .nils) : Runs P o s (.v (.int .i64 0)) [] :=
  runs_pure fun B ι a w S => by
    have h1 := (S.ev hx).nils_inv
    exact ⟨_, run_len ho (slice_kind hT hl he) h1, .v (.int _ _)⟩

theorem runs_len_own (hT : tabOk P tab = true) {t e : Nat} {ti : TI} {x : Operand} {id e' sz : Nat} {es : List (List V)} (ho : o.op = .call { callee := .builtin .len, args := #[x], argTypes := #[t] })
    (hl : lk tab t = some ti) (he : ti.sliceElem = some e) (hx : s.ev x = some (.own id)) (hb : s.h id = .row e' sz es) : Runs P o s (.v (.int .i64 es.length)) [] :=
  runs_pure fun B ι a w S => by
    obtain ⟨g, c, h1, h2⟩ := own_val S hb (S.ev hx)
    refine ⟨_, ?_, .v (.int _ _)⟩
    cases g with
    | some g => exact run_len ho (slice_kind hT hl he) h2
    | none =>
      have h3 := S.blks id
      rw [hb] at h3
      obtain ⟨_, _, ⟨_, h4⟩ | ⟨g, cap, arr, h4, _⟩⟩ := h3
      · subst h4
        exact run_len (n := 0) ho (slice_kind hT hl he) h2
      · rw [h1] at h4; cases h4

theorem runs_len_str (hT : tabOk P tab = true) {t : Nat} {ti : TI} {x : Operand} {b : ByteArray} (ho : o.op = .call { callee := .builtin .len, args := #[x], argTypes := #[t] })
    (hl : lk tab t = some ti) (he : ti.kind = .string) (hx : s.ev x = some (.v (.str b))) : Runs P o s (.v (.int .i64 b.size)) [] :=
  runs_pure fun B ι a w S => by
    have h2 := (repD_v_inv (S.ev hx)).str_inv
    have h3 := ti_kind (tab_get hT hl)
    rw [he] at h3
    exact ⟨.int .i64 b.size, by simp [execOp, ho, resolve, invoke, builtin, Builtin.len_, h2, run_underlying h3, goInt], .v (.int _ _)⟩

/-! ### Addresses -/

theorem field_kind (hT : tabOk P tab = true) {t f k : Nat} {ti : TI} (hl : lk tab t = some ti) (he : ti.field f = some k) :
    ∃ fs fl j, P.underlying t = some (.struct fs) ∧ fs[f]? = some fl ∧ fl.offset = k ∧ P.info? fl.type = some j ∧ j.size ≠ 0 := by
  have h := ti_kind (tab_get hT hl)
  unfold TI.field at he
  cases hk : ti.kind <;> rw [hk] at he h <;> try (cases he; done)
  obtain ⟨fs, h1, h2, h3⟩ := h
  rw [← h2] at he
  simp only [List.getElem?_map, Option.map_eq_some_iff] at he
  obtain ⟨_, ⟨fl, h4, rfl⟩, h5⟩ := he
  obtain ⟨j, h6, h7⟩ := h3 fl (List.mem_of_getElem? h4)
  exact ⟨fs, fl, j, h1, by simpa using h4, h5, h6, h7⟩

theorem run_fieldAddr (hT : tabOk P tab = true) {T f k : Nat} {ti : TI} {x : Operand} {a : Act} {w : World} {b n : Nat} (ho : o.op = .fieldAddr T x f)
    (hl : lk tab T = some ti) (he : ti.field f = some k) (hx : a.eval x = .pointer (some ⟨b, n, none⟩)) :
    (execOp a.eval o).run P w = .ok (.value (.pointer (some ⟨b, n + k, none⟩))) w := by
  obtain ⟨fs, fl, j, h1, h2, h3, h4, h5⟩ := field_kind hT hl he
  simp [execOp, ho, Instr.fieldAt, run_underlying h1, h2, Instr.sureAddr, hx, fieldPlace, sizeOf, typeInfo, h4, h5, Addr.add_lit, h3]

theorem runs_fa_ptr (hT : tabOk P tab = true) {T f k : Nat} {ti : TI} {x : Operand} {id n : Nat} {cs : List D} (ho : o.op = .fieldAddr T x f)
    (hl : lk tab T = some ti) (he : ti.field f = some k) (hx : s.ev x = some (.ptr id n)) (hb : s.h id = .box cs) : Runs P o s (.ptr id (n + k)) [] :=
  runs_pure fun B ι a w S => by
    obtain ⟨b, arr, ty, h1, _⟩ := blk_box S hb
    have h2 := (S.ev hx).ptr_inv
    refine ⟨_, run_fieldAddr hT ho hl he (h2.2 b h1), .ptr id _ _ h2.1 fun b' hb' => ?_⟩
    rw [h1] at hb'; cases hb'; rfl

theorem runs_fa_ref (hT : tabOk P tab = true) {T f k : Nat} {ti : TI} {x : Operand} {cs : List V} (ho : o.op = .fieldAddr T x f)
    (hl : lk tab T = some ti) (he : ti.field f = some k) (hx : s.ev x = some (.v (.ref cs))) : Runs P o s (.v (.ref (cs.drop k))) [] :=
  runs_pure fun B ι a w S => by
    have h1 := repD_v_inv (S.ev hx)
    generalize hu : a.eval x = u at h1
    cases h1 with
    | ref _ b n hb hlt hc hv =>
      refine ⟨_, run_fieldAddr hT ho hl he hu, .v (.ref _ b (n + k) hb hlt ?_ ?_)⟩
      · intro j hj
        have := hc (k + j) (by simp at hj; omega)
        rwa [← Nat.add_assoc] at this
      · intro j v u' hj hu'
        refine hv (k + j) v u' (by simpa using hj) ?_
        rwa [← Nat.add_assoc]

theorem agg_isAgg (hT : tabOk P tab = true) {T : Nat} {ti : TI} (hl : lk tab T = some ti) (w : World) : (isAgg T).run P w = .ok ti.isAgg w := by
  have h := ti_kind (tab_get hT hl)
  unfold TI.isAgg
  cases hk : ti.kind <;> rw [hk] at h
  case struct fos => obtain ⟨fs, h1, _⟩ := h; simp [isAgg, run_underlying h1]
  case other => obtain ⟨_, _, _, h1⟩ := h; simp [isAgg, run_underlying h1]
  all_goals simp [isAgg, run_underlying h]

theorem run_loadVar_sc (hT : tabOk P tab = true) {T : Nat} {ti : TI} (hl : lk tab T = some ti) (ha : ti.isAgg = false) {w : World} {b n : Nat} {u : Value} (hc : w.cell? ⟨b, n, none⟩ = some u) :
    (loadVar T ⟨b, n, none⟩).run P w = .ok u w := by
  simp [loadVar, agg_isAgg hT hl, ha, hc]

theorem run_loadVar_agg (hT : tabOk P tab = true) {T : Nat} {ti : TI} (hl : lk tab T = some ti) (ha : ti.isAgg = true) {w : World} {b n : Nat} (f : Nat → Value)
    (hc : ∀ j, j < ti.size → w.cell? ⟨b, n + j, none⟩ = some (f j)) : (loadVar T ⟨b, n, none⟩).run P w = .ok (.agg ((List.range ti.size).map f).toArray) w := by
  obtain ⟨i, z, h1, h2, _⟩ := ti_info (tab_get hT hl)
  have := run_loadCells (P := P) w ⟨b, n, none⟩ ti.size f (fun j hj => by rw [Addr.add_lit]; exact hc j hj)
  simp [loadVar, agg_isAgg hT hl, ha, sizeOf, typeInfo, h1, h2, this]

theorem run_load_op {T : Nat} {x : Operand} {a : Act} {w : World} {b n : Nat} {u : Value} (ho : o.op = .load T x) (hx : a.eval x = .pointer (some ⟨b, n, none⟩))
    (h : (loadVar T ⟨b, n, none⟩).run P w = .ok u w) : (execOp a.eval o).run P w = .ok (.value u) w := by
  simp [execOp, ho, Instr.loadAt, Instr.sureAddr, hx, h]

theorem runs_ld_ptr (hT : tabOk P tab = true) {T : Nat} {ti : TI} {x : Operand} {id n : Nat} {cs : List D} {d : D} (ho : o.op = .load T x) (hl : lk tab T = some ti) (ha : ti.isAgg = false)
    (hx : s.ev x = some (.ptr id n)) (hb : s.h id = .box cs) (hd : cs[n]? = some d) : Runs P o s d [] :=
  runs_pure fun B ι a w S => by
    obtain ⟨b, arr, ty, h1, h2, h3, h4⟩ := blk_box S hb
    have h5 := (S.ev hx).ptr_inv.2 b h1
    have hlt : n < arr.size := by rw [h3]; exact (List.getElem?_eq_some_iff.1 hd).1
    have hc : w.cell? ⟨b, n, none⟩ = some arr[n] := by rw [cell_of_row w b n arr ty (0, 0) h2]; simp [hlt]
    exact ⟨arr[n], run_load_op ho h5 (run_loadVar_sc hT hl ha hc), h4 n d _ hd (by simp [hlt])⟩

theorem runs_ld_ptra (hT : tabOk P tab = true) {T : Nat} {ti : TI} {x : Operand} {id n : Nat} {cs : List D} (ho : o.op = .load T x) (hl : lk tab T = some ti) (ha : ti.isAgg = true)
    (hx : s.ev x = some (.ptr id n)) (hb : s.h id = .box cs) (hs : n + ti.size ≤ cs.length) : Runs P o s (mkAgg ((cs.drop n).take ti.size)) [] :=
  runs_pure fun B ι a w S => by
    obtain ⟨b, arr, ty, h1, h2, h3, h4⟩ := blk_box S hb
    have h5 := (S.ev hx).ptr_inv.2 b h1
    have hc : ∀ j, j < ti.size → w.cell? ⟨b, n + j, none⟩ = some (arr.getD (n + j) undef) := fun j hj => by
      rw [cell_of_row w b (n + j) arr ty (0, 0) h2]
      have : n + j < arr.size := by omega
      simp [this, Array.getD]
    refine ⟨_, run_load_op ho h5 (run_loadVar_agg hT hl ha _ hc), RepD.mkAgg (.agg _ _ ?_ ?_)⟩
    · simp; omega
    · intro i v u hv hu
      rw [List.getElem?_take] at hv
      split at hv
      · rename_i hi
        have hlt : n + i < arr.size := by omega
        simp only [List.getElem?_drop] at hv
        have : arr[n + i]? = some u := by
          simp [hi, Array.getD, hlt] at hu
          simp [hlt, hu]
        exact h4 (n + i) v u hv this
      · cases hv

theorem repV_ref_inv {w : World} {im : Nat → Prop} {cs : List V} {u : Value} (h : RepV w im (.ref cs) u) : ∃ b n, u = .pointer (some ⟨b, n, none⟩) ∧ im b ∧ b < w.heap.size ∧
    (∀ j, j < cs.length → (w.cell? ⟨b, n + j, none⟩).isSome = true) ∧ ∀ (j : Nat) v u, cs[j]? = some v → w.cell? ⟨b, n + j, none⟩ = some u → RepV w im v u := by
  cases h with | ref _ b n hb hlt hc hv => exact ⟨b, n, rfl, hb, hlt, hc, hv⟩

theorem runs_ld_ref (hT : tabOk P tab = true) {T : Nat} {ti : TI} {x : Operand} {cs : List V} {y : V} (ho : o.op = .load T x) (hl : lk tab T = some ti) (ha : ti.isAgg = false)
    (hx : s.ev x = some (.v (.ref cs))) (hd : cs[0]? = some y) : Runs P o s (.v y) [] :=
  runs_pure fun B ι a w S => by
    obtain ⟨b, n, h1, _, _, hc, hv⟩ := repV_ref_inv (repD_v_inv (S.ev hx))
    have h2 := hc 0 (List.getElem?_eq_some_iff.1 hd).1
    obtain ⟨u, h3⟩ := Option.isSome_iff_exists.1 h2
    exact ⟨u, run_load_op ho h1 (run_loadVar_sc hT hl ha h3), .v (hv 0 y u hd h3)⟩

theorem runs_ld_refa (hT : tabOk P tab = true) {T : Nat} {ti : TI} {x : Operand} {cs : List V} (ho : o.op = .load T x) (hl : lk tab T = some ti) (ha : ti.isAgg = true)
    (hx : s.ev x = some (.v (.ref cs))) (hs : ti.size ≤ cs.length) : Runs P o s (.v (.agg (cs.take ti.size))) [] :=
  runs_pure fun B ι a w S => by
    obtain ⟨b, n, h1, _, _, hc, hv⟩ := repV_ref_inv (repD_v_inv (S.ev hx))
    have hc' : ∀ j, j < ti.size → w.cell? ⟨b, n + j, none⟩ = some ((w.cell? ⟨b, n + j, none⟩).getD undef) := fun j hj => by
      obtain ⟨u, h3⟩ := Option.isSome_iff_exists.1 (hc j (by omega))
      rw [h3]; rfl
    refine ⟨_, run_load_op ho h1 (run_loadVar_agg hT hl ha _ hc'), .v (.agg _ _ (by simp; omega) ?_)⟩
    intro i v u hv' hu
    rw [List.getElem?_take] at hv'
    split at hv'
    · rename_i hi
      refine hv i v u hv' ?_
      simp [hi] at hu
      rw [← hu]; exact hc' i hi
    · cases hv'

theorem row_some {w : World} {im : Nat → Prop} {ι : Nat → Con} {e sz : Nat} {es : List (List V)} {c : Con} (h : BlkRel w im ι (.row e sz es) c) (hne : es ≠ []) :
    ∃ g cap arr, c = .row (some g) es.length cap ∧ w.heap[g]? = some (.cells arr e (0, 0)) ∧ es.length ≤ cap ∧ cap ≤ maxLen ∧ arr.size = cap * sz ∧
        ∀ (i j : Nat) el v u, es[i]? = some el → el[j]? = some v → arr[i * sz + j]? = some u → RepV w im v u := by
  obtain ⟨_, _, h | h⟩ := h
  · exact absurd h.2 hne
  · exact h

theorem runs_ld_eptr (hT : tabOk P tab = true) {T : Nat} {ti : TI} {x : Operand} {id n e : Nat} {es : List (List V)} {y : V} (ho : o.op = .load T x) (hl : lk tab T = some ti) (ha : ti.isAgg = false)
    (hx : s.ev x = some (.eptr id n)) (hb : s.h id = .row e 1 es) (hd : es[n]? = some [y]) : Runs P o s (.v y) [] :=
  runs_pure fun B ι a w S => by
    have h0 := S.blks id
    rw [hb] at h0
    obtain ⟨g, cap, arr, h1, h2, h3, h4, h5, h6⟩ := row_some h0 (by intro h; rw [h] at hd; cases hd)
    have h7 := (S.ev hx).eptr_inv.2 g _ cap h1
    have hn : n < es.length := (List.getElem?_eq_some_iff.1 hd).1
    have hlt : n < arr.size := by omega
    have hc : w.cell? ⟨g, n, none⟩ = some arr[n] := by rw [cell_of_row w g n arr e (0, 0) h2]; simp [hlt]
    exact ⟨arr[n], run_load_op ho h7 (run_loadVar_sc hT hl ha hc), .v (h6 n 0 [y] y _ hd rfl (by simp [hlt]))⟩

/-! ### Elements -/

theorem run_indexAddr_slice {T e : Nat} {x i : Operand} {a : Act} {w : World} {b q len c : Nat} {k : IntKind} {n : Int} {j : TypeInfo} (ho : o.op = .indexAddr T x i)
    (ht : P.underlying T = some (.slice e)) (hj : P.info? e = some j) (hx : a.eval x = .slice (some ⟨b, q, none⟩) len c) (hi : a.eval i = .int k n) (h0 : 0 ≤ n) (h1 : n < len) :
    (execOp a.eval o).run P w = .ok (.value (.pointer (some ⟨b, q + n.toNat * j.size, none⟩))) w := by
  simp [execOp, ho, Instr.indexAt, run_underlying ht, hx, hi, asIntOf, h0, h1, sizeOf, typeInfo, hj, Addr.add_lit]

theorem runs_ia_sl (hT : tabOk P tab = true) {T e : Nat} {ti te : TI} {x i : Operand} {es : List (List V)} {el : List V} {k : IntKind} {n : Int} (ho : o.op = .indexAddr T x i)
    (hl : lk tab T = some ti) (he : ti.sliceElem = some e) (hle : lk tab e = some te) (hx : s.ev x = some (.v (.sl es))) (hi : s.ev i = some (.v (.int k n)))
    (h0 : 0 ≤ n) (hel : es[n.toNat]? = some el) (hsz : te.size = el.length) : Runs P o s (.v (.ref el)) [] :=
  runs_pure fun B ι a w S => by
    have hi' : a.eval i = .int k n := (repD_v_inv (S.ev hi)).int_inv
    have h1 := repD_v_inv (S.ev hx)
    obtain ⟨hn, hel'⟩ := List.getElem?_eq_some_iff.1 hel
    obtain ⟨j, z, hj, hjs, _⟩ := ti_info (tab_get hT hle)
    generalize hu : a.eval x = u at h1
    cases h1 with
    | sl0 => simp at hn
    | sl _ b q sz c hb hlt hcap hs hc hv =>
      have hsz' : sz = el.length := (hs el (List.mem_of_getElem? hel)).symm
      refine ⟨_, run_indexAddr_slice ho (slice_kind hT hl he) hj hu hi' h0 (by omega), .v (.ref _ b _ hb hlt ?_ ?_)⟩
      · intro m hm
        have := hc n.toNat m hn (by omega)
        rw [hjs, hsz, ← hsz']; exact this
      · intro m v u' hm hu'
        refine hv n.toNat m el v u' hel hm ?_
        rw [hjs, hsz, ← hsz'] at hu'; exact hu'

theorem runs_ia_own (hT : tabOk P tab = true) {T e : Nat} {ti te : TI} {x i : Operand} {id e' : Nat} {es : List (List V)} {k : IntKind} {n : Int} (ho : o.op = .indexAddr T x i)
    (hl : lk tab T = some ti) (he : ti.sliceElem = some e) (hle : lk tab e = some te) (hsz : te.size = 1) (hx : s.ev x = some (.own id)) (hi : s.ev i = some (.v (.int k n)))
    (hb : s.h id = .row e' 1 es) (h0 : 0 ≤ n) (h1 : n < es.length) : Runs P o s (.eptr id n.toNat) [] :=
  runs_pure fun B ι a w S => by
    have hi' : a.eval i = .int k n := (repD_v_inv (S.ev hi)).int_inv
    obtain ⟨j, z, hj, hjs, _⟩ := ti_info (tab_get hT hle)
    have hb0 := S.blks id
    rw [hb] at hb0
    obtain ⟨g, cap, arr, h2, _⟩ := row_some hb0 (by intro h; rw [h] at h1; simp at h1; omega)
    have hx' := (S.ev hx).own_inv
    refine ⟨_, run_indexAddr_slice ho (slice_kind hT hl he) hj (hx'.2 _ _ _ h2) hi' h0 h1, .eptr id _ _ hx'.1 fun g' m' c' h => ?_⟩
    rw [h2] at h; cases h
    rw [hjs, hsz]; simp

theorem arr_kind (hT : tabOk P tab = true) {t l e : Nat} {ti : TI} (hl : lk tab t = some ti) (he : ti.arr = some (l, e)) : P.underlying t = some (.array l e) := by
  have h := ti_kind (tab_get hT hl)
  unfold TI.arr at he
  cases hk : ti.kind <;> rw [hk] at he h <;> simp at he
  obtain ⟨rfl, rfl⟩ := he; exact h

theorem run_indexAddr_arr {T l e : Nat} {x i : Operand} {a : Act} {w : World} {b q : Nat} {k : IntKind} {n : Int} {j : TypeInfo} (ho : o.op = .indexAddr T x i)
    (ht : P.underlying T = some (.array l e)) (hj : P.info? e = some j) (hx : a.eval x = .pointer (some ⟨b, q, none⟩)) (hi : a.eval i = .int k n) (h0 : 0 ≤ n) (h1 : n < l) :
    (execOp a.eval o).run P w = .ok (.value (.pointer (some ⟨b, q + n.toNat * j.size, none⟩))) w := by
  simp [execOp, ho, Instr.indexAt, run_underlying ht, hx, hi, asIntOf, h0, h1, sizeOf, typeInfo, hj, Addr.add_lit, Instr.sureAddr]

theorem runs_ia_arr (hT : tabOk P tab = true) {T l e : Nat} {ti te : TI} {x i : Operand} {id q : Nat} {cs : List D} {k : IntKind} {n : Int} (ho : o.op = .indexAddr T x i)
    (hl : lk tab T = some ti) (he : ti.arr = some (l, e)) (hle : lk tab e = some te) (hx : s.ev x = some (.ptr id q)) (hi : s.ev i = some (.v (.int k n)))
    (hb : s.h id = .box cs) (h0 : 0 ≤ n) (h1 : n < l) : Runs P o s (.ptr id (q + n.toNat * te.size)) [] :=
  runs_pure fun B ι a w S => by
    have hi' : a.eval i = .int k n := (repD_v_inv (S.ev hi)).int_inv
    obtain ⟨j, z, hj, hjs, _⟩ := ti_info (tab_get hT hle)
    obtain ⟨b, arr, ty, h2, _⟩ := blk_box S hb
    have hx' := (S.ev hx).ptr_inv
    refine ⟨_, run_indexAddr_arr ho (arr_kind hT hl he) hj (hx'.2 b h2) hi' h0 h1, .ptr id _ _ hx'.1 fun b' hb' => ?_⟩
    rw [h2] at hb'; cases hb'; rw [hjs]

theorem runs_ia_arrR (hT : tabOk P tab = true) {T l e : Nat} {ti te : TI} {x i : Operand} {cs : List V} {k : IntKind} {n : Int} (ho : o.op = .indexAddr T x i)
    (hl : lk tab T = some ti) (he : ti.arr = some (l, e)) (hle : lk tab e = some te) (hx : s.ev x = some (.v (.ref cs))) (hi : s.ev i = some (.v (.int k n)))
    (h0 : 0 ≤ n) (h1 : n < l) : Runs P o s (.v (.ref (cs.drop (n.toNat * te.size)))) [] :=
  runs_pure fun B ι a w S => by
    have hi' : a.eval i = .int k n := (repD_v_inv (S.ev hi)).int_inv
    obtain ⟨j, z, hj, hjs, _⟩ := ti_info (tab_get hT hle)
    obtain ⟨b, q, hx', hb, hlt, hc, hv⟩ := repV_ref_inv (repD_v_inv (S.ev hx))
    refine ⟨_, run_indexAddr_arr ho (arr_kind hT hl he) hj hx' hi' h0 h1, .v (.ref _ b _ hb hlt ?_ ?_)⟩
    · intro m hm
      have := hc (n.toNat * te.size + m) (by simp at hm; omega)
      rw [hjs]; rwa [← Nat.add_assoc] at this
    · intro m v u' hm hu'
      refine hv (n.toNat * te.size + m) v u' (by simpa using hm) ?_
      rw [hjs] at hu'; rwa [← Nat.add_assoc]

theorem runs_ix_arr (hT : tabOk P tab = true) {T l e : Nat} {ti te : TI} {x i : Operand} {cs : List V} {y : V} {k : IntKind} {n : Int} (ho : o.op = .index T x i)
    (hl : lk tab T = some ti) (he : ti.arr = some (l, e)) (hle : lk tab e = some te) (ha : te.isAgg = false) (hsz : te.size = 1) (hx : s.ev x = some (.v (.agg cs))) (hi : s.ev i = some (.v (.int k n)))
    (h0 : 0 ≤ n) (h1 : n < l) (hy : cs[n.toNat]? = some y) : Runs P o s (.v y) [] :=
  runs_pure fun B ι a w S => by
    have hi' : a.eval i = .int k n := (repD_v_inv (S.ev hi)).int_inv
    obtain ⟨j, z, hj, hjs, _⟩ := ti_info (tab_get hT hle)
    have hx' := repD_v_inv (S.ev hx)
    generalize hu : a.eval x = u at hx'
    cases hx' with
    | agg _ us hs hv =>
      have hlt : n.toNat < us.size := by rw [hs]; exact (List.getElem?_eq_some_iff.1 hy).1
      refine ⟨us[n.toNat], ?_, .v (hv n.toNat y _ hy (by simp [hlt]))⟩
      simp [execOp, ho, Instr.index, run_underlying (arr_kind hT hl he), hu, hi', asIntOf, h0, h1, part, agg_isAgg hT hle, ha, sizeOf, typeInfo, hj, hjs, hsz, hlt]

theorem runs_ix_str (hT : tabOk P tab = true) {T : Nat} {ti : TI} {x i : Operand} {b : ByteArray} {k : IntKind} {n : Int} {c : UInt8} (ho : o.op = .index T x i)
    (hl : lk tab T = some ti) (he : ti.kind = .string) (hx : s.ev x = some (.v (.str b))) (hi : s.ev i = some (.v (.int k n)))
    (h0 : 0 ≤ n) (hc : b[n.toNat]? = some c) : Runs P o s (.v (.int .u8 c.toNat)) [] :=
  runs_pure fun B ι a w S => by
    have hi' : a.eval i = .int k n := (repD_v_inv (S.ev hi)).int_inv
    have hx' : a.eval x = .string b := (repD_v_inv (S.ev hx)).str_inv
    have h3 := ti_kind (tab_get hT hl)
    rw [he] at h3
    exact ⟨_, by simp [execOp, ho, Instr.index, run_underlying h3, hx', hi', asIntOf, h0, hc], .v (.int _ _)⟩

end
end Go.Vd
