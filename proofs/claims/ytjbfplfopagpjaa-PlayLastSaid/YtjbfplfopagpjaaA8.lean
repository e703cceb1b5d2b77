/- The steps of operations on data, fifth part: make, literals of structs, arrays and slices. -/
import Derived.Test.YtjbfplfopagpjaaA7
namespace Go.Vd
open Go.RowKit

section
variable {P : Program} {tab : Tab} {o : Oper} {s : St}

theorem runs_make (hT : tabOk P tab = true) {t e nid : Nat} {ti te : TI} {x y : Operand} {kl kc : IntKind} {l c : Int} {el0 : List V} (ho : o.op = .makeSlice t x y)
    (hl : lk tab t = some ti) (he : ti.sliceElem = some e) (hle : lk tab e = some te) (hx : s.ev x = some (.v (.int kl l))) (hy : s.ev y = some (.v (.int kc c)))
    (h0 : 0 ≤ l) (hlc : l ≤ c) (hc : c.toNat ≤ maxLen) (hb : (te.bytes : Int) * c ≤ 281474976710656) (hz : te.zero.map Z.toD = el0.map .v) (hsz : 0 < te.size) (hr : s.h nid = .res) :
    Runs P o s (.own nid) [(nid, .row e te.size (List.replicate l.toNat el0))] := by
  intro B ι a w S
  obtain ⟨i, z, hi, his, hib, hz0, hz1, hz2⟩ := ti_info (tab_get hT hle)
  have hc' : c ≤ 9223372036854775807 := by simp only [maxLen] at hc; omega
  have hx' := (repD_v_inv (S.ev hx)).int_inv
  have hy' := (repD_v_inv (S.ev hy)).int_inv
  have hrun : (execOp a.eval o).run P w = .ok (.value (.slice (some ⟨w.heap.size, 0, none⟩) l.toNat c.toNat)) (w.alloc (.cells (madeCells z.cells (c.toNat * i.size)) e)) := by
    simp [execOp, ho, hx', hy', run_make w t e i z (slice_kind hT hl he) hi hz0 kl kc l c h0 hlc (by rw [hib]; exact hb) hc']
  rw [his] at hrun
  have hlen : el0.length = te.size := by
    have := congrArg List.length hz
    simp only [List.length_map] at this
    rw [← this, ← hz1]; simpa using hz2
  have S' := S.fresh (w' := w.alloc (.cells (madeCells z.cells (c.toNat * te.size)) e)) hr (.row (some w.heap.size) l.toNat c.toNat) (.row e te.size (List.replicate l.toNat el0)) (fun b hb => by cases hb; simp) rfl rfl rfl (by simp)
    (fun b hb => Below.heap_alloc w _ b hb) (fun hk => ⟨hsz, fun el hel => by rw [List.eq_of_mem_replicate hel, hlen], .inr ⟨w.heap.size, c.toNat, _, by simp, heap_alloc_new w _, by simp; omega, hc, size_madeCells _ _, fun i' j el v u he' hv hu => ?_⟩⟩)
  · refine ⟨_, _, _, .inl hrun, S'.1, .own nid _ (by rw [upd_same]; simp) fun g m' c' h => ?_⟩
    rw [upd_same] at h; cases h; rfl
  · have hel : el = el0 := List.eq_of_mem_replicate (List.mem_of_getElem? he')
    subst hel
    have hj : j < te.size := by rw [← hlen]; exact (List.getElem?_eq_some_iff.1 hv).1
    have hlt : i' * te.size + j < c.toNat * te.size := by
      have h3 := Array.getElem?_eq_some_iff.1 hu
      obtain ⟨h4, _⟩ := h3
      rw [size_madeCells] at h4; exact h4
    have hmod : (i' * te.size + j) % z.cells.size = j := by
      rw [hz2, Nat.add_comm, Nat.add_mul_mod_self_right]; exact Nat.mod_eq_of_lt hj
    have hzj : z.cells[j]? = some u := by
      simp only [madeCells, Array.getElem?_map] at hu
      rw [Array.getElem?_range] at hu
      simp only [hlt, if_true, Option.map_some, hmod, Option.some.injEq] at hu
      have hj' : j < z.cells.size := by omega
      rw [getElem!_pos z.cells j hj'] at hu
      simp [hj', hu]
    have : (te.zero.map Z.toD)[j]? = some (.v v) := by rw [hz, List.getElem?_map, hv]; rfl
    rw [← hz1, List.map_map, List.getElem?_map] at this
    rw [← Array.getElem?_toList] at hzj
    rw [hzj] at this
    simp only [Option.map_some, Option.some.injEq, Function.comp] at this
    have hr' : RepD (w.alloc (.cells (madeCells z.cells (c.toNat * te.size)) e)) (imS B (upd ι nid (.row (some w.heap.size) l.toNat c.toNat))) (upd ι nid (.row (some w.heap.size) l.toNat c.toNat)) (constZ u).toD u := constZ_rep u
    rw [this] at hr'
    exact repD_v_inv hr'

/-! ### Literals -/

def fillD (place : Nat → Option (Nat × Nat)) : List D → List (Nat × List D) → Option (List D)
  | ds, [] => some ds
  | ds, (i, pc) :: rest => match place i with
    | none => none
    | some (off, size) => if pc.length = size ∧ off + pc.length ≤ ds.length then fillD place (ds.take off ++ pc ++ ds.drop (off + pc.length)) rest else none

theorem foldl_set (off : Nat) : ∀ (vs : List Value) (k : Nat) (cs : Array Value), off + k + vs.length ≤ cs.size →
    ((vs.zipIdx k).foldl (fun cs (c, j) => cs.setIfInBounds (off + j) c) cs).toList = cs.toList.take (off + k) ++ vs ++ cs.toList.drop (off + k + vs.length)
  | [], k, cs, _ => by simp
  | v :: vs, k, cs, h => by
    rw [List.zipIdx_cons, List.foldl_cons, foldl_set off vs (k + 1) _ (by simp at h ⊢; omega)]
    simp only [Array.toList_setIfInBounds, List.length_cons]
    have e := list_seg_step cs.toList (off + k) v vs (by simp at h ⊢; omega)
    simpa [Nat.add_assoc, Nat.add_comm 1] using e

theorem fill_rel {R : D → Value → Prop} {place : Nat → Option (Nat × Nat)} : ∀ {pd : List (Nat × List D)} {pv : List (Nat × Value)} {ds res : List D} {cells : Array Value},
    PW R ds cells.toList → pd.length = pv.length → (∀ (k : Nat) x y, pd[k]? = some x → pv[k]? = some y → x.1 = y.1 ∧ PW R x.2 y.2.cells.toList) → fillD place ds pd = some res →
    ∃ cells', Instr.fill place cells pv = some cells' ∧ PW R res cells'.toList
  | [], [], ds, res, cells, h, _, _, hf => by
    simp [fillD] at hf; subst hf
    exact ⟨cells, rfl, h⟩
  | [], _ :: _, _, _, _, _, hl, _, _ => by simp at hl
  | _ :: _, [], _, _, _, _, hl, _, _ => by simp at hl
  | (i, pc) :: pd, (i', v) :: pv, ds, res, cells, h, hl, hp, hf => by
    obtain ⟨h1, h2⟩ := hp 0 (i, pc) (i', v) rfl rfl
    simp only at h1 h2
    subst h1
    have hlen : v.cells.size = pc.length := by simpa using h2.1
    have hcl : cells.size = ds.length := by simpa using h.1
    simp only [fillD] at hf
    simp only [Instr.fill]
    cases hpl : place i with
    | none => rw [hpl] at hf; cases hf
    | some p =>
      obtain ⟨off, size⟩ := p
      rw [hpl] at hf
      simp only at hf ⊢
      split at hf
      · rename_i hc
        rw [if_neg (show ¬ ((decide (v.cells.size ≠ size) || decide (off + v.cells.size > cells.size)) = true) by simp; omega)]
        have hfold : (v.cells.zipIdx.foldl (fun cs (c, j) => cs.setIfInBounds (off + j) c) cells).toList = cells.toList.take off ++ v.cells.toList ++ cells.toList.drop (off + v.cells.toList.length) := by
          rw [← Array.foldl_toList, Array.toList_zipIdx]
          have := foldl_set off v.cells.toList 0 cells (by simp; omega)
          simpa using this
        refine fill_rel (cells := v.cells.zipIdx.foldl (fun cs (c, j) => cs.setIfInBounds (off + j) c) cells) ?_ (by simpa using hl) (fun k x y hx hy => hp (k + 1) x y (by simpa using hx) (by simpa using hy)) hf
        rw [hfold]
        exact h.splice h2 off
      · cases hf

/-- A literal's parts, as data. -/
def St.parts (s : St) : List (Nat × Operand) → Option (List (Nat × List D))
  | [] => some []
  | (i, x) :: r => match s.ev x, s.parts r with
    | some d, some ps => (d.flat s.h).map fun ds => (i, ds) :: ps
    | _, _ => none

theorem Sim.parts {B : Base} {ι : Nat → Con} {a : Act} {w : World} (S : Sim B s ι a w) : ∀ {ps : List (Nat × Operand)} {pd : List (Nat × List D)}, s.parts ps = some pd →
    pd.length = (ps.map fun (i, x) => (i, a.eval x)).length ∧ ∀ (k : Nat) x y, pd[k]? = some x → (ps.map fun (i, x) => (i, a.eval x))[k]? = some y → x.1 = y.1 ∧ PW (RepD w (imS B ι) ι) x.2 y.2.cells.toList
  | [], pd, h => by simp [St.parts] at h; subst h; simp
  | (i, x) :: r, pd, h => by
    simp only [St.parts] at h
    split at h
    · rename_i d ps' h1 h2
      obtain ⟨ds, h3, h4⟩ := Option.map_eq_some_iff.1 h
      subst h4
      obtain ⟨h5, h6⟩ := S.parts h2
      refine ⟨by simp only [List.map_cons, List.length_cons, h5], fun k u v hu hv => ?_⟩
      cases k with
      | zero =>
        simp at hu hv; subst hu; subst hv
        obtain ⟨h7, h8⟩ := flat_cells S h3 (S.ev h1)
        exact ⟨rfl, pw_toList h7 h8⟩
      | succ k => exact h6 k u v (by simpa using hu) (by simpa using hv)
    · cases h

theorem struct_kind (hT : tabOk P tab = true) {t : Nat} {ti : TI} {fos : List (Nat × Nat)} (hl : lk tab t = some ti) (he : ti.kind = .struct fos) :
    ∃ fs, P.underlying t = some (.struct fs) ∧ fs.toList.map (fun f => (f.offset, P.cellsOf f.type)) = fos ∧ ∀ f ∈ fs.toList, ∃ j, P.info? f.type = some j ∧ j.size ≠ 0 := by
  have h := ti_kind (tab_get hT hl)
  rw [he] at h; exact h

theorem zero_pw {w : World} {im : Nat → Prop} {ι : Nat → Con} {z : Value} {zs : List Z} (h : z.cells.toList.map constZ = zs) : PW (RepD w im ι) (zs.map Z.toD) z.cells.toList := by
  subst h
  refine ⟨by simp, fun i d u hd hu => ?_⟩
  rw [List.map_map, List.getElem?_map, hu] at hd
  simp only [Option.map_some, Option.some.injEq, Function.comp] at hd
  subst hd; exact constZ_rep u

theorem run_places {w : World} : ∀ (fs : List Field), (∀ f ∈ fs, ∃ j, P.info? f.type = some j ∧ j.size ≠ 0) →
    (fs.mapM (m := Sem) fun f => do pure (f.offset, ← sizeOf f.type)).run P w = .ok (fs.map fun f => (f.offset, P.cellsOf f.type)) w
  | [], _ => rfl
  | f :: r, h => by
    obtain ⟨j, hj, _⟩ := h f List.mem_cons_self
    have hf : (do pure (f.offset, ← sizeOf f.type) : Sem (Nat × Nat)).run P w = .ok (f.offset, P.cellsOf f.type) w := by simp [sizeOf, typeInfo, hj, Program.cellsOf]
    rw [List.mapM_cons]
    simp only [Sem.run_bind, hf, Result.andThen_ok, run_places r (fun g hg => h g (List.mem_cons_of_mem _ hg)), Sem.run_pure, List.map_cons]

theorem runs_build_struct (hT : tabOk P tab = true) {t : Nat} {ti : TI} {fos : List (Nat × Nat)} {parts : Array (Nat × Operand)} {pd : List (Nat × List D)} {res : List D} (ho : o.op = .build t parts)
    (hl : lk tab t = some ti) (hk : ti.kind = .struct fos) (hp : s.parts parts.toList = some pd) (hf : fillD (fos[·]?) (ti.zero.map Z.toD) pd = some res) : Runs P o s (mkAgg res) [] :=
  runs_pure fun B ι a w S => by
    obtain ⟨i, z, hi, his, hib, hz0, hz1, hz2⟩ := ti_info (tab_get hT hl)
    obtain ⟨fs, h1, h2, h3⟩ := struct_kind hT hl hk
    obtain ⟨h4, h5⟩ := S.parts hp
    obtain ⟨cells', h6, h7⟩ := fill_rel (zero_pw hz1) h4 h5 hf
    refine ⟨.agg cells', ?_, RepD.mkAgg (.agg _ _ (by simpa using h7.1) fun k d u hd hu => h7.2 k d u hd (by simpa using hu))⟩
    have hm : (fs.mapM (m := Sem) fun f => do pure (f.offset, ← sizeOf f.type)).run P w = .ok (fs.toList.map fun f => (f.offset, P.cellsOf f.type)).toArray w := by
      have hr := run_places (P := P) (w := w) fs.toList h3
      cases fs with | mk l =>
      rw [List.mapM_toArray]
      simp only [Sem.run_map] at hr ⊢
      rw [hr]; rfl
    have hparts : (parts.map fun (i, x) => (i, a.eval x)).toList = parts.toList.map fun (i, x) => (i, a.eval x) := by simp
    simp only [execOp, ho, Instr.build, zeroValue, typeInfo, Sem.run_bind, run_program, Result.andThen_ok, hi, hz0, Sem.run_pure, run_underlying h1, hm, h2, hparts]
    have hplace : (fun x : Nat => (fos.toArray)[x]?) = (fun x : Nat => fos[x]?) := by funext x; simp
    simp only [hplace, h6, Sem.run_pure, Result.andThen_ok]

theorem runs_build_array (hT : tabOk P tab = true) {t l e : Nat} {ti te : TI} {parts : Array (Nat × Operand)} {pd : List (Nat × List D)} {res : List D} (ho : o.op = .build t parts)
    (hl : lk tab t = some ti) (hk : ti.arr = some (l, e)) (hle : lk tab e = some te) (hp : s.parts parts.toList = some pd) (hf : fillD (fun i => some (i * te.size, te.size)) (ti.zero.map Z.toD) pd = some res) : Runs P o s (mkAgg res) [] :=
  runs_pure fun B ι a w S => by
    obtain ⟨i, z, hi, his, hib, hz0, hz1, hz2⟩ := ti_info (tab_get hT hl)
    obtain ⟨j, z', hj, hjs, _⟩ := ti_info (tab_get hT hle)
    have h1 := arr_kind hT hl hk
    obtain ⟨h4, h5⟩ := S.parts hp
    obtain ⟨cells', h6, h7⟩ := fill_rel (zero_pw hz1) h4 h5 hf
    refine ⟨.agg cells', ?_, RepD.mkAgg (.agg _ _ (by simpa using h7.1) fun k d u hd hu => h7.2 k d u hd (by simpa using hu))⟩
    have hparts : (parts.map fun (i, x) => (i, a.eval x)).toList = parts.toList.map fun (i, x) => (i, a.eval x) := by simp
    simp only [execOp, ho, Instr.build, zeroValue, typeInfo, Sem.run_bind, run_program, Result.andThen_ok, hi, hz0, Sem.run_pure, run_underlying h1, sizeOf, hj, hjs, hparts, h6]

/-- Cells, element by element. -/
def chop (sz : Nat) : Nat → List V → List (List V)
  | 0, _ => []
  | n + 1, vs => vs.take sz :: chop sz n (vs.drop sz)

theorem chop_len (sz : Nat) : ∀ (n : Nat) (vs : List V), (chop sz n vs).length = n
  | 0, _ => rfl
  | n + 1, vs => by simp [chop, chop_len sz n]

theorem chop_elen (sz : Nat) : ∀ (n : Nat) (vs : List V), vs.length = n * sz → ∀ el ∈ chop sz n vs, el.length = sz
  | 0, _, _, el, h => by simp [chop] at h
  | n + 1, vs, hl, el, h => by
    simp only [chop, List.mem_cons] at h
    rcases h with rfl | h
    · simp [hl, Nat.add_mul]
    · exact chop_elen sz n _ (by simp [hl, Nat.add_mul]) el h

theorem chop_flatten (sz : Nat) : ∀ (n : Nat) (vs : List V), vs.length = n * sz → (chop sz n vs).flatten = vs
  | 0, vs, hl => by simp [chop]; exact (List.eq_nil_of_length_eq_zero (by simpa using hl))
  | n + 1, vs, hl => by
    simp only [chop, List.flatten_cons]
    rw [chop_flatten sz n _ (by simp [hl, Nat.add_mul]), List.take_append_drop]

def repl (zd : List D) : Nat → List D
  | 0 => []
  | n + 1 => zd ++ repl zd n

theorem madeCells_pw {w : World} {im : Nat → Prop} {ι : Nat → Con} {z : Value} {zs : List Z} (h : z.cells.toList.map constZ = zs) (n : Nat) : PW (RepD w im ι) (repl (zs.map Z.toD) n) (madeCells z.cells (n * z.cells.size)).toList := by
  have hp := zero_pw (w := w) (im := im) (ι := ι) h
  have hzl : zs.length = z.cells.size := by rw [← h]; simp
  have hlen : ∀ n, (repl (zs.map Z.toD) n).length = n * z.cells.size := by
    intro n
    induction n with
    | zero => simp [repl]
    | succ n ih => simp only [repl, List.length_append, ih, List.length_map, hzl, Nat.add_mul]; omega
  have hget : ∀ n k d, (repl (zs.map Z.toD) n)[k]? = some d → (zs.map Z.toD)[k % z.cells.size]? = some d := by
    intro n
    induction n with
    | zero => intro k d h; simp [repl] at h
    | succ n ih =>
      intro k d hd
      simp only [repl] at hd
      by_cases hk : k < (zs.map Z.toD).length
      · rw [List.getElem?_append_left hk] at hd
        rw [Nat.mod_eq_of_lt (by simpa [hzl] using hk)]; exact hd
      · rw [List.getElem?_append_right (by omega)] at hd
        have := ih _ d hd
        simp only [List.length_map, hzl] at this hk
        rwa [← Nat.mod_eq_sub_mod (by omega)] at this
  refine ⟨by rw [hlen]; simp [madeCells], fun k d u hd hu => ?_⟩
  have hk : k < n * z.cells.size := by rw [← hlen]; exact (List.getElem?_eq_some_iff.1 hd).1
  have hpos : 0 < z.cells.size := by
    rcases Nat.eq_zero_or_pos z.cells.size with h0 | h0
    · rw [h0] at hk; simp at hk
    · exact h0
  refine hp.2 (k % z.cells.size) d u (hget n k d hd) ?_
  have hm := Nat.mod_lt k hpos
  simp only [madeCells, Array.toList_map, List.getElem?_map, Array.toList_range, List.getElem?_range hk, Option.map_some, Option.some.injEq] at hu
  rw [getElem!_pos z.cells _ hm] at hu
  simp [hm, hu]

theorem run_buildSlice {t e n : Nat} {parts : Array (Nat × Operand)} {a : Act} {w : World} {i : TypeInfo} {z : Value} {cells' : Array Value} (ho : o.op = .buildSlice t n parts)
    (ht : P.underlying t = some (.slice e)) (hi : P.info? e = some i) (hz : i.zero = some z) (hs : z.cells.size = i.size) (hlt : n * i.size ≤ 16777216)
    (hf : Instr.fill (fun k => some (k * i.size, i.size)) (madeCells z.cells (n * z.cells.size)) (parts.toList.map fun (k, x) => (k, a.eval x)) = some cells') :
    (execOp a.eval o).run P w = .ok (.value (.slice (some ⟨w.heap.size, 0, none⟩) n n)) (w.alloc (.cells cells' e)) := by
  have hparts : (parts.map fun (i, x) => (i, a.eval x)).toList = parts.toList.map fun (i, x) => (i, a.eval x) := by simp
  have hsz : ∀ w, (sizeOf e).run P w = .ok i.size w := fun w => by simp [sizeOf, typeInfo, hi]
  have hzv : ∀ w, (zeroValue e).run P w = .ok z w := fun w => by simp [zeroValue, typeInfo, hi, hz]
  have h1 : ¬ (n * i.size > 2 ^ 24) := by omega
  have key : ∀ zs : Array Value, (Array.range (n * i.size)).map (fun x => zs[x % zs.size]!) = madeCells z.cells (n * z.cells.size) →
      (match Instr.fill (fun k => some (k * i.size, i.size)) ((Array.range (n * i.size)).map (fun x => zs[x % zs.size]!)) (parts.map fun (p : Nat × Operand) => match p with | (i, x) => (i, a.eval x)).toList with
        | some cells => (do pure (Value.slice (some (← newRow e cells)) n n) : Sem Value)
        | _ => (stuck "buildSlice: a part of the wrong size" : Sem Value) : Sem Value).run P w = .ok (.slice (some ⟨w.heap.size, 0, none⟩) n n) (w.alloc (.cells cells' e)) := by
    intro zs hzs
    rw [hzs, hparts, hf]
    simp [newRow]
  have hrun : (Instr.buildSlice t n (parts.map fun (i, x) => (i, a.eval x))).run P w = .ok (.slice (some ⟨w.heap.size, 0, none⟩) n n) (w.alloc (.cells cells' e)) := by
    unfold Instr.buildSlice
    by_cases h0 : n * i.size = 0
    · simp only [Sem.run_bind, run_underlying ht, Result.andThen_ok, hsz, Sem.run_ite, if_neg h1, if_pos h0, Sem.run_pure]
      refine key #[] ?_
      rw [hs, h0]; simp [madeCells]
    · simp only [Sem.run_bind, run_underlying ht, Result.andThen_ok, hsz, Sem.run_ite, if_neg h1, if_neg h0, Sem.run_pure, hzv]
      refine key z.cells ?_
      rw [← hs]; rfl
  simp only [execOp, ho, Sem.run_bind, hrun, Result.andThen_ok, Sem.run_pure]

/-- A slice written out, as data. -/
theorem runs_bs_v (hT : tabOk P tab = true) {t e n : Nat} {ti te : TI} {parts : Array (Nat × Operand)} {pd : List (Nat × List D)} {res : List D} {vs : List V} (ho : o.op = .buildSlice t n parts)
    (hl : lk tab t = some ti) (he : ti.sliceElem = some e) (hle : lk tab e = some te) (hp : s.parts parts.toList = some pd) (hf : fillD (fun i => some (i * te.size, te.size)) (repl (te.zero.map Z.toD) n) pd = some res)
    (hv : allV res = some vs) (hlt : n * te.size ≤ 16777216) : Runs P o s (.v (.sl (chop te.size n vs))) [] := by
  intro B ι a w S
  obtain ⟨i, z, hi, his, hib, hz0, hz1, hz2⟩ := ti_info (tab_get hT hle)
  obtain ⟨h4, h5⟩ := S.parts hp
  obtain ⟨cells', h6, h7⟩ := fill_rel (madeCells_pw hz1 n) h4 h5 hf
  have hrun := run_buildSlice (P := P) (o := o) (a := a) (w := w) ho (slice_kind hT hl he) hi hz0 (by omega) (by rw [his]; exact hlt) (by rw [his]; exact h6)
  have hres := allV_some hv
  subst hres
  have hfl : ∀ (ds res : List D) (pd : List (Nat × List D)) (pl : Nat → Option (Nat × Nat)), fillD pl ds pd = some res → res.length = ds.length := by
    intro ds res pd pl
    induction pd generalizing ds with
    | nil => intro h; simp [fillD] at h; rw [h]
    | cons p r ih =>
      intro h
      simp only [fillD] at h
      split at h
      · cases h
      · split at h
        · rename_i hc; rw [ih _ h]; simp; omega
        · cases h
  have hvl : vs.length = n * te.size := by
    have h8 := hfl _ _ _ _ hf
    simp only [List.length_map] at h8
    rw [h8]
    have := (madeCells_pw (w := w) (im := imS B ι) (ι := ι) hz1 n).1
    rw [← this]; simp [madeCells, hz2]
  have hcs : cells'.size = n * te.size := by have := h7.1; simp at this; omega
  obtain ⟨S', hk⟩ := S.grow (w' := w.alloc (.cells cells' e)) rfl rfl rfl (by simp) (fun b hb => Below.heap_alloc w _ b hb)
  refine ⟨_, _, ι, .inl hrun, S', .v ?_⟩
  by_cases h0 : n = 0
  · subst h0; exact .sl0 _ _
  · have him : imS B ι w.heap.size := ⟨.inr (.inl S.size), fun id h => by have := (S.bnd id _ h).1; omega⟩
    have hcell : ∀ j, (w.alloc (.cells cells' e)).cell? ⟨w.heap.size, 0 + j, none⟩ = cells'[j]? := fun j => by rw [Nat.zero_add]; exact cell_of_row _ _ j cells' e (0, 0) (heap_alloc_new w _)
    have hcl := chop_len te.size n vs
    have hce := chop_elen te.size n vs hvl
    have := RepV.sl (w := w.alloc (.cells cells' e)) (im := imS B ι) (chop te.size n vs) w.heap.size 0 te.size n him (by simp) (by rw [hcl]; exact Nat.le_refl _) hce ?_ ?_
    · rw [hcl] at this; exact this
    · intro i' j hi' hj
      rw [hcl] at hi'
      rw [Nat.add_assoc, hcell]
      have : i' * te.size + j < cells'.size := by
        rw [hcs]
        calc i' * te.size + j < i' * te.size + te.size := by omega
          _ = (i' + 1) * te.size := by rw [Nat.add_mul, Nat.one_mul]
          _ ≤ n * te.size := Nat.mul_le_mul_right _ (by omega)
      simp [this]
    · intro i' j el v u he' hv' hu
      rw [Nat.add_assoc, hcell] at hu
      have p : PW (RepV w (imS B ι)) (chop te.size n vs).flatten cells'.toList := by
        rw [chop_flatten te.size n vs hvl]
        exact ⟨by simpa using h7.1, fun k x y hx hy => repD_v_inv (h7.2 k (.v x) y (by simp [hx]) hy)⟩
      exact ((pw_elems hce (by rw [hcl]; simpa using hcs)).1 p i' j el v u he' hv' (by simpa using hu)).mono hk

/-- A slice written out, that may be appended to or written. -/
theorem runs_bs_own (hT : tabOk P tab = true) {t e n nid : Nat} {ti te : TI} {parts : Array (Nat × Operand)} {pd : List (Nat × List D)} {res : List D} {vs : List V} (ho : o.op = .buildSlice t n parts)
    (hl : lk tab t = some ti) (he : ti.sliceElem = some e) (hle : lk tab e = some te) (hp : s.parts parts.toList = some pd) (hf : fillD (fun i => some (i * te.size, te.size)) (repl (te.zero.map Z.toD) n) pd = some res)
    (hv : allV res = some vs) (hlt : n * te.size ≤ 16777216) (hsz : 0 < te.size) (hr : s.h nid = .res) : Runs P o s (.own nid) [(nid, .row e te.size (chop te.size n vs))] := by
  intro B ι a w S
  obtain ⟨i, z, hi, his, hib, hz0, hz1, hz2⟩ := ti_info (tab_get hT hle)
  obtain ⟨h4, h5⟩ := S.parts hp
  obtain ⟨cells', h6, h7⟩ := fill_rel (madeCells_pw hz1 n) h4 h5 hf
  have hrun := run_buildSlice (P := P) (o := o) (a := a) (w := w) ho (slice_kind hT hl he) hi hz0 (by omega) (by rw [his]; exact hlt) (by rw [his]; exact h6)
  have hres := allV_some hv
  subst hres
  have hfl : ∀ (ds res : List D) (pd : List (Nat × List D)) (pl : Nat → Option (Nat × Nat)), fillD pl ds pd = some res → res.length = ds.length := by
    intro ds res pd pl
    induction pd generalizing ds with
    | nil => intro h; simp [fillD] at h; rw [h]
    | cons p r ih =>
      intro h
      simp only [fillD] at h
      split at h
      · cases h
      · split at h
        · rename_i hc; rw [ih _ h]; simp; omega
        · cases h
  have hvl : vs.length = n * te.size := by
    have h8 := hfl _ _ _ _ hf
    simp only [List.length_map] at h8
    rw [h8]
    have := (madeCells_pw (w := w) (im := imS B ι) (ι := ι) hz1 n).1
    rw [← this]; simp [madeCells, hz2]
  have hcs : cells'.size = n * te.size := by have := h7.1; simp at this; omega
  have hcl := chop_len te.size n vs
  have hce := chop_elen te.size n vs hvl
  have hn : n ≤ maxLen := by
    have : n ≤ n * te.size := Nat.le_mul_of_pos_right n hsz
    simp only [maxLen]; omega
  have S' := S.fresh (w' := w.alloc (.cells cells' e)) hr (.row (some w.heap.size) n n) (.row e te.size (chop te.size n vs)) (fun b hb => by cases hb; simp) rfl rfl rfl (by simp)
    (fun b hb => Below.heap_alloc w _ b hb) (fun hk => ⟨hsz, hce, .inr ⟨w.heap.size, n, cells', by rw [hcl], heap_alloc_new w _, by rw [hcl]; exact Nat.le_refl _, hn, hcs, fun i' j el v u he' hv' hu => ?_⟩⟩)
  · refine ⟨_, _, _, .inl hrun, S'.1, .own nid _ (by rw [upd_same]; simp) fun g m' c' h => ?_⟩
    rw [upd_same] at h; cases h; rfl
  · have p : PW (RepV w (imS B ι)) (chop te.size n vs).flatten cells'.toList := by
      rw [chop_flatten te.size n vs hvl]
      exact ⟨by simpa using h7.1, fun k x y hx hy => repD_v_inv (h7.2 k (.v x) y (by simp [hx]) hy)⟩
    exact ((pw_elems hce (by rw [hcl]; simpa using hcs)).1 p i' j el v u he' hv' (by simpa using hu)).mono hk

end
end Go.Vd
