/- The steps of operations on data, third part: those that lay or turn memory: stores, new variables, slices made, appended to, written out. -/
import Derived.Test.YtjbfplfopagpjaaA5
namespace Go.Vd
open Go.RowKit

/-- Two lists, place by place. -/
def PW {α β : Type} (R : α → β → Prop) (xs : List α) (ys : List β) : Prop := ys.length = xs.length ∧ ∀ (i : Nat) x y, xs[i]? = some x → ys[i]? = some y → R x y

section
variable {α β : Type} {R R' : α → β → Prop}

theorem PW.nil : PW R [] [] := ⟨rfl, by simp⟩
theorem PW.mono (h : ∀ x y, R x y → R' x y) {xs : List α} {ys : List β} (p : PW R xs ys) : PW R' xs ys := ⟨p.1, fun i x y a b => h _ _ (p.2 i x y a b)⟩
theorem PW.append {xs xs' : List α} {ys ys' : List β} (p : PW R xs ys) (q : PW R xs' ys') : PW R (xs ++ xs') (ys ++ ys') := by
  refine ⟨by simp [p.1, q.1], fun i x y a b => ?_⟩
  by_cases h : i < xs.length
  · rw [List.getElem?_append_left h] at a
    rw [List.getElem?_append_left (by rw [p.1]; exact h)] at b
    exact p.2 i x y a b
  · rw [List.getElem?_append_right (by omega)] at a
    rw [List.getElem?_append_right (by rw [p.1]; omega), p.1] at b
    exact q.2 _ x y a b
theorem PW.take {xs : List α} {ys : List β} (p : PW R xs ys) (n : Nat) : PW R (xs.take n) (ys.take n) := by
  refine ⟨by simp [p.1], fun i x y a b => ?_⟩
  rw [List.getElem?_take] at a b
  split at a
  · rename_i h; rw [if_pos h] at b; exact p.2 i x y a b
  · cases a
theorem PW.drop {xs : List α} {ys : List β} (p : PW R xs ys) (n : Nat) : PW R (xs.drop n) (ys.drop n) := by
  refine ⟨by simp [p.1], fun i x y a b => ?_⟩
  rw [List.getElem?_drop] at a b
  exact p.2 _ x y a b
theorem PW.splice {xs xs' : List α} {ys ys' : List β} (p : PW R xs ys) (q : PW R xs' ys') (n : Nat) : PW R (xs.take n ++ xs' ++ xs.drop (n + xs'.length)) (ys.take n ++ ys' ++ ys.drop (n + ys'.length)) := by
  rw [q.1]
  exact ((p.take n).append q).append (p.drop _)
end

theorem flatten_len {sz : Nat} : ∀ {es : List (List V)}, (∀ e ∈ es, e.length = sz) → es.flatten.length = es.length * sz
  | [], _ => by simp
  | e :: r, h => by
    rw [List.flatten_cons, List.length_append, flatten_len (fun x hx => h x (List.mem_cons_of_mem _ hx)), h e List.mem_cons_self, List.length_cons, Nat.add_mul]; omega

theorem flatten_get {sz : Nat} : ∀ {es : List (List V)} (_ : ∀ e ∈ es, e.length = sz) (i j : Nat), j < sz → es.flatten[i * sz + j]? = (es[i]?).bind (·[j]?)
  | [], _, i, j, _ => by simp
  | e :: r, h, 0, j, hj => by
    have he := h e List.mem_cons_self
    simp only [List.flatten_cons, Nat.zero_mul, Nat.zero_add, List.getElem?_cons_zero, Option.bind_some]
    rw [List.getElem?_append_left (by omega)]
  | e :: r, h, i + 1, j, hj => by
    have he := h e List.mem_cons_self
    simp only [List.flatten_cons, List.getElem?_cons_succ]
    rw [List.getElem?_append_right (by rw [Nat.add_mul]; omega), he, show (i + 1) * sz + j - sz = i * sz + j by rw [Nat.add_mul]; omega]
    exact flatten_get (fun x hx => h x (List.mem_cons_of_mem _ hx)) i j hj

/-- A slice's elements, cell by cell. -/
theorem pw_elems {R : V → Value → Prop} {sz : Nat} {es : List (List V)} (hs : ∀ e ∈ es, e.length = sz) {us : List Value} (hl : us.length = es.length * sz) :
    PW R es.flatten us ↔ ∀ (i j : Nat) el v u, es[i]? = some el → el[j]? = some v → us[i * sz + j]? = some u → R v u := by
  constructor
  · intro p i j el v u he hv hu
    have hj : j < sz := by rw [← hs el (List.mem_of_getElem? he)]; exact (List.getElem?_eq_some_iff.1 hv).1
    exact p.2 (i * sz + j) v u (by rw [flatten_get hs i j hj, he]; exact hv) hu
  · intro h
    refine ⟨by rw [hl, flatten_len hs], fun k v u hv hu => ?_⟩
    have hk : k < es.length * sz := by rw [← flatten_len hs]; exact (List.getElem?_eq_some_iff.1 hv).1
    have hsz : 0 < sz := by
      rcases Nat.eq_zero_or_pos sz with h0 | h0
      · subst h0; simp at hk
      · exact h0
    have hj : k % sz < sz := Nat.mod_lt _ hsz
    have hk' : k / sz * sz + k % sz = k := by rw [Nat.mul_comm]; exact Nat.div_add_mod k sz
    have h1 := flatten_get hs (k / sz) (k % sz) hj
    rw [hk', hv] at h1
    cases he : es[k / sz]? with
    | none => rw [he] at h1; cases h1
    | some el =>
      rw [he] at h1
      exact h (k / sz) (k % sz) el v u he h1.symm (by rw [hk']; exact hu)

theorem pw_toList {R : D → Value → Prop} {cs : List D} {arr : Array Value} (hs : arr.size = cs.length) (h : ∀ (i : Nat) d u, cs[i]? = some d → arr[i]? = some u → R d u) : PW R cs arr.toList :=
  ⟨by simpa using hs, fun i d u a b => h i d u a (by simpa using b)⟩

theorem hF_some {F : List (Nat × Blk)} {s : St} (hf : ∀ p ∈ F, s.h p.1 = p.2) (id : Nat) : hF F id = .dead ∨ hF F id = s.h id := by
  unfold hF
  cases h : lk F id with
  | none => exact .inl rfl
  | some b => exact .inr (hf (id, b) (lk_mem h)).symm

section
variable {P : Program} {tab : Tab} {o : Oper} {s : St}

/-! ### Stores -/

theorem run_store_op {T : Nat} {x y : Operand} {a : Act} {w : World} {b n : Nat} {arr : Array Value} {ty : TypeId} {i : TypeInfo} (ho : o.op = .store T x y) (hi : P.info? T = some i)
    (hx : a.eval x = .pointer (some ⟨b, n, none⟩)) (hg : w.heap[b]? = some (.cells arr ty (0, 0))) (hs : (a.eval y).cells.size = i.size) (hfit : n + i.size ≤ arr.size)
    (h1 : ∀ v ∈ (a.eval y).cells.toList, v.oneCell' = true) :
    (execOp a.eval o).run P w = .ok .skip (w.setRow b (arr.toList.take n ++ (a.eval y).cells.toList ++ arr.toList.drop (n + (a.eval y).cells.toList.length)).toArray) := by
  have h := run_storeCells_at P b n ty (a.eval y).cells.toList 0 arr w hg (by simp; omega) h1
  simp only [Nat.add_zero] at h
  simp only [execOp, ho, Instr.storeAt, Instr.sureAddr, hx, storeVar, sizeOf, typeInfo, Sem.run_bind, Sem.run_pure, Result.andThen_ok, run_program, hi, hs]
  simp [h]

theorem runs_st_ptr (hT : tabOk P tab = true) {T : Nat} {ti : TI} {x y : Operand} {id n : Nat} {cs ds : List D} {d : D} (ho : o.op = .store T x y) (hl : lk tab T = some ti)
    (hx : s.ev x = some (.ptr id n)) (hy : s.ev y = some d) (hb : s.h id = .box cs) (hd : d.flat s.h = some ds) (h1 : ds.all (·.one s.h) = true) (hs : ti.size = ds.length)
    (hfit : n + ds.length ≤ cs.length) : Runs P o s (.v (.tup [])) [(id, .box (cs.take n ++ ds ++ cs.drop (n + ds.length)))] := by
  intro B ι a w S
  obtain ⟨b, arr, ty, h2, h3, h4, h5⟩ := blk_box S hb
  obtain ⟨i, z, hi, his, _⟩ := ti_info (tab_get hT hl)
  obtain ⟨h6, h7⟩ := flat_cells S hd (S.ev hy)
  have h8 := (S.ev hx).ptr_inv.2 b h2
  have hone : ∀ v ∈ (a.eval y).cells.toList, v.oneCell' = true := by
    intro v hv
    obtain ⟨k, hk, hkv⟩ := List.mem_iff_getElem.1 hv
    have hk' : k < ds.length := by rw [← h6]; simpa using hk
    have hdk : ds[k]? = some ds[k] := List.getElem?_eq_getElem hk'
    refine one_oneCell S (List.all_eq_true.1 h1 _ (List.getElem_mem hk')) (h7 k ds[k] v hdk ?_)
    rw [← Array.getElem?_toList, List.getElem?_eq_getElem hk, hkv]
  refine ⟨undef, _, ι, .inr ⟨run_store_op ho hi h8 h3 (by omega) (by omega) hone, rfl⟩, ?_, .v (.tup [] #[] rfl (by simp))⟩
  refine S.turn _ (g := b) (by rw [h2]; rfl) rfl rfl rfl (by simp) (fun k _ hk => setRow_other w b k _ hk) fun hkr => ?_
  rw [h2]
  refine ⟨b, _, ty, rfl, setRow_heap w b arr _ ty _ h3, ?_, ?_⟩
  · simp only [List.size_toArray, List.length_append, List.length_take, List.length_drop, Array.length_toList]
    omega
  · have p := ((pw_toList h4 h5).splice (pw_toList h6 h7) n).mono (R' := RepD (w.setRow b (arr.toList.take n ++ (a.eval y).cells.toList ++ arr.toList.drop (n + (a.eval y).cells.toList.length)).toArray) (imS B ι) ι)
      (fun x y h => h.mono hkr (fun _ _ => .inl rfl))
    intro k d' u hd' hu
    exact p.2 k d' u hd' (by simpa using hu)

theorem runs_st_eptr (hT : tabOk P tab = true) {T : Nat} {ti : TI} {x y : Operand} {id n e : Nat} {es : List (List V)} {v : V} (ho : o.op = .store T x y) (hl : lk tab T = some ti)
    (hx : s.ev x = some (.eptr id n)) (hy : s.ev y = some (.v v)) (hb : s.h id = .row e 1 es) (h1 : v.one = true) (hs : ti.size = 1) (hn : n < es.length) :
    Runs P o s (.v (.tup [])) [(id, .row e 1 (es.set n [v]))] := by
  intro B ι a w S
  have h0 := S.blks id
  rw [hb] at h0
  have hall := h0.2.1
  obtain ⟨g, cap, arr, h2, h3, h4, h5, h6, h7⟩ := row_some h0 (List.length_pos_iff.1 (by omega))
  obtain ⟨i, z, hi, his, _⟩ := ti_info (tab_get hT hl)
  have hv := repD_v_inv (S.ev hy)
  have h8 := (S.ev hx).eptr_inv.2 g _ cap h2
  have hcells : (a.eval y).cells = #[a.eval y] := by
    have := hv.oneCell h1
    generalize a.eval y = u at *
    cases u <;> first | rfl | cases this
  have hst := run_store_op (P := P) (o := o) (w := w) ho hi h8 h3 (by rw [hcells, his, hs]; rfl) (by omega) (by rw [hcells]; intro u hu; simp at hu; subst hu; exact hv.oneCell h1)
  rw [hcells] at hst
  refine ⟨undef, _, ι, .inr ⟨hst, rfl⟩, ?_, .v (.tup [] #[] rfl (by simp))⟩
  refine S.turn _ (g := g) (by rw [h2]; rfl) rfl rfl rfl (by simp) (fun k _ hk => setRow_other w g k _ hk) fun hkr => ?_
  rw [h2]
  refine ⟨by omega, ?_, .inr ⟨g, cap, _, by simp, setRow_heap w g arr _ e _ h3, by simpa using h4, h5, ?_, ?_⟩⟩
  · intro el hel
    rcases List.mem_or_eq_of_mem_set hel with h | h
    · exact hall el h
    · rw [h]; rfl
  · simp; omega
  · intro k j el v' u he hv' hu
    have hj : j = 0 := by
      have h9 : el.length = 1 := by
        rcases List.mem_or_eq_of_mem_set (List.mem_of_getElem? he) with h | h
        · exact hall el h
        · rw [h]; rfl
      have := (List.getElem?_eq_some_iff.1 hv').1
      omega
    subst hj
    simp only [Nat.mul_one, Nat.add_zero] at hu
    have hk : k < es.length := by have := (List.getElem?_eq_some_iff.1 he).1; simpa using this
    by_cases hkn : k = n
    · subst hkn
      rw [List.getElem?_set_self hk] at he
      cases he
      simp at hv'
      subst hv'
      have : u = a.eval y := by
        rw [List.getElem?_toArray, List.append_assoc, List.getElem?_append_right (by simp; omega)] at hu
        have hmin : min k arr.size = k := by omega
        simp [hmin] at hu
        exact hu.symm
      subst this
      exact hv.mono hkr
    · rw [List.getElem?_set_ne (Ne.symm hkn)] at he
      have : arr[k]? = some u := by
        rw [List.getElem?_toArray] at hu
        have hsp : (arr.toList.take n ++ [a.eval y] ++ arr.toList.drop (n + 1)) = arr.toList.set n (a.eval y) := by
          rw [List.set_eq_take_append_cons_drop]
          simp; intro h; omega
        simp only [List.length_cons, List.length_nil, Nat.zero_add] at hu
        rw [hsp, List.getElem?_set_ne (Ne.symm hkn)] at hu
        simpa using hu
      exact (h7 k 0 el v' u he hv' (by simpa using this)).mono hkr

/-! ### New variables -/

theorem runs_alloc (hT : tabOk P tab = true) {T : Nat} {ti : TI} {id : Nat} (ho : o.op = .alloc T) (hl : lk tab T = some ti) (hr : s.h id = .res) :
    Runs P o s (.ptr id 0) [(id, .box (ti.zero.map Z.toD))] := by
  intro B ι a w S
  obtain ⟨i, z, hi, his, _, hz, hz1, hz2⟩ := ti_info (tab_get hT hl)
  have hrun : (execOp a.eval o).run P w = .ok (.value (.pointer (some ⟨w.heap.size, 0, none⟩))) (w.alloc (.cells z.cells T)) := by
    simp [execOp, ho, Instr.alloc, zeroValue, typeInfo, hi, hz, newVar, newRow]
  have S' := S.fresh (w' := w.alloc (.cells z.cells T)) hr (.box w.heap.size) (.box (ti.zero.map Z.toD)) (fun b hb => by cases hb; simp) rfl rfl rfl (by simp) (fun b hb => Below.heap_alloc w _ b hb)
    (fun hk => ⟨w.heap.size, z.cells, T, rfl, heap_alloc_new w _, by rw [← hz1]; simp, fun k d u hd hu => ?_⟩)
  · refine ⟨_, _, _, .inl hrun, S'.1, .ptr id 0 _ (by rw [upd_same]; simp) fun b hb => ?_⟩
    rw [upd_same] at hb; cases hb; rfl
  · rw [← hz1, List.map_map, List.getElem?_map] at hd
    rw [← Array.getElem?_toList] at hu
    rw [hu] at hd
    simp only [Option.map_some, Option.some.injEq, Function.comp] at hd
    subst hd
    exact constZ_rep u

theorem runs_box {T : Nat} {x : Operand} {id : Nat} {d : D} {ds : List D} (ho : o.op = .box T x) (hx : s.ev x = some d) (hd : d.flat s.h = some ds) (hr : s.h id = .res) :
    Runs P o s (.ptr id 0) [(id, .box ds)] := by
  intro B ι a w S
  obtain ⟨h6, h7⟩ := flat_cells S hd (S.ev hx)
  have hrun : (execOp a.eval o).run P w = .ok (.value (.pointer (some ⟨w.heap.size, 0, none⟩))) (w.alloc (.cells (a.eval x).cells T)) := by
    simp [execOp, ho, Instr.box, newVar, newRow]
  have hres : ι id = .res := by have := S.blks id; rw [hr] at this; exact this
  have S' := S.fresh (w' := w.alloc (.cells (a.eval x).cells T)) hr (.box w.heap.size) (.box ds) (fun b hb => by cases hb; simp) rfl rfl rfl (by simp) (fun b hb => Below.heap_alloc w _ b hb)
    (fun hk => ⟨w.heap.size, _, T, rfl, heap_alloc_new w _, h6, fun k d u hd hu => (h7 k d u hd hu).mono hk fun id' h' => ?_⟩)
  · refine ⟨_, _, _, .inl hrun, S'.1, .ptr id 0 _ (by rw [upd_same]; simp) fun b hb => ?_⟩
    rw [upd_same] at hb; cases hb; rfl
  · by_cases h : id' = id
    · subst h; exact absurd hres h'
    · exact .inl (upd_ne _ _ h)

end
end Go.Vd
