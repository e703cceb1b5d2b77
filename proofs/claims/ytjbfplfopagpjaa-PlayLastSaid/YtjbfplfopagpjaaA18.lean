/- The rule for a range over a function. -/
import Derived.Test.YtjbfplfopagpjaaA17
namespace Go.Vd
open Go.RowKit

section
variable {P : Program} {N : Nat} {𝔅 : BB} {Q : Exit → St → Prop} {s : St}

theorem assign_n {c : Code} {l : Nat} {R : Exit → St → Prop} {s : St} (hm : s.m.d = 0) (h : ∀ 𝔅2, Wp P (some l) N 𝔅2 c R s) : Then (fun s' => s'.m.d = 0 ∧ ∀ 𝔅2, Wp P (some l) N 𝔅2 c R s') (fun _ _ => False) .normal s := ⟨hm, h⟩

theorem round_n {α : Type} {tl : List (Nat × D)} {ids : List Nat} {st : α → List (Nat × Blk)} {inv : Nat → α → Prop} {m1 : MM} {β : Nat → Nat} {k : Nat} (y : α) (h : inv (k + 1) y) (hle : Le s (mk tl (st y) ⟨0, 0, pinsOf ids β⟩)) : RoundQ tl ids st inv Q m1 β k .normal s := ⟨y, h, hle⟩
theorem round_r {α : Type} {tl : List (Nat × D)} {ids : List Nat} {st : α → List (Nat × Blk)} {inv : Nat → α → Prop} {m1 : MM} {β : Nat → Nat} {k : Nat} (hl : List (Nat × Blk)) (hb : boxesIn ids hl = true) (hle : Le s (mk tl hl ⟨0, 0, pinsOf ids β⟩)) (h : Q .ret (mk tl hl m1)) : RoundQ tl ids st inv Q m1 β k .ret s := ⟨hl, hb, hle, h⟩
theorem round_x {α : Type} {tl : List (Nat × D)} {ids : List Nat} {st : α → List (Nat × Blk)} {inv : Nat → α → Prop} {m1 : MM} {β : Nat → Nat} {k j : Nat} (hl : List (Nat × Blk)) (hb : boxesIn ids hl = true) (hle : Le s (mk tl hl ⟨0, 0, pinsOf ids β⟩)) (h : Q (.exit j) (mk tl hl m1)) : RoundQ tl ids st inv Q m1 β k (.exit j) s := ⟨hl, hb, hle, h⟩

theorem wp_range {g : Operand} {ps : Array Tmp} {assign body : Code} {α : Type} {gf : FuncId} {caps : List V} {xs : List (List V)} (hit : IterC P gf caps xs) (hps : ∀ x, x ∈ xs → x.length = ps.size)
    (tl : List (Nat × D)) (ids : List Nat) (st : α → List (Nat × Blk)) (inv : Nat → α → Prop) (x0 : α) (d0 k0 : Nat) (h0 : inv 0 x0) (hle : Le s (mk tl (st x0) ⟨d0, k0, []⟩)) (hg : (mk tl (st x0) ⟨d0, k0, []⟩).ev g = some (.v (.fn (.func gf) [] caps)))
    (htl : (tl.all fun p => p.2.fixed ids) = true) (hpo : psOk N ps.toList tl = true) (hbox : ∀ y, boxesIn ids (st y) = true)
    (hround : ∀ (l : Nat) (β : Nat → Nat) k x y, xs[k]? = some x → inv k y → ∀ 𝔅1, Wp P (some l) N 𝔅1 assign (Then (fun s' => s'.m.d = 0 ∧ ∀ 𝔅2, Wp P (some l) N 𝔅2 body (RoundQ tl ids st inv Q ⟨d0 + 1, k0, []⟩ β k) s') (fun _ _ => False)) (mk (bindP ps.toList x ++ tl) (st y) ⟨0, 0, pinsOf ids β⟩))
    (hdone : ∀ y, inv xs.length y → Q .normal (mk tl (st y) ⟨d0 + 1, k0, []⟩)) : Wp P none N 𝔅 (.rangeFunc g ps assign body) Q s := by
  intro a w n hp0
  have hg' : ∃ us : Array Value, a.eval g = .func (.func gf) #[] us ∧ ∀ B ι, Sim B (mk tl (st x0) ⟨d0, k0, []⟩) ι a w → PW (RepV w (imS B ι)) caps us.toList := by
    obtain ⟨_, B, ι, _, S⟩ := hle.post hp0
    have := repD_v_inv (S.ev hg)
    generalize hu : a.eval g = u at this
    cases this with
    | fn _ _ _ us ws hs1 hs2 hv1 hv2 =>
      have hus : us = #[] := Array.eq_empty_of_size_eq_zero (by simpa using hs1)
      subst hus
      refine ⟨ws, rfl, fun B' ι' S' => ?_⟩
      have h3 := repD_v_inv (S'.ev hg)
      rw [hu] at h3
      cases h3 with
      | fn _ _ _ _ _ _ hs2' _ hv2' => exact pw_array hs2' hv2'
  obtain ⟨us, hgu, hgc⟩ := hg'
  have hp1 := hle.post hp0
  obtain ⟨hN, B, ι00, hB00, S00⟩ := hp0
  obtain ⟨ι0, S0⟩ := hle.2 B ι00 a w S00
  have hcaps := hgc B ι0 S0
  have hBB : 𝔅 k0 B := by have : s.m.k = k0 := by rw [← hle.1]; rfl
                          rw [← this]; exact hB00
  have hd0 : a.defers.length = d0 := S0.marks
  have hsz := S0.size
  let β : Nat → Nat := fun i => match ι0 i with | .box b => b | _ => 0
  refine Go.wpIn_rangeFunc ?_
  intro fn _
  obtain ⟨rec, hrec⟩ : ∃ rec : LoopState → Option Code → Loop, rec = fun st pe => { state := st, pending := pe, fn, tmps := a.tmps, params := ps, assign, body, defers := w.heap.size } := ⟨_, rfl⟩
  obtain ⟨W1, hW1⟩ : ∃ W1, (w.alloc (.deferred (some []))).alloc (.loop (rec .ready none)) = W1 := ⟨_, rfl⟩
  have hsz1 : W1.heap.size = w.heap.size + 2 := by rw [← hW1]; simp
  have hL1 : W1.heap[w.heap.size + 1]? = some (.loop (rec .ready none)) := by
    rw [← hW1]; have := World.alloc_heap_new (w.alloc (.deferred (some []))) (.loop (rec .ready none)); rwa [World.size_alloc] at this
  have hK1 : W1.heap[w.heap.size]? = some (.deferred (some [])) := by
    rw [← hW1]; exact (Below.heap_alloc _ _ _ (by simp)).trans (World.alloc_heap_new w _)
  have hlow : ∀ b, b < w.heap.size → W1.heap[b]? = w.heap[b]? := fun b hb => by
    rw [← hW1]; exact (Below.heap_alloc _ _ _ (by simp; omega)).trans (Below.heap_alloc _ _ _ hb)
  -- what is kept at first
  let im0 : Nat → Prop := fun b => imS B ι0 b ∧ b < w.heap.size
  have hpins : ∀ p ∈ pinsOf ids β, ι0 p.1 = .box p.2 ∨ ι0 p.1 = .dead := by
    intro p hp
    obtain ⟨i, hi, rfl⟩ := List.mem_map.1 hp
    have h1 := List.all_eq_true.1 (hbox x0) i hi
    have h2 := S0.blks i
    simp only [mk] at h2
    cases hk : lk (st x0) i with
    | none => rw [hk] at h1; cases h1
    | some b =>
      rw [hk] at h1 h2
      cases b with
      | box cs =>
        obtain ⟨b', arr, ty, q1, _⟩ := h2
        refine .inl ?_
        show ι0 i = .box (match ι0 i with | .box b => b | _ => 0)
        rw [q1]
      | _ => cases h1
  have S0' : Sim B (mk tl (st x0) ⟨0, 0, pinsOf ids β⟩) ι0 ⟨a.tmps, []⟩ w := { S0 with marks := rfl, pins := hpins, defs := fun d hd => by cases hd }
  have S1 := S0'.rebase (w' := W1) (im' := im0) (fun b hb _ => hlow b hb) (by omega) (fun b h1 h2 => ⟨h1, h2⟩) rfl
  have C0 : Core B a w tl ids β (rec .ready none) (st x0) im0 (owned ι0) W1 ι0 im0 := by
    refine ⟨S1, hbox x0, fun _ h => h, ?_, fun b => ⟨.inl, fun h => h.elim id (fun h => absurd h.1 h.2)⟩, hL1, by rw [← hW1]; rfl, by rw [← hW1]; rfl, by rw [← hW1]; rfl, by omega, fun b hb hno => (hlow b (by omega)).trans (S0.frame b hb hno), ?_, hK1, fun b hb => hb.1.1, ?_⟩
    · rintro b ⟨h1, h2⟩
      exact ⟨by omega, fun ⟨id, hid⟩ => h1.2 id hid, by omega⟩
    · intro d hd
      obtain ⟨b, q1, q2, q3⟩ := S0.defs d hd
      have hlt := (Array.getElem?_eq_some_iff.1 q3).1
      exact ⟨b, q1, q2, hlt, (hlow b hlt).trans q3⟩
    · rintro b ⟨id, hid⟩
      exact (S0.bnd id b hid).2
  let J : JJ := CoreJ B a w tl ids β rec st inv Q ⟨d0 + 1, k0, []⟩
  have hA : Abides (w.heap.size + 1) J := by
    intro n im φ wx im' w' hJ h1 h2 h3 h4 h5 h6 h7 h8
    cases n with
    | zero =>
      obtain ⟨c, hl, ι, imc, C, hc⟩ := hJ
      exact ⟨c, hl, ι, _, C.abide hsz h1 h2 h3 h4 h5 h6 h7 h8, hc⟩
    | succ n =>
      obtain ⟨y, ι, imc, hi, C⟩ := hJ
      exact ⟨y, ι, _, hi, C.abide hsz h1 h2 h3 h4 h5 h6 h7 h8⟩
  have hpo' : ps.toList.Nodup ∧ ∀ p, p ∈ ps.toList → p < N ∧ p ∉ tl.map (·.1) := by
    simp only [psOk, Bool.and_eq_true, decide_eq_true_eq, List.all_eq_true] at hpo
    refine ⟨hpo.2, fun p hp => ?_⟩
    have := hpo.1 p hp
    simp only [Bool.not_eq_true', List.contains_eq_mem] at this
    exact ⟨Nat.le_of_ble_eq_true this.1, by simpa using this.2⟩
  have hR : Rounds P (w.heap.size + 1) xs J := by
    intro k x im φ wx args n hx hJ hargs
    obtain ⟨y, ι, imc, hi, C⟩ := hJ
    have hxl := hps x (List.mem_of_getElem? hx)
    have hasz : args.size = ps.size := by have := hargs.1; simp at this; omega
    have hy := run_yield (P := P) (args := args) C.rc (by rw [hrec]; exact hasz)
    rw [hrec] at hy
    refine ⟨fn, _, assign, body, hy, roundIn_of_wpIn (F := WF none) trivial ?_⟩
    show assign.wpIn (WF (some (w.heap.size + 1))) n P _ _ wx
    -- the round's own frame
    have hzip : (ps.zip args).foldl (fun t (p, v) => t.setIfInBounds p v) a.tmps = (ps.toList.zip args.toList).foldl (fun t (p, v) => t.setIfInBounds p v) a.tmps := by
      rw [← Array.foldl_toList, Array.toList_zip]
    have Sr : Sim ⟨wx, imc, owned ι⟩ (mk (bindP ps.toList x ++ tl) (st y) ⟨0, 0, pinsOf ids β⟩) ι { tmps := (ps.zip args).foldl (fun t (p, v) => t.setIfInBounds p v) a.tmps, defers := [] } wx := by
      refine { C.sim with tmps := fun m d hm => ?_, marks := rfl, defs := fun d hd => by cases hd }
      show ∃ u, ((ps.zip args).foldl (fun t (p, v) => t.setIfInBounds p v) a.tmps)[m]? = some u ∧ _
      rw [hzip]
      rcases bindP_lk hm with ⟨i, v, q1, q2, rfl⟩ | hm
      · have hlt : i < args.size := by have := (List.getElem?_eq_some_iff.1 q2).1; have := hargs.1; simp at this; omega
        refine ⟨args[i], fold_at ps.toList args.toList a.tmps i m args[i] hpo'.1 (fun p hp => by rw [hN]; exact (hpo'.2 p hp).1) q1 (by simp [hlt]), .v ?_⟩
        refine (hargs.2 i v args[i] q2 (by simp [hlt])).mono fun b hb _ => ⟨⟨.inl (C.sub b hb), fun id hid => (C.lt b (C.sub b hb)).2.1 ⟨id, hid⟩⟩, rfl⟩
      · obtain ⟨u, h1, h2⟩ := C.sim.tmps m d hm
        refine ⟨u, ?_, h2⟩
        rw [fold_other _ _ _ (fun hmem => ?_)]
        · exact h1
        · obtain ⟨⟨p, v⟩, h3, rfl⟩ := List.mem_map.1 hmem
          exact (hpo'.2 p (List.of_mem_zip h3).1).2 (List.mem_map.2 ⟨(p, d), lk_mem hm, rfl⟩)
    have hNr : ((ps.zip args).foldl (fun t (p, v) => t.setIfInBounds p v) a.tmps).size = N := by rw [hzip, fold_size]; exact hN
    have hwp := hround (w.heap.size + 1) β k x y hx hi (only ⟨wx, imc, owned ι⟩)
    refine wpIn_mono (hwp _ wx n ⟨hNr, _, ι, rfl, Sr⟩) ?_
    rintro e a1 w1 ⟨s1, hq, hN1, B1, ι1, hB1, S1⟩
    cases (show B1 = _ from hB1)
    cases e with
    | normal =>
      obtain ⟨hm1, hbody⟩ := hq
      have hd1 : a1.defers = [] := List.eq_nil_of_length_eq_zero (by rw [S1.marks, hm1])
      have hsx : wx.heap.size ≤ w1.heap.size := S1.size
      have hrcx : ¬ owned ι (w.heap.size + 1) := owned_cells C.sim C.rc (by simp)
      have hszx := C.size
      have hrc1 : w1.heap[w.heap.size + 1]? = some (.loop (rec .ready none)) := (S1.frame _ hszx hrcx).trans C.rc
      refine ⟨_, run_beginRound hrc1 (by rw [hrec]), ?_⟩
      have hno1 : ¬ owned ι1 (w.heap.size + 1) := owned_cells S1 hrc1 (by simp)
      have hoth : ∀ (L : Loop) c, c ≠ w.heap.size + 1 → (w1.putObj (w.heap.size + 1) (.loop L)).heap[c]? = w1.heap[c]? := fun L c hc => World.putObj_heap_other hc
      have S2 := S1.rebase (w' := w1.putObj (w.heap.size + 1) (.loop { rec .ready none with state := .busy })) (im' := fun b => imS ⟨wx, imc, owned ι⟩ ι1 b ∧ b < w1.heap.size) (fun b hb h => hoth _ b fun he => by
        subst he
        rcases h with h | h
        · rcases h.1 with h' | h' | h'
          · exact (C.lt _ h').2.2 rfl
          · have : wx.heap.size ≤ w.heap.size + 1 := h'; omega
          · exact hrcx h'
        · exact hno1 h) (by simp) (fun b h1 h2 => ⟨h1, h2⟩) hd1
      refine wpIn_mono (hbody (only _) _ _ n ⟨hN1, _, ι1, rfl, S2⟩) ?_
      rintro e a2 w3 ⟨s2, hq2, hN2, B2, ι2, hB2, S3⟩
      cases (show B2 = _ from hB2)
      have hrc3 : w3.heap[w.heap.size + 1]? = some (.loop { rec .ready none with state := .busy }) := by
        rw [S3.frame _ (by show w.heap.size + 1 < (w1.putObj (w.heap.size + 1) _).heap.size; simp; omega) hno1]
        exact World.putObj_heap_same (by omega)
      have hend : ∀ jump, (Instr.endRound (w.heap.size + 1) jump).run P w3 = .ok (.bool jump.isNone) (w3.putObj (w.heap.size + 1) (.loop (rec (if jump.isNone then .ready else .done) jump))) := fun jump => by
        have := run_endRound (P := P) jump hrc3
        rw [hrec] at this ⊢
        exact this
      cases e with
      | normal =>
        obtain ⟨y', hi', hle'⟩ := hq2
        obtain ⟨ι3, S3'⟩ := hle'.2 _ ι2 a2 w3 S3
        obtain ⟨φ', C', q1, q2, q3, q4⟩ := C.round htl S1 { rec .ready none with state := .busy } (rec .ready none) rfl (hbox y') S3' rfl hsz
        exact ⟨_, _, hend none, true, φ', rfl, ⟨y', ι3, _, hi', C'⟩, q1, q2, q3, q4⟩
      | ret =>
        obtain ⟨hl', hb', hle', hQ⟩ := hq2
        obtain ⟨ι3, S3'⟩ := hle'.2 _ ι2 a2 w3 S3
        obtain ⟨φ', C', q1, q2, q3, q4⟩ := C.round htl S1 { rec .ready none with state := .busy } (rec .done (some .ret)) rfl hb' S3' rfl hsz
        exact ⟨_, _, hend (some .ret), false, φ', rfl, ⟨.ret, hl', ι3, _, C', .inl ⟨rfl, hQ⟩⟩, q1, q2, q3, q4⟩
      | exit j =>
        obtain ⟨hl', hb', hle', hQ⟩ := hq2
        obtain ⟨ι3, S3'⟩ := hle'.2 _ ι2 a2 w3 S3
        obtain ⟨φ', C', q1, q2, q3, q4⟩ := C.round htl S1 { rec .ready none with state := .busy } (rec .done (some (.exit j))) rfl hb' S3' rfl hsz
        exact ⟨_, _, hend (some (.exit j)), false, φ', rfl, ⟨.exit j, hl', ι3, _, C', .inr ⟨j, rfl, hQ⟩⟩, q1, q2, q3, q4⟩
      | goto t => exact hq2.elim
      | panic ch => exact hq2.elim
      | outgrown => exact hq2.elim
    | exit j => exact hq.elim
    | goto t => exact hq.elim
    | ret => exact hq.elim
    | panic ch => exact hq.elim
    | outgrown => exact hq.elim
  have hcall := hit.2 (w.heap.size + 1) W1 im0 (owned ι0) J us hsz1 (fun b hb => ⟨by have := hb.2; omega, fun ⟨id, hid⟩ => hb.1.2 id hid⟩) (fun b ⟨id, hid⟩ => by have := (S0.bnd id b hid).1; omega)
    (by
      refine ⟨hcaps.1, fun i v u h1 h2 => ?_⟩
      exact (hcaps.2 i v u h1 h2).mono fun b hb hlt => ⟨⟨hb, hlt⟩, hlow b hlt⟩) hA hR ⟨x0, ι0, im0, h0, C0⟩
  refine ⟨w.heap.size + 1, [{ target := .collected w.heap.size, args := #[] }], W1, { target := .fn (.func gf) us, args := #[.func (.yield (w.heap.size + 1)) #[] #[]] }, W1, gf,
    #[.func (.yield (w.heap.size + 1)) #[] #[]] ++ us, W1, ?_, ?_, ?_, ?_, fun h => by simp [WF, Fence.wide] at h, ?_⟩
  · rw [← hW1, hrec]; exact run_enterLoop_outer _ _ _ _ _
  · simp only [resolve, hgu]
    simp [go_sem]
  · intro f' _; trivial
  · simp [invoke, go_sem, hit.1]
  · refine CallsIn.mono (callsWF _ hcall) ?_
    rintro e w3 ⟨⟨v, rfl⟩, nn, im', φ', hn, hJ⟩
    have hm1 : (⟨d0 + 1, k0, []⟩ : MM).d = a.defers.length + 1 := by rw [hd0]
    rcases hn with rfl | rfl
    · obtain ⟨y, ι, imc, hi, C⟩ := hJ
      have := run_endLoop (P := P) C.rc (by rw [hrec]; simp)
      rw [hrec] at this
      refine ⟨none, _, this, _, hdone y hi, hN, B, ι, hBB, ?_⟩
      exact C.back hm1 rfl hsz S0.os S0.tape S0.output _
    · obtain ⟨c, hl, ι, imc, C, hc⟩ := hJ
      have := run_endLoop (P := P) C.rc (by rw [hrec]; simp)
      rw [hrec] at this
      have hpost : ∀ L4, Post 𝔅 N (mk tl hl ⟨d0 + 1, k0, []⟩) { a with defers := [{ target := Target.collected w.heap.size, args := #[] }] ++ a.defers } (w3.putObj (w.heap.size + 1) (.loop L4)) := fun L4 => ⟨hN, B, ι, hBB, C.back hm1 rfl hsz S0.os S0.tape S0.output L4⟩
      refine ⟨some c, _, this, ?_⟩
      rcases hc with ⟨rfl, hQ⟩ | ⟨j, rfl, hQ⟩
      · exact wpIn_ret ⟨_, hQ, hpost _⟩
      · exact wpIn_exit ⟨_, hQ, hpost _⟩

/-- An iterator's contract, from its body's walk. -/
theorem it_of {f : FuncId} {fn : Func} {c : Code} {caps : List V} {xs : List (List V)} {N : Nat} (hf : P.funcs[f]? = some fn) (hb : fn.body = some c) (hn : (fn.name == "runtime.NumGoroutine") = false) (hN : fn.ntmps = N) (hrs : fn.results = #[])
    (tl : Nat → List (Nat × D)) (ht : ∀ l, HasT (startI l caps) (tl l)) (hlen : Nat.ble (caps.length + 1) N = true) (hi : ∀ l, ((tl l).all fun p => p.2.inn []) = true)
    (h : ∀ 𝔅 l, Yields P 𝔅 l xs → Wp P none N 𝔅 c (IterPost xs.length) (mk (tl l) [] ⟨0, 1, []⟩)) : IterC P f caps xs :=
  iter_of_wp hf hb (enter_of hf hb hn) hN hlen hrs fun 𝔅 l hy => wp_to (tl l) [] (ht l) trivial rfl (hi l) rfl rfl (h 𝔅 l hy)

/-- A nil slice in a variable taken for an empty row. -/
theorem le_nilb {bid id e sz j : Nat} {cs : List D} (hb : s.h bid = .box cs) (hj : cs[j]? = some .nils) (hr : s.h id = .res) (hsz : 0 < sz) :
    Le s { s with h := upd (upd s.h id (.row e sz [])) bid (.box (cs.set j (.own id))) } := by
  refine ⟨rfl, fun B ι a w S => ?_⟩
  have hne : bid ≠ id := fun he => by rw [he, hr] at hb; cases hb
  obtain ⟨S', _⟩ := S.fresh (w' := w) hr (.row none 0 0) (.row e sz []) (fun b h => by cases h) rfl rfl rfl (Nat.le_refl _) (fun _ _ => rfl) (fun _ => ⟨hsz, by simp, .inl ⟨rfl, rfl⟩⟩)
  refine ⟨_, S'.os, S'.tape, S'.output, S'.size, S'.frame, S'.inj, S'.bnd, fun k => ?_, S'.tmps, S'.marks, S'.pins, S'.defs⟩
  by_cases hk : k = bid
  · subst hk
    have h1 := S'.blks k
    simp only [upd_ne _ _ hne] at h1
    rw [hb] at h1
    obtain ⟨b, arr, ty, h2, h3, h4, h5⟩ := h1
    simp only [upd_same, upd_ne _ _ hne]
    refine ⟨b, arr, ty, h2, h3, by simpa using h4, fun i d u hd hu => ?_⟩
    by_cases hij : i = j
    · subst hij
      have hlt : i < cs.length := (List.getElem?_eq_some_iff.1 hj).1
      rw [List.getElem?_set_self hlt] at hd
      cases hd
      have := (h5 i .nils u hj hu).nils_inv
      refine .own id u (by rw [upd_same]; simp) (fun g n c h => ?_)
      rw [upd_same] at h
      cases h; exact this
    · rw [List.getElem?_set_ne (Ne.symm hij)] at hd
      exact h5 i d u hd hu
  · have h1 := S'.blks k
    simp only [upd_ne _ _ hk]
    exact h1

end
end Go.Vd
