/- A range over a function, at its caller. -/
import Derived.Test.YtjbfplfopagpjaaA16
namespace Go.Vd
open Go.RowKit

def isBox : Option Blk → Bool
  | some (.box _) => true
  | _ => false
def boxesIn (ids : List Nat) (hl : List (Nat × Blk)) : Bool := ids.all fun i => isBox (lk hl i)
def D.fixed (ids : List Nat) : D → Bool
  | .v _ => true
  | .nils => true
  | .any => true
  | .ptr id _ => ids.contains id
  | _ => false
def pinsOf (ids : List Nat) (β : Nat → Nat) : List (Nat × Nat) := ids.map fun i => (i, β i)
def bindP (ps : List Nat) (x : List V) : List (Nat × D) := (ps.zip x).map fun p => (p.1, .v p.2)
/-- Parameters that are apart from one another and from what is kept, and all there. -/
def psOk (N : Nat) (ps : List Nat) (tl : List (Nat × D)) : Bool := ps.all (fun p => Nat.blt p N && !(tl.map (·.1)).contains p) && decide ps.Nodup

def RoundQ {α : Type} (tl : List (Nat × D)) (ids : List Nat) (st : α → List (Nat × Blk)) (inv : Nat → α → Prop) (Q : Exit → St → Prop) (m1 : MM) (β : Nat → Nat) (k : Nat) : Exit → St → Prop
  | .normal, s => ∃ y, inv (k + 1) y ∧ Le s (mk tl (st y) ⟨0, 0, pinsOf ids β⟩)
  | .ret, s => ∃ hl, boxesIn ids hl = true ∧ Le s (mk tl hl ⟨0, 0, pinsOf ids β⟩) ∧ Q .ret (mk tl hl m1)
  | .exit j, s => ∃ hl, boxesIn ids hl = true ∧ Le s (mk tl hl ⟨0, 0, pinsOf ids β⟩) ∧ Q (.exit j) (mk tl hl m1)
  | _, _ => False

theorem fold_other : ∀ (l : List (Nat × Value)) (t : Array Value) (n : Nat), n ∉ l.map (·.1) → (l.foldl (fun t (p, v) => t.setIfInBounds p v) t)[n]? = t[n]?
  | [], _, _, _ => rfl
  | (p, v) :: l, t, n, h => by
    simp only [List.map_cons, List.mem_cons, not_or] at h
    simp only [List.foldl_cons]
    rw [fold_other l _ n h.2, Array.getElem?_setIfInBounds_ne (Ne.symm h.1)]
theorem fold_size : ∀ (l : List (Nat × Value)) (t : Array Value), (l.foldl (fun t (p, v) => t.setIfInBounds p v) t).size = t.size
  | [], _ => rfl
  | (p, v) :: l, t => by simp only [List.foldl_cons]; rw [fold_size l]; simp
theorem fold_at : ∀ (ps : List Nat) (vs : List Value) (t : Array Value) (i n : Nat) (v : Value), ps.Nodup → (∀ p ∈ ps, p < t.size) → ps[i]? = some n → vs[i]? = some v → ((ps.zip vs).foldl (fun t (p, v) => t.setIfInBounds p v) t)[n]? = some v
  | [], _, _, _, _, _, _, _, h, _ => by simp at h
  | _ :: _, [], _, _, _, _, _, _, _, h => by simp at h
  | p :: ps, u :: vs, t, i, n, v, hn, hs, hp, hv => by
    simp only [List.zip_cons_cons, List.foldl_cons]
    cases i with
    | zero =>
      simp at hp hv; subst hp; subst hv
      rw [fold_other _ _ _ (fun hm => ?_)]
      · simp [hs p List.mem_cons_self]
      · obtain ⟨⟨a, b⟩, h1, rfl⟩ := List.mem_map.1 hm
        exact (List.nodup_cons.1 hn).1 (List.of_mem_zip h1).1
    | succ i => exact fold_at ps vs _ i n v (List.nodup_cons.1 hn).2 (fun q hq => by simp; exact hs q (List.mem_cons_of_mem _ hq)) (by simpa using hp) (by simpa using hv)

theorem bindP_lk : ∀ {ps : List Nat} {x : List V} {tl : List (Nat × D)} {n : Nat} {d : D}, lk (bindP ps x ++ tl) n = some d → (∃ (i : Nat) (v : V), ps[i]? = some n ∧ x[i]? = some v ∧ d = .v v) ∨ (lk tl n = some d)
  | [], _, _, _, _, h => .inr (by simpa [bindP] using h)
  | _ :: _, [], _, _, _, h => .inr (by simpa [bindP] using h)
  | p :: ps, v :: x, tl, n, d, h => by
    have h' : (bif Nat.beq n p then some (D.v v) else lk (bindP ps x ++ tl) n) = some d := h
    cases hb : Nat.beq n p with
    | true =>
      rw [hb] at h'
      simp at h'
      have := Nat.eq_of_beq_eq_true hb
      subst this
      exact .inl ⟨0, v, rfl, rfl, h'.symm⟩
    | false =>
      rw [hb] at h'
      rcases bindP_lk h' with ⟨i, v', h1, h2, h3⟩ | h1
      · exact .inl ⟨i + 1, v', h1, h2, h3⟩
      · exact .inr h1

/-- What the caller keeps while the iterator runs. -/
structure Core (B : Base) (a : Act) (w : World) (tl : List (Nat × D)) (ids : List Nat) (β : Nat → Nat) (L : Loop) (hl : List (Nat × Blk)) (im φ : Nat → Prop) (wx : World) (ι : Nat → Con) (imc : Nat → Prop) : Prop where
  sim : Sim ⟨wx, imc, owned ι⟩ (mk tl hl ⟨0, 0, pinsOf ids β⟩) ι ⟨a.tmps, []⟩ wx
  box : boxesIn ids hl = true
  sub : ∀ b, im b → imc b
  lt : ∀ b, imc b → b < wx.heap.size ∧ ¬ owned ι b ∧ b ≠ w.heap.size + 1
  phi : ∀ b, φ b ↔ owned ι b ∨ (imc b ∧ ¬ im b)
  rc : wx.heap[w.heap.size + 1]? = some (.loop L)
  os : wx.os = w.os
  tape : wx.tape = w.tape
  output : wx.output = w.output
  size : w.heap.size + 1 < wx.heap.size
  frame : ∀ b, b < B.w0.heap.size → ¬ B.own0 b → wx.heap[b]? = B.w0.heap[b]?
  defs : ∀ d ∈ a.defers, ∃ b, d = { target := .collected b, args := #[] } ∧ B.w0.heap.size ≤ b ∧ b < w.heap.size ∧ wx.heap[b]? = some (.deferred (some []))
  mark : wx.heap[w.heap.size]? = some (.deferred (some []))
  ims : ∀ b, imc b → B.im0 b ∨ B.w0.heap.size ≤ b ∨ B.own0 b
  owns : ∀ b, owned ι b → B.w0.heap.size ≤ b ∨ B.own0 b

def CoreJ {α : Type} (B : Base) (a : Act) (w : World) (tl : List (Nat × D)) (ids : List Nat) (β : Nat → Nat) (rec : LoopState → Option Code → Loop) (st : α → List (Nat × Blk)) (inv : Nat → α → Prop) (Q : Exit → St → Prop) (m1 : MM) : JJ
  | 0, im, φ, wx => ∃ c hl ι imc, Core B a w tl ids β (rec .done (some c)) hl im φ wx ι imc ∧ ((c = .ret ∧ Q .ret (mk tl hl m1)) ∨ ∃ j, c = .exit j ∧ Q (.exit j) (mk tl hl m1))
  | k + 1, im, φ, wx => ∃ y ι imc, inv k y ∧ Core B a w tl ids β (rec .ready none) (st y) im φ wx ι imc

section
variable {P : Program} {B : Base} {a : Act} {w : World} {tl : List (Nat × D)} {ids : List Nat} {β : Nat → Nat} {L : Loop} {hl : List (Nat × Blk)} {im φ : Nat → Prop} {wx : World} {ι : Nat → Con} {imc : Nat → Prop}

theorem owned_cells {B : Base} {s : St} {ι : Nat → Con} {a : Act} {w : World} (S : Sim B s ι a w) {b : Nat} {o : Obj} (h : w.heap[b]? = some o) (ho : ∀ c t f, o ≠ .cells c t f) : ¬ owned ι b := by
  rintro ⟨id, hid⟩
  obtain ⟨c, t, f, hc⟩ := S.own_cells hid
  rw [h] at hc; cases hc; exact ho _ _ _ rfl

/-- The iterator's doings leave what the caller keeps. -/
theorem Core.abide (C : Core B a w tl ids β L hl im φ wx ι imc) (hB : B.w0.heap.size ≤ w.heap.size) {im' : Nat → Prop} {w' : World} (h1 : wx.heap.size ≤ w'.heap.size) (h2 : w'.os = wx.os) (h3 : w'.tape = wx.tape) (h4 : w'.output = wx.output)
    (h5 : ∀ b, b < wx.heap.size → (b ≤ w.heap.size + 1 ∨ im b ∨ φ b) → w'.heap[b]? = wx.heap[b]?) (h6 : ∀ b, im b → im' b) (h7 : ∀ b, im' b → im b ∨ (w.heap.size + 1 < b ∧ ¬ φ b)) (h8 : ∀ b, im' b → b < w'.heap.size) :
    Core B a w tl ids β L hl im' φ w' ι (fun b => imc b ∨ im' b) := by
  have hsz := C.size
  have hlow : ∀ b, b ≤ w.heap.size + 1 → w'.heap[b]? = wx.heap[b]? := fun b hb => h5 b (by omega) (.inl hb)
  have hcs : ∀ b, b < wx.heap.size → (imc b ∨ owned ι b) → w'.heap[b]? = wx.heap[b]? := by
    intro b hb h
    refine h5 b hb (.inr ?_)
    rcases h with h | h
    · by_cases hi : im b
      · exact .inl hi
      · exact .inr ((C.phi b).2 (.inr ⟨h, hi⟩))
    · exact .inr ((C.phi b).2 (.inl h))
  refine ⟨?_, C.box, fun b hb => .inr hb, ?_, ?_, (hlow _ (Nat.le_refl _)).trans C.rc, h2.trans C.os, h3.trans C.tape, h4.trans C.output, by omega, ?_, ?_, (hlow _ (by omega)).trans C.mark, ?_, C.owns⟩
  · refine C.sim.rebase (fun b hb h => hcs b hb ?_) h1 ?_ rfl
    · rcases h with h | h
      · rcases h.1 with h' | h' | h'
        · exact .inl h'
        · have : wx.heap.size ≤ b := h'; omega
        · exact absurd h' (fun ⟨id, hid⟩ => h.2 id hid)
      · exact .inr h
    · intro b hb hlt
      rcases hb.1 with h' | h' | h'
      · exact .inl h'
      · have : wx.heap.size ≤ b := h'; omega
      · exact absurd h' (fun ⟨id, hid⟩ => hb.2 id hid)
  · rintro b (h | h)
    · obtain ⟨q1, q2, q3⟩ := C.lt b h
      exact ⟨by omega, q2, q3⟩
    · rcases h7 b h with h' | h'
      · obtain ⟨q1, q2, q3⟩ := C.lt b (C.sub b h')
        exact ⟨by omega, q2, q3⟩
      · exact ⟨h8 b h, fun ho => h'.2 ((C.phi b).2 (.inl ho)), by omega⟩
  · intro b
    rw [C.phi b]
    constructor
    · rintro (h | ⟨h, h'⟩)
      · exact .inl h
      · refine .inr ⟨.inl h, fun hi => ?_⟩
        rcases h7 b hi with h'' | h''
        · exact h' h''
        · exact h''.2 ((C.phi b).2 (.inr ⟨h, h'⟩))
    · rintro (h | ⟨h | h, h'⟩)
      · exact .inl h
      · exact .inr ⟨h, fun hi => h' (h6 b hi)⟩
      · exact absurd h h'
  · intro b hb hno
    rw [hlow b (by omega)]; exact C.frame b hb hno
  · intro d hd
    obtain ⟨b, q1, q2, q3, q4⟩ := C.defs d hd
    exact ⟨b, q1, q2, q3, (hlow b (by omega)).trans q4⟩
  · rintro b (h | h)
    · exact C.ims b h
    · rcases h7 b h with h' | h'
      · exact C.ims b (C.sub b h')
      · exact .inr (.inl (by omega))

/-- A kept box lies where it was pinned. -/
theorem Core.pin (C : Core B a w tl ids β L hl im φ wx ι imc) {i : Nat} (hi : i ∈ ids) : ι i = .box (β i) := by
  have h1 := List.all_eq_true.1 C.box i hi
  have h2 := C.sim.blks i
  have h3 := C.sim.pins (i, β i) (List.mem_map.2 ⟨i, hi, rfl⟩)
  simp only [Vd.mk] at h2
  cases hk : lk hl i with
  | none => rw [hk] at h1; cases h1
  | some b =>
    rw [hk] at h1 h2
    cases b with
    | box cs =>
      obtain ⟨b', arr, ty, q1, _⟩ := h2
      rcases h3 with h3 | h3
      · exact h3
      · simp only at h3; rw [q1] at h3; cases h3
    | _ => cases h1

/-- One round: from what the caller kept to what it keeps; the body's state is its own. -/
theorem Core.round (C : Core B a w tl ids β L hl im φ wx ι imc) (htl : (tl.all fun p => p.2.fixed ids) = true) {w1 w2 w3 w4 : World} {s1 : St} {ι1 : Nat → Con} {a1 : Act} (S1 : Sim ⟨wx, imc, owned ι⟩ s1 ι1 a1 w1)
    (L2 L4 : Loop) (hw2 : w2 = w1.putObj (w.heap.size + 1) (.loop L2)) {hl' : List (Nat × Blk)} {ι3 : Nat → Con} {a3 : Act} (hbox : boxesIn ids hl' = true)
    (S3 : Sim ⟨w2, fun b => imS ⟨wx, imc, owned ι⟩ ι1 b ∧ b < w1.heap.size, owned ι1⟩ (Vd.mk tl hl' ⟨0, 0, pinsOf ids β⟩) ι3 a3 w3) (hw4 : w4 = w3.putObj (w.heap.size + 1) (.loop L4)) (hB : B.w0.heap.size ≤ w.heap.size) :
    ∃ φ', Core B a w tl ids β L4 hl' im φ' w4 ι3 (fun b => imS ⟨w2, fun b => imS ⟨wx, imc, owned ι⟩ ι1 b ∧ b < w1.heap.size, owned ι1⟩ ι3 b ∧ b < w3.heap.size) ∧ wx.heap.size ≤ w4.heap.size ∧
      (∀ c, c < wx.heap.size → ¬ φ c → c ≠ w.heap.size + 1 → w4.heap[c]? = wx.heap[c]?) ∧ (∀ c, φ' c → φ c ∨ wx.heap.size ≤ c) ∧ (∀ c, φ' c → c < w4.heap.size) := by
  have hsz := C.size
  have hs1 : wx.heap.size ≤ w1.heap.size := S1.size
  have hs2 : w2.heap.size = w1.heap.size := by rw [hw2]; simp
  have hs3 : w2.heap.size ≤ w3.heap.size := S3.size
  have hs4 : w4.heap.size = w3.heap.size := by rw [hw4]; simp
  have hw2' : ∀ c, c ≠ w.heap.size + 1 → w2.heap[c]? = w1.heap[c]? := fun c hc => by rw [hw2]; exact World.putObj_heap_other hc
  have hw4' : ∀ c, c ≠ w.heap.size + 1 → w4.heap[c]? = w3.heap[c]? := fun c hc => by rw [hw4]; exact World.putObj_heap_other hc
  -- who owns what
  have ho1 : ∀ b, owned ι1 b → wx.heap.size ≤ b ∨ owned ι b := fun b ⟨id, hid⟩ => (S1.bnd id b hid).2
  have ho3 : ∀ b, owned ι3 b → w2.heap.size ≤ b ∨ owned ι1 b := fun b ⟨id, hid⟩ => (S3.bnd id b hid).2
  have ho3' : ∀ b, owned ι3 b → wx.heap.size ≤ b ∨ owned ι b := fun b hb => by
    rcases ho3 b hb with h | h
    · exact .inl (by omega)
    · exact ho1 b h
  have hrcx : ¬ owned ι (w.heap.size + 1) := owned_cells C.sim C.rc (by simp)
  have hrl : ∀ b, owned ι3 b → b ≠ w.heap.size + 1 := fun b hb he => by
    subst he
    rcases ho3' _ hb with h | h
    · omega
    · exact hrcx h
  have hrl1 : ∀ b, owned ι1 b → b ≠ w.heap.size + 1 := fun b hb he => by
    subst he
    rcases ho1 _ hb with h | h
    · omega
    · exact hrcx h
  -- what was known stays
  have hk1 : ∀ b, imc b → imS ⟨wx, imc, owned ι⟩ ι1 b ∧ w1.heap[b]? = wx.heap[b]? := fun b hb => by
    obtain ⟨q1, q2, q3⟩ := C.lt b hb
    refine ⟨⟨.inl hb, fun id hid => ?_⟩, S1.frame b q1 q2⟩
    rcases ho1 b ⟨id, hid⟩ with h | h
    · omega
    · exact q2 h
  have hk3 : ∀ b, imc b → imS ⟨w2, fun b => imS ⟨wx, imc, owned ι⟩ ι1 b ∧ b < w1.heap.size, owned ι1⟩ ι3 b ∧ w4.heap[b]? = wx.heap[b]? := fun b hb => by
    obtain ⟨q1, q2, q3⟩ := C.lt b hb
    obtain ⟨r1, r2⟩ := hk1 b hb
    have hno1 : ¬ owned ι1 b := fun h => (ho1 b h).elim (fun h => by omega) q2
    refine ⟨⟨.inl ⟨r1, by omega⟩, fun id hid => ?_⟩, ?_⟩
    · rcases ho3 b ⟨id, hid⟩ with h | h
      · omega
      · exact hno1 h
    · rw [hw4' b q3, S3.frame b (by show b < w2.heap.size; omega) hno1, hw2' b q3, r2]
  have hfr : ∀ c, c < wx.heap.size → ¬ owned ι c → c ≠ w.heap.size + 1 → w4.heap[c]? = wx.heap[c]? := fun c hc hno hne => by
    have hno1 : ¬ owned ι1 c := fun h => (ho1 c h).elim (fun h => by omega) hno
    rw [hw4' c hne, S3.frame c (by show c < w2.heap.size; omega) hno1, hw2' c hne, S1.frame c hc hno]
  have hmk : ¬ owned ι w.heap.size := owned_cells C.sim C.mark (by simp)
  -- the base of the round's end, anew
  have S4 := S3.rebase (w' := w4) (im' := fun b => imS ⟨w2, fun b => imS ⟨wx, imc, owned ι⟩ ι1 b ∧ b < w1.heap.size, owned ι1⟩ ι3 b ∧ b < w3.heap.size) (fun b hb h => hw4' b fun he => by
    subst he
    rcases h with h | h
    · rcases h.1 with h' | h' | h'
      · rcases h'.1.1 with h'' | h'' | h''
        · exact (C.lt _ h'').2.2 rfl
        · have : wx.heap.size ≤ w.heap.size + 1 := h''; omega
        · exact hrcx h''
      · have : w2.heap.size ≤ w.heap.size + 1 := h'; omega
      · exact hrl1 _ h' rfl
    · exact hrl _ h rfl) (by omega) (fun b h1 h2 => ⟨h1, h2⟩) (List.eq_nil_of_length_eq_zero S3.marks)
  refine ⟨fun b => owned ι3 b ∨ ((imS ⟨w2, fun b => imS ⟨wx, imc, owned ι⟩ ι1 b ∧ b < w1.heap.size, owned ι1⟩ ι3 b ∧ b < w3.heap.size) ∧ ¬ im b), ⟨?_, hbox, ?_, ?_, fun _ => Iff.rfl, ?_, ?_, ?_, ?_, by omega, ?_, ?_, ?_, ?_, ?_⟩, by omega, fun c hc hno hne => hfr c hc (fun h => hno ((C.phi c).2 (.inl h))) hne, ?_, ?_⟩
  · refine { S4 with tmps := ?_, marks := rfl, defs := fun d hd => by cases hd }
    intro n d hn
    obtain ⟨u, h1, h2⟩ := C.sim.tmps n d hn
    refine ⟨u, h1, ?_⟩
    have hd := List.all_eq_true.1 htl (n, d) (lk_mem hn)
    cases d with
    | v x =>
      refine .v ((repD_v_inv h2).mono fun b hb hlt => ?_)
      have hb' : imc b := by
        rcases hb.1 with h' | h' | h'
        · exact h'
        · have : wx.heap.size ≤ b := h'; omega
        · exact absurd h' (fun ⟨id, hid⟩ => hb.2 id hid)
      obtain ⟨r1, r2⟩ := hk3 b hb'
      exact ⟨⟨.inl ⟨r1, by have := (C.lt b hb').1; omega⟩, r1.2⟩, r2⟩
    | nils => rw [h2.nils_inv]; exact .nils
    | any => exact .any u
    | ptr id o =>
      have hid : id ∈ ids := by simpa [D.fixed] using hd
      have hp := h2.ptr_inv.2 _ (C.pin hid)
      have hp3 : ι3 id = .box (β id) := by
        have h1 := List.all_eq_true.1 hbox id hid
        have h2 := S3.blks id
        have h3 := S3.pins (id, β id) (List.mem_map.2 ⟨id, hid, rfl⟩)
        simp only [Vd.mk] at h2
        cases hk : lk hl' id with
        | none => rw [hk] at h1; cases h1
        | some b =>
          rw [hk] at h1 h2
          cases b with
          | box cs =>
            obtain ⟨b', arr, ty, q1, _⟩ := h2
            rcases h3 with h3 | h3
            · exact h3
            · simp only at h3; rw [q1] at h3; cases h3
          | _ => cases h1
      exact .ptr id o u (by rw [hp3]; simp) (fun b hb => by rw [hp3] at hb; cases hb; exact hp)
    | own id => cases hd
    | eptr id o => cases hd
    | agg cs => cases hd
    | fn f x y => cases hd
    | tup ds => cases hd
  · intro b hb
    have hb' := C.sub b hb
    exact ⟨(hk3 b hb').1, by have := (C.lt b hb').1; omega⟩
  · rintro b ⟨hb, hlt⟩
    refine ⟨by omega, fun ⟨id, hid⟩ => hb.2 id hid, fun he => ?_⟩
    subst he
    rcases hb.1 with h' | h' | h'
    · rcases h'.1.1 with h'' | h'' | h''
      · exact (C.lt _ h'').2.2 rfl
      · have : wx.heap.size ≤ w.heap.size + 1 := h''; omega
      · exact hrcx h''
    · have : w2.heap.size ≤ w.heap.size + 1 := h'; omega
    · exact hrl1 _ h' rfl
  · rw [hw4]; exact World.putObj_heap_same (by omega)
  · rw [hw4]; show w3.os = w.os; rw [S3.os]; show w2.os = w.os; rw [hw2]; show w1.os = w.os; rw [S1.os]; exact C.os
  · rw [hw4]; show w3.tape = w.tape; rw [S3.tape]; show w2.tape = w.tape; rw [hw2]; show w1.tape = w.tape; rw [S1.tape]; exact C.tape
  · rw [hw4]; show w3.output = w.output; rw [S3.output]; show w2.output = w.output; rw [hw2]; show w1.output = w.output; rw [S1.output]; exact C.output
  · intro b hb hno
    rw [hfr b (by omega) (fun h => ?_) (by omega)]
    · exact C.frame b hb hno
    · rcases C.owns b h with h | h
      · omega
      · exact hno h
  · intro d hd
    obtain ⟨b, q1, q2, q3, q4⟩ := C.defs d hd
    exact ⟨b, q1, q2, q3, (hfr b (by omega) (owned_cells C.sim q4 (by simp)) (by omega)).trans q4⟩
  · exact (hfr _ (by omega) hmk (by omega)).trans C.mark
  · rintro b ⟨hb, hlt⟩
    have key : ∀ b, owned ι b → B.im0 b ∨ B.w0.heap.size ≤ b ∨ B.own0 b := fun b hb => (C.owns b hb).elim (fun h => .inr (.inl h)) (fun h => .inr (.inr h))
    have key1 : ∀ b, owned ι1 b → B.im0 b ∨ B.w0.heap.size ≤ b ∨ B.own0 b := fun b hb => (ho1 b hb).elim (fun h => .inr (.inl (by omega))) (key b)
    rcases hb.1 with h' | h' | h'
    · rcases h'.1.1 with h'' | h'' | h''
      · exact C.ims b h''
      · have : wx.heap.size ≤ b := h''; exact .inr (.inl (by omega))
      · exact key b h''
    · have : w2.heap.size ≤ b := h'; exact .inr (.inl (by omega))
    · exact key1 b h'
  · intro b hb
    rcases ho3' b hb with h | h
    · exact .inl (by omega)
    · exact C.owns b h
  · rintro c (h | ⟨⟨h, hlt⟩, hni⟩)
    · rcases ho3' c h with h | h
      · exact .inr h
      · exact .inl ((C.phi c).2 (.inl h))
    · rcases h.1 with h' | h' | h'
      · rcases h'.1.1 with h'' | h'' | h''
        · exact .inl ((C.phi c).2 (.inr ⟨h'', hni⟩))
        · exact .inr h''
        · exact .inl ((C.phi c).2 (.inl h''))
      · have : w2.heap.size ≤ c := h'; exact .inr (by omega)
      · rcases ho1 c h' with h | h
        · exact .inr h
        · exact .inl ((C.phi c).2 (.inl h))
  · rintro c (⟨id, hid⟩ | ⟨⟨_, hlt⟩, _⟩)
    · have := (S3.bnd id c hid).1; omega
    · omega

/-- Back in the caller's own walk. -/
theorem Core.back (C : Core B a w tl ids β L hl im φ wx ι imc) {m1 : MM} (hm : m1.d = a.defers.length + 1) (hp : m1.pins = []) (hB : B.w0.heap.size ≤ w.heap.size) (hos : w.os = B.w0.os) (ht : w.tape = B.w0.tape) (hou : w.output = B.w0.output) (L4 : Loop) :
    Sim B (Vd.mk tl hl m1) ι { tmps := a.tmps, defers := { target := .collected w.heap.size, args := #[] } :: a.defers } (wx.putObj (w.heap.size + 1) (.loop L4)) := by
  have hsz := C.size
  have hrcx : ¬ owned ι (w.heap.size + 1) := owned_cells C.sim C.rc (by simp)
  have hoth : ∀ c, c ≠ w.heap.size + 1 → (wx.putObj (w.heap.size + 1) (.loop L4)).heap[c]? = wx.heap[c]? := fun c hc => World.putObj_heap_other hc
  have hk : ∀ b, imS ⟨wx, imc, owned ι⟩ ι b → b < wx.heap.size → imS B ι b ∧ (wx.putObj (w.heap.size + 1) (.loop L4)).heap[b]? = wx.heap[b]? := by
    intro b hb hlt
    have hb' : imc b := by
      rcases hb.1 with h' | h' | h'
      · exact h'
      · have : wx.heap.size ≤ b := h'; omega
      · exact absurd h' (fun ⟨id, hid⟩ => hb.2 id hid)
    exact ⟨⟨C.ims b hb', hb.2⟩, hoth b (C.lt b hb').2.2⟩
  refine ⟨C.os.trans hos, C.tape.trans ht, C.output.trans hou, by simp; omega, fun b hb hno => by rw [hoth b (by omega)]; exact C.frame b hb hno, C.sim.inj, fun id b h => ⟨by simp; exact (C.sim.bnd id b h).1, C.owns b ⟨id, h⟩⟩, fun id => ?_, fun n d hn => ?_, by simp [Vd.mk, hm], (fun p hpp => by rw [show (Vd.mk tl hl m1).m.pins = m1.pins from rfl, hp] at hpp; cases hpp), fun d hd => ?_⟩
  · exact (C.sim.blks id).mono hk (fun _ _ => .inl rfl) fun k hkk => hoth k fun he => by subst he; exact hrcx ⟨id, hkk⟩
  · obtain ⟨u, h1, h2⟩ := C.sim.tmps n d hn
    exact ⟨u, h1, h2.mono hk fun _ _ => .inl rfl⟩
  · rcases List.mem_cons.1 hd with rfl | hd
    · exact ⟨w.heap.size, rfl, hB, (hoth _ (by omega)).trans C.mark⟩
    · obtain ⟨b, q1, q2, q3, q4⟩ := C.defs d hd
      exact ⟨b, q1, q2, (hoth b (by omega)).trans q4⟩

end
end Go.Vd
