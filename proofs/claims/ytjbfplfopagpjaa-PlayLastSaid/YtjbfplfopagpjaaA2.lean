/- States: what the temporaries and the call's own blocks hold; how a state stands to a run's frame and memory. -/
import Derived.Test.YtjbfplfopagpjaaA1
namespace Go.Vd
open Go.RowKit

/-- A block of the call's own: not made yet; given away; a variable's cells; a slice's elements. -/
inductive Blk where
  | res | dead
  | box (cs : List D)
  | row (e sz : Nat) (es : List (List V))

/-- What a state says beside its temporaries and blocks: how many marks of ranges over functions lie on the frame; how many rounds have been yielded; which numbers stand for which blocks. -/
structure MM where
  d : Nat
  k : Nat
  pins : List (Nat × Nat)

instance (n : Nat) : OfNat MM n := ⟨⟨n, 0, []⟩⟩

structure St where
  t : Nat → Option D
  h : Nat → Blk
  m : MM := 0

def upd {α : Type} (f : Nat → α) (n : Nat) (x : α) : Nat → α := fun m => bif Nat.beq m n then x else f m

theorem upd_same {α : Type} (f : Nat → α) (n : Nat) (x : α) : upd f n x n = x := by simp [upd]
theorem upd_ne {α : Type} (f : Nat → α) {n m : Nat} (x : α) (h : m ≠ n) : upd f n x m = f m := by
  have : (m.beq n) = false := by
    cases hb : m.beq n with
    | false => rfl
    | true => exact absurd (Nat.eq_of_beq_eq_true hb) h
  simp [upd, this]
theorem upd_comm {α : Type} (f : Nat → α) {n m : Nat} (x y : α) (h : n ≠ m) : upd (upd f n x) m y = upd (upd f m y) n x := by
  funext k
  by_cases h1 : k = n
  · subst h1; rw [upd_ne _ _ h, upd_same, upd_same]
  · by_cases h2 : k = m
    · subst h2; rw [upd_same, upd_ne _ _ h1, upd_same]
    · rw [upd_ne _ _ h2, upd_ne _ _ h1, upd_ne _ _ h1, upd_ne _ _ h2]

def St.put (s : St) (dst : Option Nat) (d : D) : St := match dst with
  | some n => { s with t := upd s.t n (some d) }
  | none => s

def effs : List (Nat × Blk) → (Nat → Blk) → (Nat → Blk)
  | [], h => h
  | (i, b) :: r, h => effs r (upd h i b)

def St.eff (s : St) (e : List (Nat × Blk)) : St := { s with h := effs e s.h }

def Con.blk : Con → Option Nat
  | .box b => some b
  | .row g _ _ => g
  | _ => none

def BlkRel (w : World) (im : Nat → Prop) (ι : Nat → Con) : Blk → Con → Prop
  | .res, c => c = .res
  | .dead, c => c = .dead
  | .box cs, c => ∃ b arr ty, c = .box b ∧ w.heap[b]? = some (.cells arr ty (0, 0)) ∧ arr.size = cs.length ∧
      ∀ (i : Nat) d u, cs[i]? = some d → arr[i]? = some u → RepD w im ι d u
  | .row e sz es, c => 0 < sz ∧ (∀ el ∈ es, el.length = sz) ∧ ((c = .row none 0 0 ∧ es = []) ∨
      ∃ g cap arr, c = .row (some g) es.length cap ∧ w.heap[g]? = some (.cells arr e (0, 0)) ∧ es.length ≤ cap ∧ cap ≤ maxLen ∧ arr.size = cap * sz ∧
        ∀ (i j : Nat) el v u, es[i]? = some el → el[j]? = some v → arr[i * sz + j]? = some u → RepV w im v u)

structure Base where
  w0 : World
  im0 : Nat → Prop
  own0 : Nat → Prop

def imS (B : Base) (ι : Nat → Con) (b : Nat) : Prop := (B.im0 b ∨ B.w0.heap.size ≤ b ∨ B.own0 b) ∧ ∀ id, (ι id).blk ≠ some b

structure Sim (B : Base) (s : St) (ι : Nat → Con) (a : Act) (w : World) : Prop where
  os : w.os = B.w0.os
  tape : w.tape = B.w0.tape
  output : w.output = B.w0.output
  size : B.w0.heap.size ≤ w.heap.size
  frame : ∀ b, b < B.w0.heap.size → ¬ B.own0 b → w.heap[b]? = B.w0.heap[b]?
  inj : ∀ id id' b, (ι id).blk = some b → (ι id').blk = some b → id = id'
  bnd : ∀ id b, (ι id).blk = some b → b < w.heap.size ∧ (B.w0.heap.size ≤ b ∨ B.own0 b)
  blks : ∀ id, BlkRel w (imS B ι) ι (s.h id) (ι id)
  tmps : ∀ n d, s.t n = some d → ∃ u, a.tmps[n]? = some u ∧ RepD w (imS B ι) ι d u
  marks : a.defers.length = s.m.d
  pins : ∀ p ∈ s.m.pins, ι p.1 = .box p.2 ∨ ι p.1 = .dead
  defs : ∀ d ∈ a.defers, ∃ b, d = { target := .collected b, args := #[] } ∧ B.w0.heap.size ≤ b ∧ w.heap[b]? = some (.deferred (some []))

/-- A block of the call's own is a row of cells. -/
theorem Sim.own_cells {B : Base} {s : St} {ι : Nat → Con} {a : Act} {w : World} (S : Sim B s ι a w) {id b : Nat} (h : (ι id).blk = some b) : ∃ c t f, w.heap[b]? = some (.cells c t f) := by
  have h1 := S.blks id
  cases hb : s.h id with
  | res => rw [hb] at h1; rw [show ι id = .res from h1] at h; cases h
  | dead => rw [hb] at h1; rw [show ι id = .dead from h1] at h; cases h
  | box cs =>
    rw [hb] at h1
    obtain ⟨b', arr, ty, h2, h3, _⟩ := h1
    rw [h2] at h; cases h; exact ⟨_, _, _, h3⟩
  | row e sz es =>
    rw [hb] at h1
    obtain ⟨_, _, ⟨h2, _⟩ | ⟨g, cap, arr, h2, h3, _⟩⟩ := h1
    · rw [h2] at h; cases h
    · rw [h2] at h; cases h; exact ⟨_, _, _, h3⟩

theorem BlkRel.mono {w w' : World} {im im' : Nat → Prop} {ι ι' : Nat → Con} (hk : ∀ b, im b → b < w.heap.size → im' b ∧ w'.heap[b]? = w.heap[b]?)
    (hi : ∀ id, ι id ≠ .res → ι' id = ι id ∨ ι' id = .dead) {b : Blk} {c : Con} (hc : ∀ k, c.blk = some k → w'.heap[k]? = w.heap[k]?) (h : BlkRel w im ι b c) : BlkRel w' im' ι' b c := by
  cases b with
  | res => exact h
  | dead => exact h
  | box cs =>
    obtain ⟨b, arr, ty, rfl, hb, hs, hv⟩ := h
    exact ⟨b, arr, ty, rfl, by rw [hc b rfl]; exact hb, hs, fun i d u h1 h2 => (hv i d u h1 h2).mono hk hi⟩
  | row e sz es =>
    obtain ⟨h0, h1, h⟩ := h
    refine ⟨h0, h1, ?_⟩
    rcases h with h | ⟨g, cap, arr, rfl, hg, h2, h3, h4, h5⟩
    · exact .inl h
    · exact .inr ⟨g, cap, arr, rfl, by rw [hc g rfl]; exact hg, h2, h3, h4, fun i j el v u a b c => (h5 i j el v u a b c).mono hk⟩

/-- A step: blocks of the call's own may turn (X), numbers may be given out or given away. -/
theorem Sim.evolve {B : Base} {s : St} {ι : Nat → Con} {a : Act} {w : World} (S : Sim B s ι a w) (w' : World) (ι' : Nat → Con) (h' : Nat → Blk) (X : Nat → Prop)
    (hos : w'.os = w.os) (htape : w'.tape = w.tape) (hout : w'.output = w.output) (hsize : w.heap.size ≤ w'.heap.size)
    (hX : ∀ b, X b → ∃ id, (ι id).blk = some b) (hw : ∀ b, b < w.heap.size → ¬ X b → w'.heap[b]? = w.heap[b]?)
    (hι : ∀ id, ι id ≠ .res → ι' id = ι id ∨ ι' id = .dead)
    (hown : ∀ id b, (ι' id).blk = some b → b < w.heap.size → ∃ id0, (ι id0).blk = some b)
    (hinj : ∀ id id' b, (ι' id).blk = some b → (ι' id').blk = some b → id = id')
    (hbnd : ∀ id b, (ι' id).blk = some b → b < w'.heap.size)
    (hblk : ∀ id, (h' id = s.h id ∧ ι' id = ι id ∧ ∀ b, (ι id).blk = some b → ¬ X b) ∨
      ((∀ b, imS B ι b → b < w.heap.size → imS B ι' b ∧ w'.heap[b]? = w.heap[b]?) → BlkRel w' (imS B ι') ι' (h' id) (ι' id))) :
    Sim B { s with h := h' } ι' a w' ∧ (∀ b, imS B ι b → b < w.heap.size → imS B ι' b ∧ w'.heap[b]? = w.heap[b]?) := by
  have hk : ∀ b, imS B ι b → b < w.heap.size → imS B ι' b ∧ w'.heap[b]? = w.heap[b]? := by
    intro b hb hlt
    refine ⟨⟨hb.1, fun id hid => ?_⟩, hw b hlt fun hx => ?_⟩
    · obtain ⟨id0, h0⟩ := hown id b hid hlt
      exact hb.2 id0 h0
    · obtain ⟨id0, h0⟩ := hX b hx
      exact hb.2 id0 h0
  have hdefs : ∀ d ∈ a.defers, ∃ b, d = { target := .collected b, args := #[] } ∧ B.w0.heap.size ≤ b ∧ w'.heap[b]? = some (.deferred (some [])) := by
    intro d hd
    obtain ⟨b, h1, h2, h3⟩ := S.defs d hd
    refine ⟨b, h1, h2, ?_⟩
    rw [hw b (Array.getElem?_eq_some_iff.1 h3).1 fun hx => ?_]
    · exact h3
    · obtain ⟨id, hid⟩ := hX b hx
      obtain ⟨c, t, f, hc⟩ := S.own_cells hid
      rw [h3] at hc; cases hc
  have hpins : ∀ p ∈ s.m.pins, ι' p.1 = .box p.2 ∨ ι' p.1 = .dead := by
    intro p hp
    rcases S.pins p hp with h | h
    · rcases hι p.1 (by rw [h]; simp) with h1 | h1
      · exact .inl (h1.trans h)
      · exact .inr h1
    · rcases hι p.1 (by rw [h]; simp) with h1 | h1
      · exact .inr (h1.trans h)
      · exact .inr h1
  refine ⟨⟨hos.trans S.os, htape.trans S.tape, hout.trans S.output, Nat.le_trans S.size hsize, ?_, hinj, ?_, ?_, ?_, S.marks, hpins, hdefs⟩, hk⟩
  · intro b hb hno
    rw [hw b (Nat.lt_of_lt_of_le hb S.size) fun hx => ?_]
    · exact S.frame b hb hno
    · obtain ⟨id0, h0⟩ := hX b hx
      rcases (S.bnd id0 b h0).2 with h1 | h1
      · omega
      · exact hno h1
  · intro id b hid
    refine ⟨hbnd id b hid, ?_⟩
    by_cases hlt : b < w.heap.size
    · obtain ⟨id0, h0⟩ := hown id b hid hlt
      exact (S.bnd id0 b h0).2
    · exact .inl (Nat.le_trans S.size (by omega))
  · intro id
    rcases hblk id with ⟨h1, h2, h3⟩ | h1
    · show BlkRel w' (imS B ι') ι' (h' id) (ι' id)
      rw [h1, h2]
      exact (S.blks id).mono hk hι fun k hkk => hw k (S.bnd id k hkk).1 (h3 k hkk)
    · exact h1 hk
  · intro n d hn
    obtain ⟨u, h1, h2⟩ := S.tmps n d hn
    exact ⟨u, h1, h2.mono hk hι⟩

theorem Sim.put {B : Base} {s : St} {ι : Nat → Con} {a : Act} {w : World} (S : Sim B s ι a w) {n : Nat} (hn : n < a.tmps.size) {d : D} {u : Value}
    (h : RepD w (imS B ι) ι d u) : Sim B (s.put (some n) d) ι (a.put (some n) u) w := by
  refine { S with tmps := ?_ }
  intro m e hm
  simp only [St.put, Act.put] at hm ⊢
  by_cases hmn : m = n
  · subst hmn
    rw [upd_same] at hm; cases hm
    exact ⟨u, by simp [hn], h⟩
  · rw [upd_ne _ _ hmn] at hm
    obtain ⟨v, h1, h2⟩ := S.tmps m e hm
    exact ⟨v, by rw [Array.getElem?_setIfInBounds_ne (Ne.symm hmn)]; exact h1, h2⟩

theorem Sim.put_none {B : Base} {s : St} {ι : Nat → Con} {a : Act} {w : World} (S : Sim B s ι a w) (d : D) (u : Value) : Sim B (s.put none d) ι (a.put none u) w := S

/-- A world in which only draws have been taken, or blocks laid that are nobody's yet. -/
theorem Sim.grow {B : Base} {s : St} {ι : Nat → Con} {a : Act} {w w' : World} (S : Sim B s ι a w)
    (hos : w'.os = w.os) (htape : w'.tape = w.tape) (hout : w'.output = w.output) (hsize : w.heap.size ≤ w'.heap.size)
    (hw : ∀ b, b < w.heap.size → w'.heap[b]? = w.heap[b]?) :
    Sim B s ι a w' ∧ (∀ b, imS B ι b → b < w.heap.size → imS B ι b ∧ w'.heap[b]? = w.heap[b]?) :=
  S.evolve w' ι s.h (fun _ => False) hos htape hout hsize (fun _ h => h.elim) (fun _ hb _ => hw _ hb) (fun _ _ => .inl rfl) (fun id _ h _ => ⟨id, h⟩) S.inj
    (fun id b h => Nat.lt_of_lt_of_le (S.bnd id b h).1 hsize) (fun _ => .inl ⟨rfl, rfl, fun _ _ h => h⟩)

theorem Sim.drew {B : Base} {s : St} {ι : Nat → Con} {a : Act} {w : World} (S : Sim B s ι a w) : Sim B s ι a { w with drawn := w.drawn + 1 } :=
  (S.grow (w' := { w with drawn := w.drawn + 1 }) rfl rfl rfl (Nat.le_refl _) (fun _ _ => rfl)).1

/-- A new block, under a number that stood for nothing. -/
theorem Sim.fresh {B : Base} {s : St} {ι : Nat → Con} {a : Act} {w w' : World} (S : Sim B s ι a w) {id : Nat} (hid : s.h id = .res) (c : Con) (blk : Blk)
    (hc : ∀ b, c.blk = some b → w.heap.size ≤ b ∧ b < w'.heap.size)
    (hos : w'.os = w.os) (htape : w'.tape = w.tape) (hout : w'.output = w.output) (hsize : w.heap.size ≤ w'.heap.size)
    (hw : ∀ b, b < w.heap.size → w'.heap[b]? = w.heap[b]?)
    (hblk : (∀ b, imS B ι b → b < w.heap.size → imS B (upd ι id c) b ∧ w'.heap[b]? = w.heap[b]?) → BlkRel w' (imS B (upd ι id c)) (upd ι id c) blk c) :
    Sim B { s with h := upd s.h id blk } (upd ι id c) a w' ∧ (∀ b, imS B ι b → b < w.heap.size → imS B (upd ι id c) b ∧ w'.heap[b]? = w.heap[b]?) := by
  have hres : ι id = .res := by have := S.blks id; rw [hid] at this; exact this
  have hcase : ∀ k b, (upd ι id c k).blk = some b → (k = id ∧ c.blk = some b) ∨ (k ≠ id ∧ (ι k).blk = some b) := by
    intro k b h
    by_cases hk : k = id
    · subst hk; rw [upd_same] at h; exact .inl ⟨rfl, h⟩
    · rw [upd_ne _ _ hk] at h; exact .inr ⟨hk, h⟩
  refine S.evolve w' (upd ι id c) (upd s.h id blk) (fun _ => False) hos htape hout hsize (fun _ h => h.elim) (fun _ hb _ => hw _ hb) ?_ ?_ ?_ ?_ ?_
  · intro k hk
    by_cases h : k = id
    · subst h; exact absurd hres hk
    · exact .inl (upd_ne _ _ h)
  · intro k b h hlt
    rcases hcase k b h with ⟨_, h1⟩ | ⟨_, h1⟩
    · have := (hc b h1).1; omega
    · exact ⟨k, h1⟩
  · intro k k' b h h'
    rcases hcase k b h with ⟨h0, h1⟩ | ⟨h0, h1⟩ <;> rcases hcase k' b h' with ⟨h2, h3⟩ | ⟨h2, h3⟩
    · rw [h0, h2]
    · have := (hc b h1).1; have := (S.bnd k' b h3).1; omega
    · have := (hc b h3).1; have := (S.bnd k b h1).1; omega
    · exact S.inj k k' b h1 h3
  · intro k b h
    rcases hcase k b h with ⟨_, h1⟩ | ⟨_, h1⟩
    · exact (hc b h1).2
    · exact Nat.lt_of_lt_of_le (S.bnd k b h1).1 hsize
  · intro k
    by_cases h : k = id
    · subst h
      exact .inr fun hk => by rw [upd_same, upd_same]; exact hblk hk
    · exact .inl ⟨upd_ne _ _ h, upd_ne _ _ h, fun _ _ h => h⟩

/-- A block of the call's own is written anew. -/
theorem Sim.turn {B : Base} {s : St} {ι : Nat → Con} {a : Act} {w w' : World} (S : Sim B s ι a w) {id g : Nat} (blk : Blk) (hg : (ι id).blk = some g)
    (hos : w'.os = w.os) (htape : w'.tape = w.tape) (hout : w'.output = w.output) (hsize : w.heap.size ≤ w'.heap.size)
    (hw : ∀ b, b < w.heap.size → b ≠ g → w'.heap[b]? = w.heap[b]?)
    (hblk : (∀ b, imS B ι b → b < w.heap.size → imS B ι b ∧ w'.heap[b]? = w.heap[b]?) → BlkRel w' (imS B ι) ι blk (ι id)) :
    Sim B { s with h := upd s.h id blk } ι a w' := by
  refine (S.evolve w' ι (upd s.h id blk) (fun b => b = g) hos htape hout hsize (fun b h => ⟨id, by rw [h]; exact hg⟩) (fun b hb hx => hw b hb hx) (fun _ _ => .inl rfl) (fun id b h _ => ⟨id, h⟩) S.inj
    (fun id b h => Nat.lt_of_lt_of_le (S.bnd id b h).1 hsize) ?_).1
  intro k
  by_cases h : k = id
  · subst h
    exact .inr fun hk => by rw [upd_same]; exact hblk hk
  · refine .inl ⟨upd_ne _ _ h, rfl, fun b hb hx => h (S.inj k id b hb (by rw [hx]; exact hg))⟩

/-- A number is given away: its block may never be written again. -/
theorem Sim.kill {B : Base} {s : St} {ι : Nat → Con} {a : Act} {w : World} (S : Sim B s ι a w) {id : Nat} (hid : ι id ≠ .res) :
    Sim B { s with h := upd s.h id .dead } (upd ι id .dead) a w ∧ (∀ b, imS B ι b → b < w.heap.size → imS B (upd ι id .dead) b ∧ w.heap[b]? = w.heap[b]?) := by
  have hcase : ∀ k b, (upd ι id .dead k).blk = some b → k ≠ id ∧ (ι k).blk = some b := by
    intro k b h
    by_cases hk : k = id
    · subst hk; rw [upd_same] at h; cases h
    · rw [upd_ne _ _ hk] at h; exact ⟨hk, h⟩
  refine S.evolve w (upd ι id .dead) (upd s.h id .dead) (fun _ => False) rfl rfl rfl (Nat.le_refl _) (fun _ h => h.elim) (fun _ _ _ => rfl) ?_ (fun k b h _ => ⟨k, (hcase k b h).2⟩)
    (fun k k' b h h' => S.inj k k' b (hcase k b h).2 (hcase k' b h').2) (fun k b h => (S.bnd k b (hcase k b h).2).1) ?_
  · intro k hk
    by_cases h : k = id
    · subst h; exact .inr (upd_same _ _ _)
    · exact .inl (upd_ne _ _ h)
  · intro k
    by_cases h : k = id
    · subst h
      exact .inr fun _ => by rw [upd_same, upd_same]; rfl
    · exact .inl ⟨upd_ne _ _ h, upd_ne _ _ h, fun _ _ h => h⟩

/-- A slice of the call's own, as data (whatever may write it is given away, or does not come about meanwhile). -/
theorem BlkRel.row_repV {w : World} {im : Nat → Prop} {ι : Nat → Con} {e sz : Nat} {es : List (List V)} {c : Con} (h : BlkRel w im ι (.row e sz es) c)
    {im' : Nat → Prop} (hm : ∀ b, c.blk = some b → im' b) (hi : ∀ b, im b → im' b) (u : Value) (hu : ∀ g n cap, c = .row g n cap → u = rowVal g n cap) :
    RepV w im' (.sl es) u := by
  obtain ⟨h0, h1, h⟩ := h
  rcases h with ⟨hc, rfl⟩ | ⟨g, cap, arr, hc, hg, h2, h3, h4, h5⟩
  · rw [hu _ _ _ hc]; exact .sl0 _ _
  · rw [hu _ _ _ hc]
    have hcell : ∀ j, w.cell? ⟨g, 0 + j, none⟩ = arr[j]? := fun j => by rw [Nat.zero_add]; exact cell_of_row w g j arr e (0, 0) hg
    refine .sl es g 0 sz cap (hm g (by rw [hc]; rfl)) (Array.getElem?_eq_some_iff.1 hg).1 h2 h1 ?_ ?_
    · intro i j hi' hj
      have := hcell (i * sz + j)
      rw [← Nat.add_assoc] at this
      rw [this]
      have : i * sz + j < arr.size := by
        rw [h4]
        calc i * sz + j < i * sz + sz := by omega
          _ = (i + 1) * sz := by rw [Nat.add_mul, Nat.one_mul]
          _ ≤ cap * sz := Nat.mul_le_mul_right _ (by omega)
      simp [this]
    · intro i j el v u' he hv hu'
      have h6 := hcell (i * sz + j)
      rw [← Nat.add_assoc] at h6
      rw [h6] at hu'
      exact (h5 i j el v u' he hv hu').mono fun b hb _ => ⟨hi b hb, rfl⟩

theorem RepD.own_inv {w : World} {im : Nat → Prop} {ι : Nat → Con} {id : Nat} {u : Value} (h : RepD w im ι (.own id) u) : ι id ≠ .res ∧ ∀ g n c, ι id = .row g n c → u = rowVal g n c := by
  cases h with | own _ _ h0 h => exact ⟨h0, h⟩
theorem RepD.ptr_inv {w : World} {im : Nat → Prop} {ι : Nat → Con} {id n : Nat} {u : Value} (h : RepD w im ι (.ptr id n) u) : ι id ≠ .res ∧ ∀ b, ι id = .box b → u = .pointer (some ⟨b, n, none⟩) := by
  cases h with | ptr _ _ _ h0 h => exact ⟨h0, h⟩
theorem RepD.eptr_inv {w : World} {im : Nat → Prop} {ι : Nat → Con} {id n : Nat} {u : Value} (h : RepD w im ι (.eptr id n) u) : ι id ≠ .res ∧ ∀ g m c, ι id = .row (some g) m c → u = .pointer (some ⟨g, n, none⟩) := by
  cases h with | eptr _ _ _ h0 h => exact ⟨h0, h⟩
theorem RepD.nils_inv {w : World} {im : Nat → Prop} {ι : Nat → Con} {u : Value} (h : RepD w im ι .nils u) : u = .slice none 0 0 := by
  cases h with | nils => rfl

end Go.Vd
