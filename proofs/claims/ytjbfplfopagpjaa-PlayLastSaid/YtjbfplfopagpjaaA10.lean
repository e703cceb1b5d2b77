/- The walk of a function's code over data: sequence, branch, block, loop; forgetting; giving memory away. -/
import Derived.Test.YtjbfplfopagpjaaA9
namespace Go.Vd
open Go.RowKit

def WpPost (B : BB) (N : Nat) (Q : Exit → St → Prop) : Exit → Act → World → Prop := fun e a w => ∃ s, Q e s ∧ Post B N s a w

def Wp (P : Program) (r : Option Nat) (N : Nat) (B : BB) (c : Code) (Q : Exit → St → Prop) (s : St) : Prop :=
  ∀ a w n, Post B N s a w → c.wpIn (WF r) n P (WpPost B N Q) a w

def Then (K : St → Prop) (Q : Exit → St → Prop) : Exit → St → Prop
  | .normal, s => K s
  | e, s => Q e s

def InBlk (id : Nat) (K : St → Prop) (Q : Exit → St → Prop) : Exit → St → Prop
  | .normal, s => K s
  | .exit id', s => bif Nat.beq id' id then K s else Q (.exit id') s
  | e, s => Q e s

def Le (s s' : St) : Prop := s'.m = s.m ∧ ∀ B ι a w, Sim B s ι a w → ∃ ι', Sim B s' ι' a w

def LoopQ {α : Type} (st : α → St) (inv : α → Prop) (μ : α → Nat) (x : α) (Q : Exit → St → Prop) : Exit → St → Prop
  | .normal, s => ∃ y, inv y ∧ μ y < μ x ∧ Le s (st y)
  | e, s => Q e s

section
variable {P : Program} {r : Option Nat} {N : Nat} {B : BB} {Q : Exit → St → Prop} {s : St}

theorem wp_mono {c : Code} {Q' : Exit → St → Prop} (h : Wp P r N B c Q s) (hq : ∀ e s, Q e s → Q' e s) : Wp P r N B c Q' s :=
  fun a w n hp => wpIn_mono (h a w n hp) fun e _ _ ⟨s', h1, h2⟩ => ⟨s', hq e s' h1, h2⟩

theorem wp_skip (h : Q .normal s) : Wp P r N B .skip Q s := fun _ _ _ hp => wpIn_skip ⟨s, h, hp⟩
theorem wp_ret (h : Q .ret s) : Wp P r N B .ret Q s := fun _ _ _ hp => wpIn_ret ⟨s, h, hp⟩
theorem wp_exit {id : Nat} (h : Q (.exit id) s) : Wp P r N B (.exit id) Q s := fun _ _ _ hp => wpIn_exit ⟨s, h, hp⟩
theorem wp_label {l : Nat} (h : Q .normal s) : Wp P r N B (.label l) Q s := fun _ _ _ hp => wpIn_label ⟨s, h, hp⟩

theorem wp_seq {x y : Code} (h : Wp P r N B x (Then (Wp P r N B y Q) Q) s) : Wp P r N B (.seq x y) Q s := fun a w n hp =>
  Go.wpIn_seq (wpIn_mono (h a w n hp) fun e a' w' ⟨s', h1, h2⟩ => by
    cases e with
    | normal => exact h1 a' w' n h2
    | _ => exact ⟨s', h1, h2⟩)

theorem wp_cond {c : Operand} {x y : Code} {b : Bool} (hc : s.ev c = some (.v (.bool b))) (ht : b = true → Wp P r N B x Q s) (hf : b = false → Wp P r N B y Q s) : Wp P r N B (.cond c x y) Q s :=
  fun a w n ⟨hN, B0, ι, hB, S⟩ => wpIn_cond (repD_v_inv (S.ev hc)).bool_inv (by
    cases b with
    | true => exact ht rfl a w n ⟨hN, B0, ι, hB, S⟩
    | false => exact hf rfl a w n ⟨hN, B0, ι, hB, S⟩)
theorem wp_condT {c : Operand} {x y : Code} (hc : s.ev c = some (.v (.bool true))) (h : Wp P r N B x Q s) : Wp P r N B (.cond c x y) Q s := wp_cond hc (fun _ => h) (fun e => by cases e)
theorem wp_condF {c : Operand} {x y : Code} (hc : s.ev c = some (.v (.bool false))) (h : Wp P r N B y Q s) : Wp P r N B (.cond c x y) Q s := wp_cond hc (fun e => by cases e) (fun _ => h)

theorem wp_block {id : Nat} {c : Code} (h : Wp P r N B c (InBlk id (Q .normal) Q) s) : Wp P r N B (.block id c) Q s := fun a w n hp =>
  wpIn_block (wpIn_mono (h a w n hp) fun e a' w' ⟨s', h1, h2⟩ => by
    cases e with
    | exit id' =>
      simp only [InBlk] at h1
      simp only [Exit.inBlock]
      by_cases hid : id' = id
      · subst hid
        rw [if_pos rfl]
        rw [show Nat.beq id' id' = true by simp] at h1
        exact ⟨s', h1, h2⟩
      · rw [if_neg hid]
        have : Nat.beq id' id = false := by
          cases hb : Nat.beq id' id with
          | false => rfl
          | true => exact absurd (Nat.eq_of_beq_eq_true hb) hid
        rw [this] at h1
        exact ⟨s', h1, h2⟩
    | _ => exact ⟨s', h1, h2⟩)

theorem wp_le {s' : St} {c : Code} (hle : Le s s') (h : Wp P r N B c Q s') : Wp P r N B c Q s := fun a w n ⟨hN, B0, ι, hB, S⟩ => h a w n (let ⟨ι', S'⟩ := hle.2 B0 ι a w S; ⟨hN, B0, ι', by rw [hle.1]; exact hB, S'⟩)

theorem Le.refl (s : St) : Le s s := ⟨rfl, fun _ ι _ _ S => ⟨ι, S⟩⟩
theorem Le.trans {s s' s'' : St} (h : Le s s') (h' : Le s' s'') : Le s s'' := ⟨h'.1.trans h.1, fun B ι a w S => let ⟨ι', S'⟩ := h.2 B ι a w S; h'.2 B ι' a w S'⟩
theorem Le.post {s s' : St} (h : Le s s') {a : Act} {w : World} (hp : Post B N s a w) : Post B N s' a w := by
  obtain ⟨hN, B0, ι, hB, S⟩ := hp
  obtain ⟨ι', S'⟩ := h.2 B0 ι a w S
  exact ⟨hN, B0, ι', by rw [h.1]; exact hB, S'⟩

theorem exists_min {p : Nat → Prop} (h : ∃ m, p m) : ∃ m, p m ∧ ∀ k, p k → m ≤ k := by
  obtain ⟨m, hm⟩ := h
  induction m using Nat.strongRecOn with
  | _ m ih =>
    by_cases hk : ∃ k, k < m ∧ p k
    · obtain ⟨k, h1, h2⟩ := hk
      exact ih k h1 h2
    · exact ⟨m, hm, fun k h => Nat.le_of_not_lt fun hlt => hk ⟨k, hlt, h⟩⟩

theorem wp_loop {α : Type} {c : Code} (st : α → St) (inv : α → Prop) (μ : α → Nat) (x0 : α) (h0 : inv x0) (hle : Le s (st x0)) (round : ∀ x, inv x → Wp P r N B c (LoopQ st inv μ x Q) (st x)) :
    Wp P r N B (.loop c) Q s := by
  intro a w n hp0
  have hp1 := hle.post hp0
  classical
  let At (a : Act) (w : World) (m : Nat) : Prop := ∃ x, inv x ∧ Post B N (st x) a w ∧ μ x = m
  let M (a : Act) (w : World) : Nat := if h : ∃ m, At a w m then Classical.choose (exists_min h) else 0
  have hM : ∀ a w x, inv x → Post B N (st x) a w → M a w ≤ μ x := by
    intro a w x hx hp
    have he : ∃ m, At a w m := ⟨μ x, x, hx, hp, rfl⟩
    simp only [M, dif_pos he]
    exact (Classical.choose_spec (exists_min he)).2 _ ⟨x, hx, hp, rfl⟩
  refine Go.wpIn_loop (I := fun a w => ∃ x, inv x ∧ Post B N (st x) a w) (μ := M) ⟨x0, h0, hp1⟩ ?_
  rintro a w ⟨x, hx, hp⟩
  have he : ∃ m, At a w m := ⟨μ x, x, hx, hp, rfl⟩
  obtain ⟨y, hy, hpy, hm⟩ := (Classical.choose_spec (exists_min he)).1
  refine wpIn_mono (round y hy a w n hpy) fun e a' w' ⟨s', h1, h2⟩ => ?_
  cases e with
  | normal =>
    obtain ⟨z, hz, hlt, hle'⟩ := h1
    have hpz : Post B N (st z) a' w' := hle'.post h2
    refine ⟨⟨z, hz, hpz⟩, ?_⟩
    have h3 := hM a' w' z hz hpz
    have h4 : M a w = μ y := by simp only [M, dif_pos he]; exact hm.symm
    omega
  | _ => exact ⟨s', h1, h2⟩

/-! ### Regions -/

theorem wp_reg {id : Nat} {l : List Oper} (hd : dstOk N l = true) (h : ARun P r B l none 0 l s (Q .normal)) : Wp P r N B (.region id l.toArray false) Q s := fun a w n hp =>
  wpIn_region (by
    have h1 := irun_of_arun (ops := l) l 0 s _ (fun j => by simp) h
    have h2 := wpIn_of_irun (N := N) (n := n) (Q := WpPost B N Q) hd _ s _ a w hp (fun s' a' w' hk hp => ⟨s', hk, hp⟩) h1
    rwa [← List.range_eq_range', show l.length = l.toArray.size by simp] at h2)

theorem wp_draw {id : Nat} {l : List Oper} {L : Lab} (hd : dstOk N l = true) (hm : P.follows .mixedOrders = true) (hB : lexA l L l.length 0 (Array.replicate l.length false) = true)
    (h : ARun P r B l (some L) 0 l s (Q .normal)) : Wp P r N B (.region id l.toArray true) Q s := fun a w n ⟨hN, B0, ι, hB0, S⟩ =>
  wpIn_region_draw fun t => by
    simp only [Region.schedule, hm, Bool.true_or, if_true]
    have h1 := AAny_lex (K := Q .normal) (L := L) rfl l 0 (Array.replicate l.length false) s (fun j => by simp) hB h
    have h2 := AAny_sound (𝔅 := B) l.length t _ s h1
    have h3 := wpIn_of_irun (N := N) (n := n) (Q := WpPost B N Q) hd _ s _ a { w with drawn := w.drawn + 1 } ⟨hN, B0, ι, hB0, S.drew⟩ (fun s' a' w' hk hp => ⟨s', hk, hp⟩) h2
    have e : l.length = l.toArray.size := by simp
    rw [Region.linearise]
    rw [e] at h3
    exact h3

end

/-! ### Forgetting -/

mutual
def D.inn (l : List Nat) : D → Bool
  | .own id => l.contains id
  | .ptr id _ => l.contains id
  | .eptr id _ => l.contains id
  | .agg cs => innL l cs
  | .fn _ a b => innL l a && innL l b
  | .tup ds => innL l ds
  | .v _ => true
  | .nils => true
  | .any => true
def innL (l : List Nat) : List D → Bool
  | [] => true
  | d :: r => d.inn l && innL l r
end

def Blk.inn (l : List Nat) : Blk → Bool
  | .box cs => innL l cs
  | _ => true

theorem innL_get {l : List Nat} : ∀ {ds : List D} {i : Nat} {d : D}, innL l ds = true → ds[i]? = some d → d.inn l = true
  | [], _, _, _, h => by simp at h
  | x :: r, 0, d, h, hd => by
    simp only [innL, Bool.and_eq_true] at h
    simp at hd; subst hd; exact h.1
  | x :: r, i + 1, d, h, hd => by
    simp only [innL, Bool.and_eq_true] at h
    exact innL_get h.2 (by simpa using hd)

theorem RepD.keepIds {w : World} {im im' : Nat → Prop} {ι ι' : Nat → Con} {l : List Nat} (him : ∀ b, im b → im' b) (hι : ∀ id, l.contains id = true → ι' id = ι id) {d : D} {u : Value}
    (h : RepD w im ι d u) : d.inn l = true → RepD w im' ι' d u := by
  induction h with
  | v h => exact fun _ => .v (h.mono fun b hb _ => ⟨him b hb, rfl⟩)
  | nils => exact fun _ => .nils
  | own id u h0 h => exact fun hi => .own id u (by rw [hι id hi]; exact h0) (by rw [hι id hi]; exact h)
  | ptr id n u h0 h => exact fun hi => .ptr id n u (by rw [hι id hi]; exact h0) (by rw [hι id hi]; exact h)
  | eptr id n u h0 h => exact fun hi => .eptr id n u (by rw [hι id hi]; exact h0) (by rw [hι id hi]; exact h)
  | agg cs us hs hv ih => exact fun hi => .agg cs us hs fun i v u h1 h2 => ih i v u h1 h2 (innL_get hi h1)
  | fn f a b us ws hs hs' hv hv' ih ih' =>
    intro hi
    simp only [D.inn, Bool.and_eq_true] at hi
    exact .fn f a b us ws hs hs' (fun i v u h1 h2 => ih i v u h1 h2 (innL_get hi.1 h1)) (fun i v u h1 h2 => ih' i v u h1 h2 (innL_get hi.2 h1))
  | tup cs us hs hv ih => exact fun hi => .tup cs us hs fun i v u h1 h2 => ih i v u h1 h2 (innL_get hi h1)
  | any u => exact fun _ => .any u

/-- A state written out: what some temporaries hold, what some numbers stand for; nothing is known of the others. -/
def mk (tl : List (Nat × D)) (hl : List (Nat × Blk)) (m : MM := 0) : St := ⟨lk tl, fun id => (lk hl id).getD .res, m⟩

theorem lk_none {α : Type} : ∀ {l : List (Nat × α)} {n : Nat}, lk l n = none → (l.map (·.1)).contains n = false
  | [], _, _ => rfl
  | (k, a) :: r, n, h => by
    simp only [lk] at h
    cases hb : n.beq k with
    | true => rw [hb] at h; cases h
    | false =>
      rw [hb] at h
      have h1 := lk_none (l := r) (n := n) (by simpa using h)
      have h2 : n ≠ k := fun e => by subst e; simp at hb
      simp only [List.map_cons, List.contains_cons, h1, Bool.or_false]
      simpa using h2

theorem lk_some_in {α : Type} {l : List (Nat × α)} {n : Nat} {x : α} (h : lk l n = some x) : (l.map (·.1)).contains n = true := by
  rw [List.contains_iff_mem]
  exact List.mem_map.2 ⟨(n, x), lk_mem h, rfl⟩

theorem le_mk {s : St} {tl : List (Nat × D)} {hl : List (Nat × Blk)} {m : MM} (ht : ∀ p ∈ tl, s.t p.1 = some p.2) (hh : ∀ p ∈ hl, s.h p.1 = p.2) (hm : s.m = m)
    (hi : (tl.all fun p => p.2.inn (hl.map (·.1))) = true) (hj : (hl.all fun p => p.2.inn (hl.map (·.1))) = true) (hp : (m.pins.all fun p => (hl.map (·.1)).contains p.1) = true) : Le s (mk tl hl m) := by
  refine ⟨hm.symm, ?_⟩
  intro B ι a w S
  let ι' : Nat → Con := fun id => if (hl.map (·.1)).contains id then ι id else .res
  have hι : ∀ id, (hl.map (·.1)).contains id = true → ι' id = ι id := fun id h => if_pos h
  have hι0 : ∀ id, (hl.map (·.1)).contains id = false → ι' id = .res := fun id h => if_neg (by rw [h]; simp)
  have hblk : ∀ id b, (ι' id).blk = some b → (ι id).blk = some b := by
    intro id b h
    cases hc : (hl.map (·.1)).contains id with
    | true => rw [hι id hc] at h; exact h
    | false => rw [hι0 id hc] at h; cases h
  have him : ∀ b, imS B ι b → imS B ι' b := fun b hb => ⟨hb.1, fun id h => hb.2 id (hblk id b h)⟩
  refine ⟨ι', S.os, S.tape, S.output, S.size, S.frame, fun id id' b h h' => S.inj id id' b (hblk id b h) (hblk id' b h'), fun id b h => S.bnd id b (hblk id b h), ?_, ?_, by rw [← hm] at *; exact S.marks, fun p hp' => by
    have h1 : (hl.map (·.1)).contains p.1 = true := List.all_eq_true.1 hp p hp'
    rw [hι _ h1]; exact S.pins p (by rw [hm]; exact hp'), S.defs⟩
  · intro id
    show BlkRel w (imS B ι') ι' ((lk hl id).getD .res) (ι' id)
    cases hk : lk hl id with
    | none => rw [hι0 id (lk_none hk)]; rfl
    | some b =>
      have hin := lk_some_in hk
      have hmem := lk_mem hk
      have hb : s.h id = b := hh (id, b) hmem
      have hbi : b.inn (hl.map (·.1)) = true := List.all_eq_true.1 hj (id, b) hmem
      have h1 := S.blks id
      rw [hb] at h1
      simp only [Option.getD_some, hι id hin]
      cases b with
      | res => exact h1
      | dead => exact h1
      | box cs =>
        obtain ⟨bb, arr, ty, h2, h3, h4, h5⟩ := h1
        exact ⟨bb, arr, ty, h2, h3, h4, fun i d u hd hu => (h5 i d u hd hu).keepIds him hι (innL_get hbi hd)⟩
      | row e sz es =>
        obtain ⟨h2, h3, h4⟩ := h1
        refine ⟨h2, h3, ?_⟩
        rcases h4 with h4 | ⟨g, cap, arr, h4, h5, h6, h7, h8, h9⟩
        · exact .inl h4
        · exact .inr ⟨g, cap, arr, h4, h5, h6, h7, h8, fun i j el v u a1 a2 a3 => (h9 i j el v u a1 a2 a3).mono fun b hb _ => ⟨him b hb, rfl⟩⟩
  · intro n d hn
    have hmem := lk_mem hn
    obtain ⟨u, h1, h2⟩ := S.tmps n d (ht (n, d) hmem)
    exact ⟨u, h1, h2.keepIds him hι (List.all_eq_true.1 hi (n, d) hmem)⟩

/-! ### Giving away -/

/-- A value's view as data, the call's own blocks taken as they are. -/
def rowV (id : Nat) (es : List (List V)) : D → D
  | .own id' => bif Nat.beq id' id then .v (.sl es) else .own id'
  | d => d

def boxV (id : Nat) (vs : List V) : D → D
  | .ptr id' n => bif Nat.beq id' id then .v (.ref (vs.drop n)) else .ptr id' n
  | d => d

def Blk.mapD (φ : D → D) : Blk → Blk
  | .box cs => .box (cs.map φ)
  | b => b

/-- The state in which a block has been given away: it never turns again, and what pointed to it is data. -/
def St.give (s : St) (id : Nat) (φ : D → D) : St := ⟨fun n => (s.t n).map φ, fun k => bif Nat.beq k id then .dead else (s.h k).mapD φ, s.m⟩

theorem le_give {s : St} {id : Nat} {φ : D → D} (hid : ∀ B ι a w, Sim B s ι a w → ι id ≠ .res)
    (hφ : ∀ B ι a w, Sim B s ι a w → ∀ d u, RepD w (imS B ι) ι d u → RepD w (imS B (upd ι id .dead)) (upd ι id .dead) (φ d) u) : Le s (s.give id φ) := by
  refine ⟨rfl, ?_⟩
  intro B ι a w S
  obtain ⟨S', hk⟩ := S.kill (hid B ι a w S)
  refine ⟨_, S'.os, S'.tape, S'.output, S'.size, S'.frame, S'.inj, S'.bnd, ?_, ?_, S'.marks, S'.pins, S'.defs⟩
  · intro k
    have h1 := S'.blks k
    simp only [St.give]
    by_cases hkid : k = id
    · subst hkid
      have hb : Nat.beq k k = true := by simp
      rw [hb]
      simp only [upd_same] at h1 ⊢
      exact h1
    · have hb : Nat.beq k id = false := by
        cases hb : Nat.beq k id with
        | false => rfl
        | true => exact absurd (Nat.eq_of_beq_eq_true hb) hkid
      rw [hb]
      simp only [cond_false]
      have h2 := S.blks k
      rw [upd_ne _ _ hkid] at h1 ⊢
      cases hs : s.h k with
      | box cs =>
        rw [hs] at h2
        obtain ⟨b, arr, ty, h3, h4, h5, h6⟩ := h2
        refine ⟨b, arr, ty, h3, h4, by simpa using h5, fun i d u hd hu => ?_⟩
        rw [List.getElem?_map] at hd
        cases hc : cs[i]? with
        | none => rw [hc] at hd; cases hd
        | some c => rw [hc] at hd; cases hd; exact hφ B ι a w S c u (h6 i c u hc hu)
      | _ =>
        simp only [upd_ne _ _ hkid, hs] at h1
        exact h1
  · intro n d hn
    simp only [St.give, Option.map_eq_some_iff] at hn
    obtain ⟨d', h1, rfl⟩ := hn
    obtain ⟨u, h2, h3⟩ := S.tmps n d' h1
    exact ⟨u, h2, hφ B ι a w S d' u h3⟩

theorem le_give_row {s : St} {id e sz : Nat} {es : List (List V)} (hb : s.h id = .row e sz es) : Le s (s.give id (rowV id es)) := by
  refine le_give (fun B ι a w S => by obtain ⟨g, c, h⟩ := blk_row S hb; rw [h]; simp) fun B ι a w S d u h => ?_
  obtain ⟨S', hk⟩ := S.kill (id := id) (by obtain ⟨g, c, h⟩ := blk_row S hb; rw [h]; simp)
  have hm : RepD w (imS B (upd ι id .dead)) (upd ι id .dead) d u := h.mono hk (fun k _ => by
    by_cases h : k = id
    · subst h; exact .inr (upd_same _ _ _)
    · exact .inl (upd_ne _ _ h))
  cases d with
  | own id' =>
    simp only [rowV]
    cases hbq : Nat.beq id' id with
    | false => exact hm
    | true =>
      have := Nat.eq_of_beq_eq_true hbq
      subst this
      have h1 := S.blks id'
      rw [hb] at h1
      refine .v (h1.row_repV (fun b hbk => ?_) (fun b hbk => ⟨hbk.1, fun k hk' => ?_⟩) u h.own_inv.2)
      · refine ⟨?_, fun k hk' => ?_⟩
        · rcases (S.bnd _ b hbk).2 with h2 | h2
          · exact .inr (.inl h2)
          · exact .inr (.inr h2)
        · by_cases hki : k = id'
          · subst hki; rw [upd_same] at hk'; cases hk'
          · rw [upd_ne _ _ hki] at hk'; exact hki (S.inj _ _ b hk' hbk)
      · by_cases hki : k = id'
        · subst hki; rw [upd_same] at hk'; cases hk'
        · rw [upd_ne _ _ hki] at hk'; exact hbk.2 k hk'
  | _ => exact hm

theorem le_give_box {s : St} {id : Nat} {cs : List D} {vs : List V} (hb : s.h id = .box cs) (hv : allV cs = some vs) : Le s (s.give id (boxV id vs)) := by
  refine le_give (fun B ι a w S => by obtain ⟨b, _, _, h, _⟩ := blk_box S hb; rw [h]; simp) fun B ι a w S d u h => ?_
  obtain ⟨S', hk⟩ := S.kill (id := id) (by obtain ⟨b, _, _, h, _⟩ := blk_box S hb; rw [h]; simp)
  have hm : RepD w (imS B (upd ι id .dead)) (upd ι id .dead) d u := h.mono hk (fun k _ => by
    by_cases h : k = id
    · subst h; exact .inr (upd_same _ _ _)
    · exact .inl (upd_ne _ _ h))
  cases d with
  | ptr id' n =>
    simp only [boxV]
    cases hbq : Nat.beq id' id with
    | false => exact hm
    | true =>
      have := Nat.eq_of_beq_eq_true hbq
      subst this
      have hcs := allV_some hv
      subst hcs
      obtain ⟨b, arr, ty, h1, h2, h3, h4⟩ := blk_box S hb
      have hown : (ι id').blk = some b := by rw [h1]; rfl
      rw [h.ptr_inv.2 b h1]
      have him : imS B (upd ι id' .dead) b := by
        refine ⟨?_, fun k hk' => ?_⟩
        · rcases (S.bnd _ b hown).2 with h2 | h2
          · exact .inr (.inl h2)
          · exact .inr (.inr h2)
        · by_cases hki : k = id'
          · subst hki; rw [upd_same] at hk'; cases hk'
          · rw [upd_ne _ _ hki] at hk'; exact hki (S.inj _ _ b hk' hown)
      refine .v (.ref _ b n him (Array.getElem?_eq_some_iff.1 h2).1 ?_ ?_)
      · intro j hj
        rw [cell_of_row w b (n + j) arr ty (0, 0) h2]
        have : n + j < arr.size := by simp at hj h3; omega
        simp [this]
      · intro j v u hv' hu
        rw [cell_of_row w b (n + j) arr ty (0, 0) h2] at hu
        rw [List.getElem?_drop] at hv'
        exact (repD_v_inv (h4 (n + j) (.v v) u (by simp [hv']) hu)).mono hk
  | _ => exact hm

end Go.Vd
