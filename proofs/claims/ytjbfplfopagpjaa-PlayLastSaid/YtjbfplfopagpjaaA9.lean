/- Regions of operations on data: one walk in the text's order serves every order that the region's edges allow. -/
import Derived.Test.YtjbfplfopagpjaaA8
namespace Go.Vd
open Go.RowKit

def WF (r : Option Nat) : Fence := { Fence.wide with round := r }

theorem WF.fn (r : Option Nat) (f : FuncId) : (WF r).fn f := trivial
theorem WF.room (r : Option Nat) (n : Nat) : (WF r).room n := fun _ h => by simp [WF, Fence.wide] at h

/-- What holds of a frame and a world when a state is come to. -/
def PostB (B : Base) (N : Nat) (s : St) (a : Act) (w : World) : Prop := a.tmps.size = N ∧ ∃ ι, Sim B s ι a w

/-- The bases that a walk may stand on, by the rounds that have been yielded. -/
abbrev BB := Nat → Base → Prop
def only (B : Base) : BB := fun _ B' => B' = B
def Post (𝔅 : BB) (N : Nat) (s : St) (a : Act) (w : World) : Prop := a.tmps.size = N ∧ ∃ B ι, 𝔅 s.m.k B ∧ Sim B s ι a w

/-- An operation leads from a state to a state. -/
def Snd (P : Program) (r : Option Nat) (o : Oper) (s s' : St) : Prop :=
  ∀ (B : Base) (N : Nat) (ι : Nat → Con) (a : Act) (w : World) (n : Nat) (Q : Exit → Act → World → Prop), Sim B s ι a w → a.tmps.size = N → (∀ k, o.dst = some k → k < N) →
    o.wpIn (WF r) n P a w (PostB B N s') Q

theorem put_size (a : Act) (dst : Option Nat) (u : Value) : (a.put dst u).tmps.size = a.tmps.size := by
  cases dst <;> simp [Act.put]

theorem Sim.putAny {B : Base} {s : St} {ι : Nat → Con} {a : Act} {w : World} (S : Sim B s ι a w) {dst : Option Nat} (hn : ∀ k, dst = some k → k < a.tmps.size) {d : D} {u : Value}
    (h : RepD w (imS B ι) ι d u) : Sim B (s.put dst d) ι (a.put dst u) w := by
  cases dst with
  | none => exact S
  | some k => exact S.put (hn k rfl) h

theorem snd_of_runs {P : Program} {r : Option Nat} {o : Oper} {s : St} {d : D} {e : List (Nat × Blk)} (hnd : ∀ c, o.op ≠ .defer c) (h : Runs P o s d e) : Snd P r o s ((s.eff e).put o.dst d) := by
  intro B N ι a w n Q S hN hd
  refine ⟨fun f _ => trivial, ?_⟩
  rw [Oper.semAt_eq _ _ _ hnd]
  obtain ⟨u, w', ι', hrun, S', hr⟩ := h B ι a w S
  have hp : PostB B N ((s.eff e).put o.dst d) (a.put o.dst u) w' := ⟨by rw [put_size]; exact hN, ι', S'.putAny (by rw [hN]; exact hd) hr⟩
  rcases hrun with hrun | ⟨hrun, rfl⟩ <;> rw [hrun] <;> exact hp

/-- A step that hangs on what some operands and some blocks are, and on nothing else. -/
structure Step (P : Program) (r : Option Nat) (o : Oper) (E : List (Operand × D)) (F : List (Nat × Blk)) (d : D) (e : List (Nat × Blk)) : Prop where
  ops : ∀ p ∈ E, p.1 ∈ o.op.operands
  snd : ∀ s : St, (∀ p ∈ E, s.ev p.1 = some p.2) → (∀ p ∈ F, s.h p.1 = p.2) → Snd P r o s ((s.eff e).put o.dst d)

def undefD : D := .v (.tup [])

/-- Does an operation run, by its guard? -/
def wantA (ops : List Oper) (s : St) : Option (Nat × Bool) → Option Bool
  | none => some true
  | some (j, want) => match ops[j]? with
    | none => some false
    | some o => match o.dst with
      | none => some false
      | some t => match s.t t with
        | some (.v (.bool b)) => some (b == want)
        | some (.v (.tup [])) => some false
        | _ => none

theorem wantA_sound {B : Base} {s : St} {ι : Nat → Con} {a : Act} {w : World} (S : Sim B s ι a w) {ops : List Oper} {o : Oper} {b : Bool} (h : wantA ops s o.guard = some b) :
    Region.wanted o (yielded ops.toArray a.tmps) = b := by
  unfold Region.wanted
  cases hg : o.guard with
  | none => rw [hg] at h; simpa [wantA] using h
  | some p =>
    obtain ⟨j, want⟩ := p
    rw [hg] at h
    simp only [wantA] at h
    simp only [yielded, List.getElem?_toArray]
    cases hj : ops[j]? with
    | none => rw [hj] at h; simp at h; subst h; simp
    | some oj =>
      rw [hj] at h
      simp only at h
      cases hd : oj.dst with
      | none => rw [hd] at h; simp at h; subst h; simp [hd]
      | some t =>
        rw [hd] at h
        simp only [Option.bind_some, hd] at h ⊢
        split at h
        · rename_i c hc
          cases h
          obtain ⟨u, h1, h2⟩ := S.tmps _ _ hc
          have := (repD_v_inv h2).bool_inv
          subst this
          rw [h1]; cases c <;> cases want <;> rfl
        · rename_i hc
          cases h
          obtain ⟨u, h1, h2⟩ := S.tmps _ _ hc
          have := repD_v_inv h2
          cases this
          rw [h1]; rfl
        · cases h

/-- What a region's author says that each operation reads and turns of the call's own blocks. -/
abbrev Lab := List (List Nat × List Nat)

def labOk (lab : Option Lab) (i : Nat) (F e : List (Nat × Blk)) : Bool := match lab with
  | none => true
  | some L => match L[i]? with
    | some (R, W) => F.all (fun p => R.contains p.1) && e.all (fun p => W.contains p.1)
    | none => F.isEmpty && e.isEmpty

def AStep (P : Program) (r : Option Nat) (ops : List Oper) (lab : Option Lab) (i : Nat) (o : Oper) (s s' : St) : Prop :=
  (wantA ops s o.guard = some true ∧ ∃ E F d e, Step P r o E F d e ∧ (∀ p ∈ E, s.ev p.1 = some p.2) ∧ (∀ p ∈ F, s.h p.1 = p.2) ∧ labOk lab i F e = true ∧ s' = (s.eff e).put o.dst d) ∨
  (wantA ops s o.guard = some false ∧ s' = s.put o.dst undefD)

/-- An operation that runs leads from a state to one of some states: what it makes may hang on what data does not tell. (Only in regions of one order.) -/
def NStep (P : Program) (r : Option Nat) (𝔅 : BB) (ops : List Oper) (lab : Option Lab) (o : Oper) (s : St) (S' : St → Prop) : Prop :=
  lab = none ∧ wantA ops s o.guard = some true ∧ ∀ (N : Nat) (a : Act) (w : World) (n : Nat) (Q : Exit → Act → World → Prop), Post 𝔅 N s a w → (∀ k, o.dst = some k → k < N) →
    o.wpIn (WF r) n P a w (fun a w => ∃ s', S' s' ∧ Post 𝔅 N s' a w) Q

/-- The walk in the text's order. -/
def ARun (P : Program) (r : Option Nat) (𝔅 : BB) (ops : List Oper) (lab : Option Lab) : Nat → List Oper → St → (St → Prop) → Prop
  | _, [], s, K => K s
  | i, o :: rest, s, K => (∃ s', AStep P r ops lab i o s s' ∧ ARun P r 𝔅 ops lab (i + 1) rest s' K) ∨ ∃ S', NStep P r 𝔅 ops lab o s S' ∧ ∀ s', S' s' → ARun P r 𝔅 ops lab (i + 1) rest s' K

/-- The walk in any order. -/
def IRun (P : Program) (r : Option Nat) (𝔅 : BB) (ops : List Oper) (lab : Option Lab) : List Nat → St → (St → Prop) → Prop
  | [], s, K => K s
  | i :: rest, s, K => ∃ o, ops[i]? = some o ∧ ((∃ s', AStep P r ops lab i o s s' ∧ IRun P r 𝔅 ops lab rest s' K) ∨ ∃ S', NStep P r 𝔅 ops lab o s S' ∧ ∀ s', S' s' → IRun P r 𝔅 ops lab rest s' K)

section
variable {P : Program} {r : Option Nat} {𝔅 : BB} {ops : List Oper} {lab : Option Lab}

theorem irun_of_arun : ∀ (l : List Oper) (i : Nat) (s : St) (K : St → Prop), (∀ j, l[j]? = ops[i + j]?) → ARun P r 𝔅 ops lab i l s K → IRun P r 𝔅 ops lab (List.range' i l.length) s K
  | [], _, _, _, _, h => h
  | o :: l, i, s, K, hl, h => by
    have hl' : ∀ j, l[j]? = ops[i + 1 + j]? := fun j => by have := hl (j + 1); simpa [Nat.add_assoc, Nat.add_comm 1 j] using this
    refine ⟨o, by simpa using (hl 0).symm, ?_⟩
    rcases h with ⟨s', h1, h2⟩ | ⟨S', h1, h2⟩
    · exact .inl ⟨s', h1, irun_of_arun l (i + 1) s' K hl' h2⟩
    · exact .inr ⟨S', h1, fun s' hs' => irun_of_arun l (i + 1) s' K hl' (h2 s' hs')⟩

def dstOk (N : Nat) (ops : List Oper) : Bool := ops.all fun o => match o.dst with | some k => Nat.blt k N | none => true

theorem dstOk_spec {N : Nat} (h : dstOk N ops = true) {o : Oper} (ho : o ∈ ops) : ∀ k, o.dst = some k → k < N := fun k hk => by
  have := List.all_eq_true.1 h o ho
  rw [hk] at this
  exact Nat.le_of_ble_eq_true this

theorem wpIn_of_irun {N n : Nat} {Q : Exit → Act → World → Prop} (hd : dstOk N ops = true) : ∀ (l : List Nat) (s : St) (K : St → Prop) (a : Act) (w : World), Post 𝔅 N s a w →
    (∀ s' a' w', K s' → Post 𝔅 N s' a' w' → Q .normal a' w') → IRun P r 𝔅 ops lab l s K → wpOpsIn (WF r) n P ops.toArray Q l a w
  | [], s, K, a, w, hp, hK, h => hK s a w h hp
  | i :: rest, s, K, a, w, hp, hK, ⟨o, ho, .inr ⟨S', ⟨_, hw, hst⟩, hrest⟩⟩ => by
    rw [wpOpsIn_cons]
    have ho' : ops.toArray[i]? = some o := by simpa using ho
    have hdst := dstOk_spec hd (List.mem_of_getElem? ho)
    unfold wpOpIn
    simp only [ho']
    obtain ⟨hN, B, ι, hB, S⟩ := hp
    rw [wantA_sound S hw, if_pos rfl]
    exact Oper.wpIn_mono (fun a' w' ⟨s', hs', hp'⟩ => wpIn_of_irun hd rest s' K a' w' hp' hK (hrest s' hs')) (hst N a w n Q ⟨hN, B, ι, hB, S⟩ hdst)
  | i :: rest, s, K, a, w, ⟨hN, B, ι, hB, S⟩, hK, ⟨o, ho, .inl ⟨s', hst, hrest⟩⟩ => by
    rw [wpOpsIn_cons]
    have ho' : ops.toArray[i]? = some o := by simpa using ho
    have go : 𝔅 s'.m.k B → ∀ a' w', PostB B N s' a' w' → wpOpsIn (WF r) n P ops.toArray Q rest a' w' := fun hB' a' w' ⟨h1, ι', h2⟩ => wpIn_of_irun hd rest s' K a' w' ⟨h1, B, ι', hB', h2⟩ hK hrest
    have hdst := dstOk_spec hd (List.mem_of_getElem? ho)
    have hm : ∀ (s : St) (d : Option Nat) (x : D), (s.put d x).m = s.m := fun s d x => by cases d <;> rfl
    unfold wpOpIn
    simp only [ho']
    rcases hst with ⟨hw, E, F, d, e, hs, hE, hF, _, rfl⟩ | ⟨hw, rfl⟩
    · rw [wantA_sound S hw, if_pos rfl]
      exact Oper.wpIn_mono (go (by rw [hm]; exact hB)) (hs.snd s hE hF B N ι a w n Q S hN hdst)
    · rw [wantA_sound S hw, if_neg (by simp)]
      exact ⟨fun _ _ => trivial, go (by rw [hm]; exact hB) _ _ ⟨by rw [put_size]; exact hN, ι, S.putAny (by rw [hN]; exact hdst) (.v (.tup [] #[] rfl (by simp)))⟩⟩

/-! ### Any order -/

def AAny (P : Program) (r : Option Nat) (ops : List Oper) (lab : Option Lab) (K : St → Prop) : Nat → Array Bool → St → Prop
  | 0, listed, s => Region.ready .any ops.toArray listed = [] ∧ K s
  | fuel + 1, listed, s => (Region.ready .any ops.toArray listed = [] → K s) ∧
    ∀ i ∈ Region.ready .any ops.toArray listed, ∃ o s', ops[i]? = some o ∧ AStep P r ops lab i o s s' ∧ AAny P r ops lab K fuel (listed.setIfInBounds i true) s'

theorem AAny_sound {K : St → Prop} : ∀ (fuel t : Nat) (listed : Array Bool) (s : St), AAny P r ops lab K fuel listed s → IRun P r 𝔅 ops lab (Region.linearise.go .any ops.toArray fuel t listed []) s K := by
  intro fuel
  induction fuel with
  | zero => intro t listed s h; simpa [Region.linearise.go, IRun] using h.2
  | succ fuel ih =>
    intro t listed s h
    obtain ⟨h₀, h₁⟩ := h
    simp only [Region.linearise.go]
    change IRun P r 𝔅 ops lab (match (Region.ready .any ops.toArray listed)[t % (Region.ready .any ops.toArray listed).length]? with
      | some i => Region.linearise.go .any ops.toArray fuel (t / (Region.ready .any ops.toArray listed).length) (listed.setIfInBounds i true) [i]
      | none => [].reverse) s K
    cases hi : (Region.ready .any ops.toArray listed)[t % (Region.ready .any ops.toArray listed).length]? with
    | none =>
      have hnil : Region.ready .any ops.toArray listed = [] := by
        cases hr : Region.ready .any ops.toArray listed with
        | nil => rfl
        | cons x xs =>
          rw [hr] at hi
          have hlt : t % (x :: xs).length < (x :: xs).length := Nat.mod_lt _ (by simp)
          simp at hi
          simp at hlt
          omega
      simpa [IRun] using h₀ hnil
    | some i =>
      simp only []
      rw [linearise_go_acc, List.reverse_singleton, List.singleton_append]
      obtain ⟨o, s', h1, h2, h3⟩ := h₁ i (List.mem_of_getElem? hi)
      exact ⟨o, h1, .inl ⟨s', h2, ih _ _ s' h3⟩⟩

/-- Two operations that touch nothing in common. -/
def apartA (ops : List Oper) (L : Lab) (i j : Nat) (oi oj : Oper) : Bool :=
  oi.apart ops.toArray oj && (match L[i]?, L[j]? with
    | some (Ri, Wi), some (Rj, Wj) => Wi.all (fun x => !Rj.contains x && !Wj.contains x) && Wj.all (fun x => !Ri.contains x)
    | _, _ => true)

theorem effs_other : ∀ (e : List (Nat × Blk)) (h : Nat → Blk) (i : Nat), (∀ p ∈ e, p.1 ≠ i) → effs e h i = h i
  | [], _, _, _ => rfl
  | (j, b) :: r, h, i, hne => by
    rw [effs, effs_other r _ i (fun p hp => hne p (List.mem_cons_of_mem _ hp)), upd_ne _ _ (Ne.symm (hne (j, b) List.mem_cons_self))]

theorem effs_upd : ∀ (e : List (Nat × Blk)) (h : Nat → Blk) (i : Nat) (b : Blk), (∀ p ∈ e, p.1 ≠ i) → effs e (upd h i b) = upd (effs e h) i b
  | [], _, _, _, _ => rfl
  | (j, c) :: r, h, i, b, hne => by
    rw [effs, effs, upd_comm _ _ _ (Ne.symm (hne (j, c) List.mem_cons_self)), effs_upd r _ i b (fun p hp => hne p (List.mem_cons_of_mem _ hp))]

theorem effs_comm : ∀ (e e' : List (Nat × Blk)) (h : Nat → Blk), (∀ p ∈ e, ∀ q ∈ e', p.1 ≠ q.1) → effs e' (effs e h) = effs e (effs e' h)
  | [], _, _, _ => rfl
  | (j, c) :: r, e', h, hne => by
    rw [effs, effs_comm r e' _ (fun p hp => hne p (List.mem_cons_of_mem _ hp)), effs, effs_upd e' h j c (fun q hq => Ne.symm (hne (j, c) List.mem_cons_self q hq))]

theorem put_put {s : St} {x y : Option Nat} {d d' : D} (h : ∀ k, x = some k → y ≠ some k) : (s.put x d).put y d' = (s.put y d').put x d := by
  cases x with
  | none => rfl
  | some i => cases y with
    | none => rfl
    | some j =>
      have hne : i ≠ j := fun e => h i rfl (by rw [e])
      simp only [St.put]
      rw [upd_comm _ _ _ hne]

theorem put_eff {s : St} {x : Option Nat} {d : D} {e : List (Nat × Blk)} : (s.put x d).eff e = (s.eff e).put x d := by
  cases x <;> rfl

theorem ev_put {s : St} {dst : Option Nat} {d : D} {x : Operand} (h : ∀ k, dst = some k → x ≠ .tmp k) : (s.put dst d).ev x = s.ev x := by
  cases dst with
  | none => rfl
  | some k =>
    cases x with
    | tmp t =>
      have hne : t ≠ k := fun e => h k rfl (by rw [e])
      show upd s.t k (some d) t = s.t t
      exact upd_ne _ _ hne
    | _ => rfl

theorem ev_eff {s : St} {e : List (Nat × Blk)} {x : Operand} : (s.eff e).ev x = s.ev x := by cases x <;> rfl

theorem wantA_put {s : St} {o : Oper} {dst : Option Nat} {d : D} (h : ∀ k, dst = some k → k ∉ o.looksAt ops.toArray) : wantA ops (s.put dst d) o.guard = wantA ops s o.guard := by
  cases hg : o.guard with
  | none => rfl
  | some p =>
    obtain ⟨j, want⟩ := p
    simp only [wantA]
    cases hj : ops[j]? with
    | none => rfl
    | some oj =>
      simp only
      cases hd : oj.dst with
      | none => rfl
      | some t =>
        have : (s.put dst d).t t = s.t t := by
          cases dst with
          | none => rfl
          | some k =>
            refine upd_ne _ _ fun e => h k rfl ?_
            simp [Oper.looksAt, hg, hj, hd, e]
        simp only [this]

theorem wantA_eff {s : St} {e : List (Nat × Blk)} {g : Option (Nat × Bool)} : wantA ops (s.eff e) g = wantA ops s g := by
  cases g with
  | none => rfl
  | some p => rfl

theorem mem_looks {o : Oper} {k : Nat} (h : Operand.tmp k ∈ o.op.operands) : k ∈ o.looksAt ops.toArray := by
  unfold Oper.looksAt
  exact List.mem_append_left _ (List.mem_filterMap.2 ⟨.tmp k, by simpa using h, rfl⟩)

theorem AStep_swap {L : Lab} (hlab : lab = some L) {i j : Nat} {oi oj : Oper} {s s1 s2 : St} (hap : apartA ops L i j oi oj = true) (h1 : AStep P r ops lab i oi s s1) (h2 : AStep P r ops lab j oj s1 s2) :
    ∃ s', AStep P r ops lab j oj s s' ∧ AStep P r ops lab i oi s' s2 := by
  subst hlab
  simp only [apartA, Bool.and_eq_true] at hap
  obtain ⟨hap, hl⟩ := hap
  obtain ⟨a1, a2, a3⟩ := Oper.apart_spec hap
  -- what i has put makes no difference to j, and what j puts makes none to i
  have evj : ∀ (s : St) d e x, x ∈ oj.op.operands → ((s.eff e).put oi.dst d).ev x = s.ev x := fun s d e x hx => by
    rw [ev_put fun k hk hxk => a1 k hk (mem_looks (by rw [← hxk]; exact hx)), ev_eff]
  have evi : ∀ (s : St) d e x, x ∈ oi.op.operands → ((s.eff e).put oj.dst d).ev x = s.ev x := fun s d e x hx => by
    rw [ev_put fun k hk hxk => a3 k hk (mem_looks (by rw [← hxk]; exact hx)), ev_eff]
  have wj : ∀ (s : St) d e, wantA ops ((s.eff e).put oi.dst d) oj.guard = wantA ops s oj.guard := fun s d e => by rw [wantA_put a1, wantA_eff]
  have wi : ∀ (s : St) d e, wantA ops ((s.eff e).put oj.dst d) oi.guard = wantA ops s oi.guard := fun s d e => by rw [wantA_put a3, wantA_eff]
  have hput : ∀ (s : St) (dst : Option Nat) d, (s.put dst d) = (s.eff []).put dst d := fun s dst d => by cases dst <;> rfl
  -- labels
  have lab1 : ∀ {k : Nat} {F e : List (Nat × Blk)} {R W : List Nat}, L[k]? = some (R, W) → labOk (some L) k F e = true → (∀ p ∈ F, p.1 ∈ R) ∧ ∀ p ∈ e, p.1 ∈ W := fun hk h => by
    simp only [labOk, hk, Bool.and_eq_true, List.all_eq_true, List.contains_iff_mem] at h
    exact h
  have lab0 : ∀ {k : Nat} {F e : List (Nat × Blk)}, L[k]? = none → labOk (some L) k F e = true → F = [] ∧ e = [] := fun hk h => by
    simpa [labOk, hk] using h
  have dis : ∀ {Fi ei Fj ej : List (Nat × Blk)}, labOk (some L) i Fi ei = true → labOk (some L) j Fj ej = true →
      (∀ p ∈ ei, ∀ q ∈ Fj, p.1 ≠ q.1) ∧ (∀ p ∈ ei, ∀ q ∈ ej, p.1 ≠ q.1) ∧ (∀ p ∈ ej, ∀ q ∈ Fi, p.1 ≠ q.1) := by
    intro Fi ei Fj ej h1 h2
    cases hi : L[i]? with
    | none => obtain ⟨rfl, rfl⟩ := lab0 hi h1; simp
    | some pi =>
      obtain ⟨Ri, Wi⟩ := pi
      cases hj : L[j]? with
      | none => obtain ⟨rfl, rfl⟩ := lab0 hj h2; simp
      | some pj =>
        obtain ⟨Rj, Wj⟩ := pj
        obtain ⟨b1, b2⟩ := lab1 hi h1
        obtain ⟨b3, b4⟩ := lab1 hj h2
        rw [hi, hj] at hl
        simp only [Bool.and_eq_true, List.all_eq_true, Bool.not_eq_true'] at hl
        refine ⟨fun p hp q hq e => ?_, fun p hp q hq e => ?_, fun p hp q hq e => ?_⟩
        · have := (hl.1 p.1 (b2 p hp)).1
          rw [e] at this
          have h3 := b3 q hq
          rw [← List.contains_iff_mem] at h3
          rw [h3] at this; cases this
        · have := (hl.1 p.1 (b2 p hp)).2
          rw [e] at this
          have h3 := b4 q hq
          rw [← List.contains_iff_mem] at h3
          rw [h3] at this; cases this
        · have := hl.2 p.1 (b4 p hp)
          rw [e] at this
          have h3 := b1 q hq
          rw [← List.contains_iff_mem] at h3
          rw [h3] at this; cases this
  rcases h1 with ⟨hw1, Ei, Fi, di, ei, hsi, hEi, hFi, hli, rfl⟩ | ⟨hw1, rfl⟩ <;> rcases h2 with ⟨hw2, Ej, Fj, dj, ej, hsj, hEj, hFj, hlj, rfl⟩ | ⟨hw2, rfl⟩
  · obtain ⟨d1, d2, d3⟩ := dis hli hlj
    refine ⟨(s.eff ej).put oj.dst dj, .inl ⟨by rw [← wj s di ei]; exact hw2, Ej, Fj, dj, ej, hsj, fun p hp => ?_, fun p hp => ?_, hlj, rfl⟩, .inl ⟨by rw [wi]; exact hw1, Ei, Fi, di, ei, hsi, fun p hp => ?_, fun p hp => ?_, hli, ?_⟩⟩
    · rw [← evj s di ei p.1 (hsj.ops p hp)]; exact hEj p hp
    · have := hFj p hp
      have e1 : ((s.eff ei).put oi.dst di).h p.1 = s.h p.1 := by
        have : ((s.eff ei).put oi.dst di).h = effs ei s.h := by cases oi.dst <;> rfl
        rw [this]
        exact effs_other ei s.h p.1 (fun q hq => d1 q hq p hp)
      rw [← e1]; exact this
    · rw [evi _ _ _ _ (hsi.ops p hp)]; exact hEi p hp
    · have : ((s.eff ej).put oj.dst dj).h = effs ej s.h := by cases oj.dst <;> rfl
      rw [this, effs_other ej s.h p.1 (fun q hq => d3 q hq p hp)]; exact hFi p hp
    · rw [put_eff, put_eff, put_put a2]
      have : (s.eff ei).eff ej = (s.eff ej).eff ei := by
        simp only [St.eff]
        rw [effs_comm ei ej s.h d2]
      rw [this]
  · refine ⟨s.put oj.dst undefD, .inr ⟨by rw [← wj s di ei]; exact hw2, rfl⟩, .inl ⟨by rw [hput, wi]; exact hw1, Ei, Fi, di, ei, hsi, fun p hp => ?_, fun p hp => ?_, hli, ?_⟩⟩
    · rw [hput, evi _ _ _ _ (hsi.ops p hp)]; exact hEi p hp
    · have : (s.put oj.dst undefD).h = s.h := by cases oj.dst <;> rfl
      rw [this]; exact hFi p hp
    · rw [put_eff, put_put a2]
  · refine ⟨(s.eff ej).put oj.dst dj, .inl ⟨by rw [hput, wj] at hw2; exact hw2, Ej, Fj, dj, ej, hsj, fun p hp => ?_, fun p hp => ?_, hlj, rfl⟩, .inr ⟨by rw [wi]; exact hw1, ?_⟩⟩
    · have := hEj p hp
      rw [hput, evj _ _ _ _ (hsj.ops p hp)] at this; exact this
    · have := hFj p hp
      have e1 : (s.put oi.dst undefD).h = s.h := by cases oi.dst <;> rfl
      rw [e1] at this; exact this
    · rw [put_eff, put_put a2]
  · refine ⟨s.put oj.dst undefD, .inr ⟨by rw [hput, wj] at hw2; exact hw2, rfl⟩, .inr ⟨by rw [hput s, wi]; exact hw1, ?_⟩⟩
    rw [put_put a2]

theorem AAny_first {K : St → Prop} {L : Lab} (hlab : lab = some L) {i : Nat} {oi : Oper} (hi : ops[i]? = some oi) (W : Nat → Prop)
    (hW : ∀ j oj, ops[j]? = some oj → W j → ∃ e ∈ oj.after, Region.binds .any e = true ∧ (e.on = i ∨ W e.on)) :
    ∀ (fuel : Nat) (listed : Array Bool) (s s1 : St), (∀ j, W j → listed.getD j true = false) →
      (∀ j oj, ops[j]? = some oj → j ≠ i → listed.getD j true = false → ¬ W j → apartA ops L i j oi oj = true) →
      i ∈ Region.ready .any ops.toArray listed → AStep P r ops lab i oi s s1 →
      AAny P r ops lab K fuel (listed.setIfInBounds i true) s1 → AAny P r ops lab K (fuel + 1) listed s := by
  intro fuel
  induction fuel with
  | zero =>
    intro listed s s1 _ _ hr hy H
    refine ⟨fun h => (by rw [h] at hr; cases hr), fun j hj => ?_⟩
    by_cases hji : j = i
    · subst hji; exact ⟨oi, s1, hi, hy, H⟩
    · have := ready_mono hj hji
      rw [H.1] at this
      cases this
  | succ fuel ih =>
    intro listed s s1 hWl hfree hr hy H
    refine ⟨fun h => (by rw [h] at hr; cases hr), fun j hj => ?_⟩
    by_cases hji : j = i
    · subst hji; exact ⟨oi, s1, hi, hy, H⟩
    · obtain ⟨oj, s2, hoj, hst, hrest⟩ := H.2 j (ready_mono hj hji)
      obtain ⟨hjun, oj', hoj', hall⟩ := mem_ready.1 hj
      have : oj' = oj := by
        have h' : ops[j]? = some oj' := by simpa using hoj'
        rw [hoj] at h'; cases h'; rfl
      subst this
      have hno : ∀ q, listed.getD q true = false → ∀ e ∈ oj'.after, Region.binds .any e = true → e.on ≠ q := fun q h0 e he hb heq => by
        have h1 := hall e he hb
        rw [heq] at h1
        rcases Nat.lt_or_ge q listed.size with h' | h'
        · simp [h'] at h0 h1; rw [h0] at h1; cases h1
        · simp [Array.getElem?_eq_none h'] at h1
      have hnW : ¬ W j := fun hw => by
        obtain ⟨e, he, hb, h | h⟩ := hW j oj' hoj hw
        · exact hno i (mem_ready.1 hr).1 e he hb h
        · exact hno e.on (hWl _ h) e he hb rfl
      obtain ⟨s', h3, h4⟩ := AStep_swap hlab (hfree j oj' hoj hji hjun hnW) hy hst
      have hfree' : ∀ k ok, ops[k]? = some ok → k ≠ i → (listed.setIfInBounds j true).getD k true = false → ¬ W k → apartA ops L i k oi ok = true := fun k ok hk hki hun hno => by
        refine hfree k ok hk hki ?_ hno
        by_cases hjk : j = k
        · subst hjk; exact hjun
        · rw [getD_set_ne true hjk] at hun; exact hun
      have hWl' : ∀ k, W k → (listed.setIfInBounds j true).getD k true = false := fun k hk => by
        have hjk : j ≠ k := fun e => hnW (e ▸ hk)
        rw [getD_set_ne true hjk]; exact hWl k hk
      refine ⟨oj', s', hoj, h3, ih (listed.setIfInBounds j true) s' s2 hWl' hfree' (ready_mono hr (Ne.symm hji)) h4 ?_⟩
      rw [Array.setIfInBounds_comm _ _ hji]
      exact hrest

/-- Does operation j wait for operation k, through some that are not listed yet? -/
def waitsOn (ops : List Oper) (listed : Array Bool) (k : Nat) : Nat → Nat → Bool
  | 0, _ => false
  | n + 1, j => match ops[j]? with
    | none => false
    | some oj => oj.after.any (fun e => Region.binds .any e && Nat.beq e.on k) || oj.after.any (fun e => Region.binds .any e && (!listed.getD e.on true && waitsOn ops listed k n e.on))

theorem waitsOn_spec {listed : Array Bool} {k : Nat} : ∀ {n j : Nat} {oj : Oper}, ops[j]? = some oj → waitsOn ops listed k n j = true →
    ∃ e ∈ oj.after, Region.binds .any e = true ∧ (e.on = k ∨ (listed.getD e.on true = false ∧ ∃ n, waitsOn ops listed k n e.on = true))
  | 0, _, _, _, h => by cases h
  | n + 1, j, oj, ho, h => by
    simp only [waitsOn, ho, Bool.or_eq_true, Array.any_eq_true, Bool.and_eq_true, Bool.not_eq_true'] at h
    rcases h with ⟨q, hq, h3, h4⟩ | ⟨q, hq, h3, h4, h5⟩
    · exact ⟨_, Array.getElem_mem hq, h3, .inl (Nat.eq_of_beq_eq_true h4)⟩
    · exact ⟨_, Array.getElem_mem hq, h3, .inr ⟨h4, n, h5⟩⟩

/-- May operation k be taken first? -/
def freeA (ops : List Oper) (L : Lab) (k : Nat) (listed : Array Bool) : Bool :=
  match ops[k]? with
  | none => false
  | some ok => (List.range ops.length).all fun j => Nat.beq j k || listed.getD j true || (match ops[j]? with
    | none => true
    | some oj => apartA ops L k j ok oj || waitsOn ops listed k 4 j)

def lexA (ops : List Oper) (L : Lab) : Nat → Nat → Array Bool → Bool
  | 0, _, listed => (Region.ready .any ops.toArray listed).isEmpty
  | n + 1, k, listed => (Region.ready .any ops.toArray listed).contains k && freeA ops L k listed && lexA ops L n (k + 1) (listed.setIfInBounds k true)

theorem AAny_lex {K : St → Prop} {L : Lab} (hlab : lab = some L) : ∀ (l : List Oper) (k : Nat) (listed : Array Bool) (s : St), (∀ j, l[j]? = ops[k + j]?) →
    lexA ops L l.length k listed = true → ARun P r 𝔅 ops lab k l s K → AAny P r ops lab K l.length listed s
  | [], _, _, _, _, hB, h => ⟨by simpa [lexA] using hB, h⟩
  | o :: l, k, listed, s, hl, hB, .inr ⟨_, h1, _⟩ => by rw [hlab] at h1; cases h1.1
  | o :: l, k, listed, s, hl, hB, .inl ⟨s1, h1, h2⟩ => by
    have h0 : ops[k]? = some o := by simpa using (hl 0).symm
    simp only [List.length_cons, lexA, Bool.and_eq_true] at hB
    obtain ⟨⟨hr, hf⟩, hB'⟩ := hB
    refine AAny_first hlab h0 (fun j => listed.getD j true = false ∧ ∃ n, waitsOn ops listed k n j = true) (fun j oj hj ⟨_, n, hw⟩ => waitsOn_spec hj hw) l.length listed s s1 (fun j hj => hj.1) (fun j oj hj hjk hun hno => ?_) (by simpa using hr) h1
      (AAny_lex hlab l (k + 1) _ s1 (fun j => by have := hl (j + 1); simpa [Nat.add_assoc, Nat.add_comm 1 j] using this) hB' h2)
    simp only [freeA, h0, List.all_eq_true, List.mem_range] at hf
    have := hf j (List.getElem?_eq_some_iff.1 hj).1
    simp only [hj, Bool.or_eq_true] at this
    rcases this with (h | h) | h | h
    · exact absurd (Nat.eq_of_beq_eq_true h) hjk
    · rw [hun] at h; cases h
    · exact h
    · exact absurd ⟨hun, 4, h⟩ hno

end
end Go.Vd
