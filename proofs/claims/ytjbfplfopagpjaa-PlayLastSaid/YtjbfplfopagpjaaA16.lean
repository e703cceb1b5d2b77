/- Ranges over functions, over data: what an iterator does to its caller, and a caller to its iterator. -/
import Derived.Test.YtjbfplfopagpjaaA15
import Derived.RangeFuncSeq
namespace Go.Vd
open Go.RowKit

def owned (ι : Nat → Con) (b : Nat) : Prop := ∃ id, (ι id).blk = some b

/-- A walk goes on from a world in which others have done what they do. -/
theorem Sim.rebase {B : Base} {s : St} {ι : Nat → Con} {a : Act} {w : World} (S : Sim B s ι a w) {w' : World} {im' : Nat → Prop}
    (hw : ∀ b, b < w.heap.size → (imS B ι b ∨ owned ι b) → w'.heap[b]? = w.heap[b]?) (hsz : w.heap.size ≤ w'.heap.size) (him : ∀ b, imS B ι b → b < w.heap.size → im' b) (hd : a.defers = []) :
    Sim ⟨w', im', owned ι⟩ s ι a w' := by
  have hk : ∀ b, imS B ι b → b < w.heap.size → imS ⟨w', im', owned ι⟩ ι b ∧ w'.heap[b]? = w.heap[b]? := fun b hb hlt => ⟨⟨.inl (him b hb hlt), hb.2⟩, hw b hlt (.inl hb)⟩
  refine ⟨rfl, rfl, rfl, Nat.le_refl _, fun _ _ _ => rfl, S.inj, fun id b h => ⟨Nat.lt_of_lt_of_le (S.bnd id b h).1 hsz, .inr ⟨id, h⟩⟩, fun id => ?_, fun n d hn => ?_, S.marks, S.pins, fun d h => by rw [hd] at h; cases h⟩
  · exact (S.blks id).mono hk (fun _ _ => .inl rfl) fun k hkk => hw k (S.bnd id k hkk).1 (.inr ⟨id, hkk⟩)
  · obtain ⟨u, h1, h2⟩ := S.tmps n d hn
    exact ⟨u, h1, h2.mono hk fun _ _ => .inl rfl⟩

/-- A call of yield is met, whoever the caller is. -/
def Yields (P : Program) (𝔅 : BB) (l : Nat) (xs : List (List V)) : Prop :=
  ∀ k x, xs[k]? = some x → ∀ (N : Nat) (s : St) (a : Act) (w : World) (args : Array Value) (n : Nat), s.m.k = k + 1 → Post 𝔅 N s a w → a.defers = [] → (∀ B ι, Sim B s ι a w → PW (RepV w (imS B ι)) x args.toList) →
    YieldAt (WF none) n P l args w fun e w' => ∃ b : Bool, e = .returned (.bool b) ∧ Post 𝔅 N { s with m := { s.m with k := if b then k + 2 else 0 } } a w'

section
variable {P : Program} {tab : Tab} {𝔅 : BB} {ops : List Oper} {lab : Option Lab} {i : Nat} {o : Oper} {rest : List Oper} {tl : List (Nat × D)} {hl : List (Nat × Blk)} {d : Nat} {K : St → Prop} {k : Nat}

theorem ar_yield {l q : Nat} {x : Operand} {args : Array Operand} {ats : Array TypeId} {E : List (Operand × D)} {vs : List V} {xs : List (List V)} {j : Nat} (hy : Yields P 𝔅 l xs) (hj : xs[j]? = some vs)
    (ho : o.op = .call { callee := .value x, args := args, argTypes := ats }) (hx : (mk tl hl ⟨d, q, []⟩).ev x = some (.v (.fn (.yield l) [] []))) (hE : evsE (mk tl hl ⟨d, q, []⟩) args.toList = some E) (ha : vwL (hF []) (E.map (·.2)) = some vs) (hq : q = j + 1) (h0 : d = 0)
    (hlab : lab = none) (hd : o.dst = some k) (hg : wantA ops (mk tl hl ⟨d, q, []⟩) o.guard = some true)
    (ht : ARun P none 𝔅 ops lab (i + 1) rest (mk ((k, .v (.bool true)) :: tl) hl ⟨d, j + 2, []⟩) K) (hf : ARun P none 𝔅 ops lab (i + 1) rest (mk ((k, .v (.bool false)) :: tl) hl ⟨d, 0, []⟩) K) :
    ARun P none 𝔅 ops lab i (o :: rest) (mk tl hl ⟨d, q, []⟩) K := by
  refine .inr ⟨fun s' => ∃ b : Bool, s' = mk ((k, .v (.bool b)) :: tl) hl ⟨d, if b then j + 2 else 0, []⟩, ⟨hlab, hg, fun N a w n Q hp hd' => ?_⟩, ?_⟩
  · subst h0
    refine ⟨fun _ _ => trivial, ?_⟩
    rw [Oper.semAt_eq _ _ _ (by rw [ho]; simp)]
    obtain ⟨hE1, hE2⟩ := evsE_spec hE
    have hp0 := hp
    obtain ⟨hN, B, ι, hB, S⟩ := hp
    have hfn := repD_v_inv (S.ev hx)
    generalize hu : a.eval x = u at hfn
    have hargs : ∀ B ι, Sim B (mk tl hl ⟨0, q, []⟩) ι a w → PW (RepV w (imS B ι)) vs (args.map a.eval).toList := by
      intro B ι S
      obtain ⟨h1, h2⟩ := vwL_get ha
      rw [Array.toList_map, ← hE1]
      refine ⟨by simp only [List.length_map] at h1 ⊢; omega, fun i v u' hv hu' => ?_⟩
      have hlt : i < E.length := by have := (List.getElem?_eq_some_iff.1 hv).1; simp only [List.length_map] at h1; omega
      obtain ⟨v', h3, h4⟩ := h2 i E[i].2 (by simp [hlt])
      rw [h3] at hv; cases hv
      simp only [List.getElem?_map, List.getElem?_eq_getElem hlt, Option.map_some, Option.some.injEq] at hu'
      subst hu'
      exact vw_sound S (fun _ => .inl rfl) (fun _ h => h) (fun id b h => absurd rfl h) (S.ev (hE2 E[i] (List.getElem_mem hlt))) v h4
    cases hfn with
    | fn _ _ _ us ws hs1 hs2 hv1 hv2 =>
      have hus : us = #[] := Array.eq_empty_of_size_eq_zero (by simpa using hs1)
      have hws : ws = #[] := Array.eq_empty_of_size_eq_zero (by simpa using hs2)
      subst hus; subst hws
      have hdef : a.defers = [] := List.eq_nil_of_length_eq_zero S.marks
      obtain ⟨fn, tm, as, bd, hr, hround⟩ := hy j vs hj N _ a w (args.map a.eval) (n - 1) hq hp0 hdef hargs
      have hrun : (execOp a.eval o).run P w = .ok (.round l fn tm as bd) w := by
        simp [execOp, ho, resolve, hu, Deferred.ofValue, invoke, hr]
      rw [hrun]
      refine ⟨fun h => by simp [WF, Fence.wide] at h, hround.mono ?_⟩
      rintro e w' ⟨b, rfl, hN', B', ι', hB', S'⟩
      refine ⟨_, ⟨b, rfl⟩, by rw [put_size]; exact hN', B', ι', hB', ?_⟩
      have := S'.putAny (dst := o.dst) (by rw [hN']; exact hd') (d := .v (.bool b)) (u := .bool b) (.v (.bool _))
      rw [hd] at this ⊢
      exact this
  · rintro s' ⟨b, rfl⟩
    cases b with
    | true => exact ht
    | false => exact hf

/-! ### The iterator's contract -/

/-- What an iterator's caller keeps: after so many rounds (one less), what is known never to turn, what is the caller's own. -/
abbrev JJ := Nat → (Nat → Prop) → (Nat → Prop) → World → Prop

def Abides (l : Nat) (J : JJ) : Prop := ∀ n im φ (w : World) im' (w' : World), J n im φ w → w.heap.size ≤ w'.heap.size → w'.os = w.os → w'.tape = w.tape → w'.output = w.output →
  (∀ b, b < w.heap.size → (b ≤ l ∨ im b ∨ φ b) → w'.heap[b]? = w.heap[b]?) → (∀ b, im b → im' b) → (∀ b, im' b → im b ∨ (l < b ∧ ¬ φ b)) → (∀ b, im' b → b < w'.heap.size) → J n im' φ w'

def Rounds (P : Program) (l : Nat) (xs : List (List V)) (J : JJ) : Prop := ∀ k x im φ (w : World) (args : Array Value) (n : Nat), xs[k]? = some x → J (k + 1) im φ w → PW (RepV w im) x args.toList →
  YieldAt (WF none) n P l args w fun e w' => ∃ (b : Bool) (φ' : Nat → Prop), e = .returned (.bool b) ∧ J (if b then k + 2 else 0) im φ' w' ∧ w.heap.size ≤ w'.heap.size ∧
    (∀ c, c < w.heap.size → ¬ φ c → c ≠ l → w'.heap[c]? = w.heap[c]?) ∧ (∀ c, φ' c → φ c ∨ w.heap.size ≤ c) ∧ (∀ c, φ' c → c < w'.heap.size)

def IterC (P : Program) (g : FuncId) (caps : List V) (xs : List (List V)) : Prop :=
  (∀ args w, (callFunc g args).run P w = .ok (.enter g args) w) ∧
  ∀ (l : Nat) (W : World) (im φ : Nat → Prop) (J : JJ) (lb : Array Value), W.heap.size = l + 1 → (∀ b, im b → b < l ∧ ¬ φ b) → (∀ b, φ b → b < l) → PW (RepV W im) caps lb.toList → Abides l J → Rounds P l xs J → J 1 im φ W →
    Calls P g (#[.func (.yield l) #[] #[]] ++ lb) W fun e w' => (∃ v, e = .returned v) ∧ ∃ n im' φ', (n = xs.length + 1 ∨ n = 0) ∧ J n im' φ' w'

/-- The bases of an iterator's walk. -/
def iterB (l : Nat) (J : JJ) : BB := fun n B => ∃ φ, J n B.im0 φ B.w0 ∧ l < B.w0.heap.size ∧ (∀ b, B.im0 b → b < B.w0.heap.size ∧ b ≠ l ∧ ¬ φ b ∧ ¬ B.own0 b) ∧ (∀ b, B.own0 b → l < b ∧ ¬ φ b) ∧ (∀ b, φ b → b < B.w0.heap.size)

/-- What the caller keeps, at the iterator's world now. -/
theorem iterB_now {l : Nat} {J : JJ} (hA : Abides l J) {n : Nat} {B : Base} (hB : iterB l J n B) {s : St} {ι : Nat → Con} {a : Act} {w : World} (S : Sim B s ι a w) :
    ∃ φ, J n (fun b => imS B ι b ∧ b < w.heap.size) φ w ∧ l < w.heap.size ∧ (∀ b, imS B ι b → b ≠ l ∧ ¬ φ b) ∧ (∀ b, owned ι b → l < b ∧ ¬ φ b) ∧ (∀ b, φ b → b < w.heap.size) := by
  obtain ⟨φ, hJ, hl, him, hown, hφ⟩ := hB
  have hs := S.size
  have ho : ∀ b, owned ι b → l < b ∧ ¬ φ b := by
    rintro b ⟨id, hid⟩
    rcases (S.bnd id b hid).2 with h | h
    · exact ⟨by omega, fun hp => by have := hφ b hp; omega⟩
    · exact hown b h
  have hi0 : ∀ b, B.im0 b → imS B ι b := fun b hb => ⟨.inl hb, fun id hid => by
    obtain ⟨h1, h2, h3, h4⟩ := him b hb
    rcases (S.bnd id b hid).2 with h | h
    · omega
    · exact h4 h⟩
  have hi1 : ∀ b, imS B ι b → B.im0 b ∨ (l < b ∧ ¬ φ b) := by
    rintro b ⟨hb, _⟩
    rcases hb with h | h | h
    · exact .inl h
    · exact .inr ⟨by omega, fun hp => by have := hφ b hp; omega⟩
    · exact .inr (hown b h)
  refine ⟨φ, hA n B.im0 φ B.w0 _ w hJ S.size S.os S.tape S.output (fun b hb h => S.frame b hb fun ho' => ?_) (fun b hb => ⟨hi0 b hb, Nat.lt_of_lt_of_le (him b hb).1 hs⟩) (fun b hb => hi1 b hb.1) (fun b hb => hb.2), by omega, fun b hb => ?_, ho, fun b hb => Nat.lt_of_lt_of_le (hφ b hb) hs⟩
  · rcases h with h | h | h
    · have := (hown b ho').1; omega
    · exact (him b h).2.2.2 ho'
    · exact (hown b ho').2 h
  · rcases hi1 b hb with h | h
    · exact ⟨(him b h).2.1, (him b h).2.2.1⟩
    · exact ⟨by omega, h.2⟩

theorem yields_of {l : Nat} {xs : List (List V)} {J : JJ} (hA : Abides l J) (hR : Rounds P l xs J) : Yields P (iterB l J) l xs := by
  intro k x hx N s a w args n hk hp hdef hargs
  obtain ⟨hN, B, ι, hB, S⟩ := hp
  rw [hk] at hB
  obtain ⟨φ, hJ, hl, him, hown, hφ⟩ := iterB_now hA hB S
  have hpw : PW (RepV w (fun b => imS B ι b ∧ b < w.heap.size)) x args.toList := (hargs B ι S).mono fun v u h => h.mono fun b hb hlt => ⟨⟨hb, hlt⟩, rfl⟩
  obtain ⟨fn, tm, as, bd, hr, hround⟩ := hR k x _ φ w args n hx hJ hpw
  refine ⟨fn, tm, as, bd, hr, hround.mono ?_⟩
  rintro e w' ⟨b, φ', rfl, hJ', hsz, hw, hφ1, hφ2⟩
  refine ⟨b, rfl, hN, ⟨w', fun b => imS B ι b ∧ b < w.heap.size, owned ι⟩, ι, ⟨φ', hJ', by show l < w'.heap.size; omega, ?_, ?_, hφ2⟩, ?_⟩
  · rintro c ⟨hc, hlt⟩
    refine ⟨by show c < w'.heap.size; omega, (him c hc).1, fun hp => ?_, fun ⟨id, hid⟩ => hc.2 id hid⟩
    rcases hφ1 c hp with h | h
    · exact (him c hc).2 h
    · omega
  · rintro c ⟨id, hid⟩
    have hoc := hown c ⟨id, hid⟩
    refine ⟨hoc.1, fun hp => ?_⟩
    rcases hφ1 c hp with h | h
    · exact hoc.2 h
    · have := (S.bnd id c hid).1; omega
  · have hS := S.rebase (w' := w') (im' := fun b => imS B ι b ∧ b < w.heap.size) (fun c hc h => hw c hc (fun hp => ?_) (fun he => ?_)) hsz (fun b h1 h2 => ⟨h1, h2⟩) hdef
    · exact { hS with marks := hS.marks }
    · rcases h with h | h
      · exact (him c h).2 hp
      · exact (hown c h).2 hp
    · rcases h with h | h
      · exact (him c h).1 he
      · have := (hown c h).1; omega

def startI (l : Nat) (caps : List V) : St := ⟨fun n => ((V.fn (.yield l) [] [] :: caps)[n]?).map .v, fun _ => .res, ⟨0, 1, []⟩⟩

def IterPost (n : Nat) : Exit → St → Prop
  | .normal, s => s.m.d = 0 ∧ (s.m.k = n + 1 ∨ s.m.k = 0)
  | .ret, s => s.m.d = 0 ∧ (s.m.k = n + 1 ∨ s.m.k = 0)
  | _, _ => False

/-- An iterator's contract, out of its body's walk. -/
theorem iter_of_wp {f : FuncId} {fn : Func} {c : Code} {N : Nat} {caps : List V} {xs : List (List V)} (hf : P.funcs[f]? = some fn) (hb : fn.body = some c) (hen : ∀ args w, (callFunc f args).run P w = .ok (.enter f args) w)
    (hN : fn.ntmps = N) (hlen : Nat.ble (caps.length + 1) N = true) (hrs : fn.results = #[])
    (h : ∀ 𝔅 l, Yields P 𝔅 l xs → Wp P none N 𝔅 c (IterPost xs.length) (startI l caps)) : IterC P f caps xs := by
  refine ⟨hen, fun l W im φ J lb hW him hφ hcaps hA hR hJ => ?_⟩
  have hlen' := Nat.le_of_ble_eq_true hlen
  have hlb : lb.size = caps.length := by simpa using hcaps.1
  have hwp := h (iterB l J) l (yields_of hA hR)
  let us : Array Value := #[.func (.yield l) #[] #[]] ++ lb
  have hus : us.size = caps.length + 1 := by simp [us]; omega
  let B0 : Base := ⟨W, im, fun _ => False⟩
  have S0 : Sim B0 (startI l caps) (fun _ => .res) { tmps := us ++ Array.replicate (fn.ntmps - us.size) undef, defers := [] } W := by
    refine ⟨rfl, rfl, rfl, Nat.le_refl _, fun _ _ _ => rfl, (fun id id' b h => by cases h), (fun id b h => by cases h), fun _ => rfl, fun n d hn => ?_, rfl, (fun p hp => by cases hp), (fun d hd => by cases hd)⟩
    simp only [startI, Option.map_eq_some_iff] at hn
    obtain ⟨v, hv, rfl⟩ := hn
    have hlt : n < us.size := by rw [hus]; exact (List.getElem?_eq_some_iff.1 hv).1
    refine ⟨us[n], by rw [Array.getElem?_append_left hlt]; simp [hlt], ?_⟩
    cases n with
    | zero =>
      simp only [List.getElem?_cons_zero, Option.some.injEq] at hv
      subst hv
      have : us[0] = .func (.yield l) #[] #[] := by simp [us]
      rw [this]
      exact .v (.fn _ _ _ _ _ rfl rfl (by simp) (by simp))
    | succ n =>
      simp only [List.getElem?_cons_succ] at hv
      have hln : n < lb.size := by omega
      have : us[n + 1] = lb[n] := by simp [us]
      rw [this]
      exact .v ((hcaps.2 n v lb[n] hv (by simp [hln])).mono fun b hb _ => ⟨⟨.inl hb, fun id h => by cases h⟩, rfl⟩)
  have hB0 : iterB l J 1 B0 := ⟨φ, hJ, by show l < W.heap.size; omega, fun b hb => ⟨by have := (him b hb).1; show b < W.heap.size; omega, by have := (him b hb).1; omega, (him b hb).2, fun h => h.elim⟩, fun b h => h.elim, fun b hb => by have := hφ b hb; show b < W.heap.size; omega⟩
  have hrun := hwp { tmps := us ++ Array.replicate (fn.ntmps - us.size) undef, defers := [] } W 0 ⟨by simp [hN]; omega, B0, _, hB0, S0⟩
  suffices hc : CallsIn (WF none) 0 P f us W (fun e w' => (∃ v, e = .returned v) ∧ ∃ n im' φ', (n = xs.length + 1 ∨ n = 0) ∧ J n im' φ' w') from (callsIn_wide (n := 0)).1 hc
  refine callsIn_of_wp_marks hf hb trivial (wpIn_mono hrun ?_) rfl
  have out : ∀ (s' : St) (a' : Act) (w' : World), (s'.m.d = 0 ∧ (s'.m.k = xs.length + 1 ∨ s'.m.k = 0)) → Post (iterB l J) N s' a' w' →
      LeavesInM (WF none) 0 P fn a'.tmps (fun e w' => (∃ v, e = .returned v) ∧ ∃ n im' φ', (n = xs.length + 1 ∨ n = 0) ∧ J n im' φ' w') a'.defers .returning w' := by
    rintro s' a' w' ⟨hm, hk⟩ ⟨_, B, ι, hB, S⟩
    have hdef : a'.defers = [] := List.eq_nil_of_length_eq_zero (by rw [S.marks, hm])
    rw [hdef]
    obtain ⟨φ', hJ', _⟩ := iterB_now hA hB S
    refine ⟨.tuple #[], ?_, ⟨_, rfl⟩, _, _, φ', hk, hJ'⟩
    simp [results, hrs]
  rintro e a' w' ⟨s', hq, hpost⟩
  cases e with
  | normal => exact out s' a' w' hq hpost
  | ret => exact out s' a' w' hq hpost
  | exit id => exact hq.elim
  | goto l => exact hq.elim
  | panic ch => exact hq.elim
  | outgrown => exact hq.elim

end
end Go.Vd
