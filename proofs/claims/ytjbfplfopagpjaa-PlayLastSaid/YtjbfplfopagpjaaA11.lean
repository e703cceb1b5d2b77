/- Calls: what a function answers to data is data; a call by such an answer; a function's answer out of its body's walk. -/
import Derived.Test.YtjbfplfopagpjaaA10
import Derived.RangeFuncLeaves
import Derived.RangeFuncRecord
namespace Go.Vd
open Go.RowKit

mutual
def vw (h : Nat → Blk) : D → Option V
  | .v x => some x
  | .nils => some (.sl [])
  | .own id => match h id with | .row _ _ es => some (.sl es) | _ => none
  | .ptr id n => match h id with | .box cs => (allV cs).map fun vs => .ref (vs.drop n) | _ => none
  | .agg cs => (vwL h cs).map .agg
  | .fn f a b => match vwL h a, vwL h b with | some x, some y => some (.fn f x y) | _, _ => none
  | .tup ds => (vwL h ds).map .tup
  | .eptr _ _ => none
  | .any => none
def vwL (h : Nat → Blk) : List D → Option (List V)
  | [] => some []
  | d :: r => match vw h d, vwL h r with | some x, some y => some (x :: y) | _, _ => none
end

theorem vwL_get {h : Nat → Blk} : ∀ {ds : List D} {vs : List V}, vwL h ds = some vs → ds.length = vs.length ∧ ∀ (i : Nat) d, ds[i]? = some d → ∃ v, vs[i]? = some v ∧ vw h d = some v
  | [], vs, hv => by simp [vwL] at hv; subst hv; simp
  | d :: r, vs, hv => by
    simp only [vwL] at hv
    split at hv
    · rename_i x y h1 h2
      cases hv
      obtain ⟨h3, h4⟩ := vwL_get h2
      refine ⟨by simp [h3], fun i e he => ?_⟩
      cases i with
      | zero => simp at he; subst he; exact ⟨x, rfl, h1⟩
      | succ i => exact h4 i e (by simpa using he)
    · cases hv

/-- A view is right, where whatever is viewed may be read. -/
theorem vw_sound {B : Base} {s : St} {ι : Nat → Con} {a : Act} {w : World} (S : Sim B s ι a w) {h : Nat → Blk} (hh : ∀ id, h id = .dead ∨ h id = s.h id) {im' : Nat → Prop} (hi : ∀ b, imS B ι b → im' b)
    (ho : ∀ id b, h id ≠ .dead → (ι id).blk = some b → im' b) {d : D} {u : Value} (hr : RepD w (imS B ι) ι d u) : ∀ x, vw h d = some x → RepV w im' x u := by
  have lists : ∀ {cs : List D} {vs : List V} {us : Array Value}, vwL h cs = some vs → us.size = cs.length →
      (∀ (i : Nat) v u, cs[i]? = some v → us[i]? = some u → ∀ x, vw h v = some x → RepV w im' x u) →
      us.size = vs.length ∧ ∀ (i : Nat) v u, vs[i]? = some v → us[i]? = some u → RepV w im' v u := by
    intro cs vs us hv hs ih
    obtain ⟨h1, h2⟩ := vwL_get hv
    refine ⟨by omega, fun i v u hv' hu => ?_⟩
    have hlt : i < cs.length := by rw [h1]; exact (List.getElem?_eq_some_iff.1 hv').1
    obtain ⟨v', h3, h4⟩ := h2 i cs[i] (List.getElem?_eq_getElem hlt)
    rw [h3] at hv'; cases hv'
    exact ih i cs[i] u (List.getElem?_eq_getElem hlt) hu v h4
  induction hr with
  | v hv => intro x hx; simp [vw] at hx; subst hx; exact hv.mono fun b hb _ => ⟨hi b hb, rfl⟩
  | nils => intro x hx; simp [vw] at hx; subst hx; exact .sl0 _ _
  | own id u h0 h1 =>
    intro x hx
    simp only [vw] at hx
    split at hx
    · rename_i e sz es he
      cases hx
      have hs : s.h id = .row e sz es := by
        rcases hh id with h2 | h2
        · rw [he] at h2; cases h2
        · rw [← h2]; exact he
      have h3 := S.blks id
      rw [hs] at h3
      exact h3.row_repV (fun b hb => ho id b (by rw [he]; simp) hb) hi u h1
    · cases hx
  | ptr id n u h0 h1 =>
    intro x hx
    simp only [vw] at hx
    split at hx
    · rename_i cs he
      obtain ⟨vs, h2, rfl⟩ := Option.map_eq_some_iff.1 hx
      have hs : s.h id = .box cs := by
        rcases hh id with h2 | h2
        · rw [he] at h2; cases h2
        · rw [← h2]; exact he
      obtain ⟨b, arr, ty, h3, h4, h5, h6⟩ := blk_box S hs
      have hcs := allV_some h2
      subst hcs
      rw [h1 b h3]
      refine .ref _ b n (ho id b (by rw [he]; simp) (by rw [h3]; rfl)) (Array.getElem?_eq_some_iff.1 h4).1 ?_ ?_
      · intro j hj
        rw [cell_of_row w b (n + j) arr ty (0, 0) h4]
        have : n + j < arr.size := by simp at hj h5; omega
        simp [this]
      · intro j v u hv' hu
        rw [cell_of_row w b (n + j) arr ty (0, 0) h4] at hu
        rw [List.getElem?_drop] at hv'
        exact (repD_v_inv (h6 (n + j) (.v v) u (by simp [hv']) hu)).mono fun b hb _ => ⟨hi b hb, rfl⟩
    · cases hx
  | eptr id n u h0 h1 => intro x hx; simp [vw] at hx
  | agg cs us hs hv ih =>
    intro x hx
    simp only [vw, Option.map_eq_some_iff] at hx
    obtain ⟨vs, h1, rfl⟩ := hx
    obtain ⟨h2, h3⟩ := lists h1 hs ih
    exact .agg _ _ h2 h3
  | fn f a' b' us ws hs hs' hv hv' ih ih' =>
    intro x hx
    simp only [vw] at hx
    split at hx
    · rename_i y z h1 h2
      cases hx
      obtain ⟨h3, h4⟩ := lists h1 hs ih
      obtain ⟨h5, h6⟩ := lists h2 hs' ih'
      exact .fn _ _ _ _ _ h3 h5 h4 h6
    · cases hx
  | tup cs us hs hv ih =>
    intro x hx
    simp only [vw, Option.map_eq_some_iff] at hx
    obtain ⟨vs, h1, rfl⟩ := hx
    obtain ⟨h2, h3⟩ := lists h1 hs ih
    exact .tup _ _ h2 h3
  | any u => intro x hx; simp [vw] at hx

/-- Plain values, no memory: numbers, truths, texts, tuples of them. -/
def V.sc1 : V → Bool
  | .int _ _ | .bool _ | .str _ => true
  | _ => false
def V.sc : V → Bool
  | .tup vs => vs.all V.sc1
  | x => x.sc1

theorem RepV.sc1 {w : World} {im im' : Nat → Prop} {v : V} {u : Value} (h : RepV w im v u) (hs : v.sc1 = true) : RepV w im' v u := by
  cases h <;> simp [V.sc1] at hs
  · exact .int _ _
  · exact .bool _
  · exact .str _

theorem RepV.scal {w : World} {im im' : Nat → Prop} {v : V} {u : Value} (h : RepV w im v u) (hs : v.sc = true) : RepV w im' v u := by
  cases v with
  | tup vs =>
    cases h with
    | tup _ us h1 h2 =>
      simp only [V.sc, List.all_eq_true] at hs
      exact .tup _ _ h1 fun i v u hv hu => (h2 i v u hv hu).sc1 (hs v (List.mem_of_getElem? hv))
  | _ => exact h.sc1 hs

/-- What a function answers to data: in whatever world, nothing that was there turns; the answer lies where the arguments lay, or in new memory. -/
def PCall (P : Program) (f : FuncId) (ds : List V) (r : V) : Prop :=
  (∀ args w, (callFunc f args).run P w = .ok (.enter f args) w) ∧
  ∀ (w : World) (im : Nat → Prop) (us : Array Value), PW (RepV w im) ds us.toList →
    Calls P f us w fun e w' => ∃ u, e = .returned u ∧ Below w.heap.size w w' ∧ RepV w' (fun b => im b ∨ w.heap.size ≤ b) r u

theorem hF_or {F : List (Nat × Blk)} {s : St} (hf : ∀ p ∈ F, s.h p.1 = p.2) : ∀ id, hF F id = .dead ∨ hF F id = s.h id := hF_some hf

section
variable {P : Program} {r : Option Nat} {o : Oper}

theorem pw_array {R : V → Value → Prop} {vs : List V} {us : Array Value} (h1 : us.size = vs.length) (h2 : ∀ (i : Nat) v u, vs[i]? = some v → us[i]? = some u → R v u) : PW R vs us.toList :=
  ⟨by simpa using h1, fun i v u a b => h2 i v u a (by simpa using b)⟩

theorem zip_mem {xs : List Operand} {ds : List D} (hl : ds.length = xs.length) {i : Nat} {d : D} (hd : ds[i]? = some d) : ∃ x, xs[i]? = some x ∧ (x, d) ∈ xs.zip ds := by
  have hlt : i < xs.length := by rw [← hl]; exact (List.getElem?_eq_some_iff.1 hd).1
  refine ⟨xs[i], List.getElem?_eq_getElem hlt, ?_⟩
  have : (xs.zip ds)[i]? = some (xs[i], d) := by rw [List.getElem?_zip_eq_some]; exact ⟨List.getElem?_eq_getElem hlt, hd⟩
  exact List.mem_of_getElem? this

theorem callsWF {f : FuncId} {us : Array Value} {w : World} {R : Ending → World → Prop} (n : Nat) (h : Calls P f us w R) : CallsIn (WF r) n P f us w R := by
  have h1 : CallsIn Fence.wide n P f us w R := callsIn_wide.2 h
  exact ⟨trivial, fun cs hr => h1.2 cs (room_wide _)⟩

/-- A call of a function whose answer to data is known. -/
theorem step_call {f : FuncId} {x : Operand} {args : Array Operand} {ats : Array TypeId} {dx : D} {ds : List D} {first vs cap : List V} {res : V} {F : List (Nat × Blk)}
    (ho : o.op = .call { callee := .value x, args := args, argTypes := ats }) (hx : vw (hF F) dx = some (.fn (.func f) first cap)) (ha : vwL (hF F) ds = some vs) (hl : ds.length = args.toList.length)
    (hp : PCall P f (first ++ vs ++ cap) res) (hs : F = [] ∨ res.sc = true) : Step P r o ((x, dx) :: args.toList.zip ds) F (.v res) [] where
  ops p hp' := by
    rw [ho]
    simp only [Op.operands, Call.operands]
    rcases List.mem_cons.1 hp' with rfl | h
    · simp
    · have := (List.of_mem_zip h).1
      simp only [Array.mem_append, List.mem_toArray, List.mem_cons, List.not_mem_nil, or_false]
      exact .inr (by simpa using this)
  snd s hE hFs B N ι a w n Q S hN hd := by
    refine ⟨fun _ _ => trivial, ?_⟩
    rw [Oper.semAt_eq _ _ _ (by rw [ho]; simp)]
    have hh := hF_or hFs
    -- what the callee may read
    have key : ∃ im' : Nat → Prop, (∀ b, imS B ι b → im' b) ∧ (∀ id b, hF F id ≠ .dead → (ι id).blk = some b → im' b) ∧ (F = [] → ∀ b, im' b → imS B ι b) := by
      by_cases hFn : F = []
      · exact ⟨imS B ι, fun _ h => h, fun id b h => by rw [hFn] at h; exact absurd rfl h, fun _ _ h => h⟩
      · exact ⟨fun _ => True, fun _ _ => trivial, fun _ _ _ _ => trivial, fun h => absurd h hFn⟩
    obtain ⟨im', hi, hown, him⟩ := key
    have hfn := vw_sound S hh hi hown (S.ev (hE (x, dx) List.mem_cons_self)) _ hx
    generalize hu : a.eval x = u at hfn
    obtain ⟨h1, h2⟩ := vwL_get ha
    have hargs : PW (RepV w im') vs (args.toList.map a.eval) := by
      refine ⟨by simp only [List.length_map]; omega, fun i v u' hv hu' => ?_⟩
      have hlt : i < ds.length := by rw [h1]; exact (List.getElem?_eq_some_iff.1 hv).1
      have hdi : ds[i]? = some ds[i] := List.getElem?_eq_getElem hlt
      obtain ⟨v', h3, h4⟩ := h2 i ds[i] hdi
      rw [h3] at hv; cases hv
      obtain ⟨y, h5, h6⟩ := zip_mem hl hdi
      rw [List.getElem?_map, h5] at hu'
      cases hu'
      exact vw_sound S hh hi hown (S.ev (hE (y, ds[i]) (List.mem_cons_of_mem _ h6))) v h4
    cases hfn with
    | fn _ _ _ us ws hs1 hs2 hv1 hv2 =>
      have hrun : (execOp a.eval o).run P w = .ok (.enter f (us ++ args.map a.eval ++ ws)) w := by
        simp [execOp, ho, resolve, hu, Deferred.ofValue, invoke, hp.1]
      rw [hrun]
      refine ⟨fun h => by simp [WF, Fence.wide] at h, CallsIn.mono (callsWF _ (hp.2 w im' _ ?_)) ?_⟩
      · have p1 : PW (RepV w im') first us.toList := pw_array hs1 hv1
        have p2 : PW (RepV w im') cap ws.toList := pw_array hs2 hv2
        have p := (p1.append hargs).append p2
        simpa using p
      · rintro e w' ⟨u', rfl, hb, hr⟩
        obtain ⟨S', hk⟩ := S.grow hb.os hb.tape hb.output hb.size hb.block
        refine ⟨by rw [put_size]; exact hN, ι, Sim.putAny (s := s) S' (by rw [hN]; exact hd) (.v ?_)⟩
        rcases hs with hF0 | hsc
        · refine hr.mono fun b hbb _ => ⟨?_, rfl⟩
          rcases hbb with h3 | h3
          · exact him hF0 b h3
          · exact ⟨.inr (.inl (Nat.le_trans S.size h3)), fun id hid => by have := (S.bnd id b hid).1; omega⟩
        · exact hr.scal hsc

/-! ### A function's answer, out of its body -/

def start (ds : List V) : St := ⟨fun n => (ds[n]?).map .v, fun _ => .res, 0⟩

def resD (tab : Tab) (s : St) : ResultVar → Option D
  | .tmp t => s.t t
  | .cell p ty => match s.t p, lk tab ty with
    | some (.ptr id 0), some ti => match s.h id with
      | .box cs => bif ti.isAgg then (bif Nat.ble ti.size cs.length then some (mkAgg (cs.take ti.size)) else none) else cs[0]?
      | _ => none
    | _, _ => none

def resDs (tab : Tab) (s : St) : List ResultVar → Option (List D)
  | [] => some []
  | x :: r => match resD tab s x, resDs tab s r with | some d, some ds => some (d :: ds) | _, _ => none

def retV (tab : Tab) (s : St) (rs : List ResultVar) : Option V := match resDs tab s rs with
  | some ds => match vwL s.h ds with
    | some [x] => some x
    | some xs => some (.tup xs)
    | none => none
  | none => none

def FnPost (tab : Tab) (rs : List ResultVar) (r : V) : Exit → St → Prop
  | .normal, s => retV tab s rs = some r ∧ Nat.ble s.m.d 1 = true
  | .ret, s => retV tab s rs = some r ∧ Nat.ble s.m.d 1 = true
  | _, _ => False

variable {tab : Tab}

def resOf (tmps : Array Value) : ResultVar → Sem Value
  | .tmp t => pure (tmps.getD t undef)
  | .cell p t => do loadVar t (← asAddr (tmps.getD p undef))

theorem resD_sound (hT : tabOk P tab = true) {B : Base} {s : St} {ι : Nat → Con} {a : Act} {w : World} (S : Sim B s ι a w) {x : ResultVar} {d : D} (h : resD tab s x = some d) :
    ∃ u, (resOf a.tmps x).run P w = .ok u w ∧ RepD w (imS B ι) ι d u := by
  cases x with
  | tmp t =>
    obtain ⟨u, h1, h2⟩ := S.tmps t d h
    exact ⟨u, by simp [resOf, Array.getD_eq_getD_getElem?, h1], h2⟩
  | cell p ty =>
    simp only [resD] at h
    split at h
    · rename_i id ti hp hti
      split at h
      · rename_i cs hcs
        obtain ⟨u, h1, h2⟩ := S.tmps p _ hp
        obtain ⟨b, arr, t', h3, h4, h5, h6⟩ := blk_box S hcs
        have h7 := h2.ptr_inv.2 b h3
        subst h7
        have hget : a.tmps.getD p undef = .pointer (some ⟨b, 0, none⟩) := by rw [Array.getD_eq_getD_getElem?, h1]; rfl
        cases ha : ti.isAgg with
        | true =>
          rw [ha] at h
          simp only [cond_true] at h
          cases hle : Nat.ble ti.size cs.length with
          | false => rw [hle] at h; cases h
          | true =>
            rw [hle] at h
            simp only [cond_true, Option.some.injEq] at h
            subst h
            have hle' := Nat.le_of_ble_eq_true hle
            have hc : ∀ j, j < ti.size → w.cell? ⟨b, 0 + j, none⟩ = some (arr.getD j undef) := fun j hj => by
              rw [Nat.zero_add, cell_of_row w b j arr t' (0, 0) h4]
              have : j < arr.size := by omega
              simp [this, Array.getD]
            refine ⟨.agg ((List.range ti.size).map fun j => arr.getD j undef).toArray, ?_, RepD.mkAgg (.agg _ _ (by simp only [List.size_toArray, List.length_map, List.length_range, List.length_take]; omega) ?_)⟩
            · simp only [resOf, hget, asAddr, Sem.run_bind, Sem.run_pure, Result.andThen_ok]
              exact run_loadVar_agg hT hti ha _ hc
            intro i v u hv hu
            rw [List.getElem?_take] at hv
            split at hv
            · rename_i hi
              have hlt : i < arr.size := by omega
              refine h6 i v u hv ?_
              simp [hi, hlt] at hu
              simp [hlt, hu]
            · cases hv
        | false =>
          rw [ha] at h
          simp only [cond_false] at h
          have hlt : 0 < arr.size := by rw [h5]; exact (List.getElem?_eq_some_iff.1 h).1
          have hc : w.cell? ⟨b, 0, none⟩ = some arr[0] := by rw [cell_of_row w b 0 arr t' (0, 0) h4]; simp [hlt]
          exact ⟨arr[0], by simp [resOf, hget, asAddr, run_loadVar_sc hT hti ha hc], h6 0 d _ h (by simp [hlt])⟩
      · cases h
    · cases h

theorem resDs_sound (hT : tabOk P tab = true) {B : Base} {s : St} {ι : Nat → Con} {a : Act} {w : World} (S : Sim B s ι a w) : ∀ {rs : List ResultVar} {ds : List D}, resDs tab s rs = some ds →
    ∃ us : List Value, (rs.mapM (m := Sem) (resOf a.tmps)).run P w = .ok us w ∧ PW (RepD w (imS B ι) ι) ds us
  | [], ds, h => by simp [resDs] at h; subst h; exact ⟨[], rfl, PW.nil⟩
  | x :: r, ds, h => by
    simp only [resDs] at h
    split at h
    · rename_i d ds' h1 h2
      cases h
      obtain ⟨u, h3, h4⟩ := resD_sound hT S h1
      obtain ⟨us, h5, h6⟩ := resDs_sound hT S h2
      refine ⟨u :: us, ?_, by simp [h6.1], fun i e v he hv => ?_⟩
      · rw [List.mapM_cons]
        simp only [Sem.run_bind, Sem.run_pure, h3, Result.andThen_ok, h5]
      · cases i with
        | zero => simp at he hv; subst he; subst hv; exact h4
        | succ i => exact h6.2 i e v (by simpa using he) (by simpa using hv)
    · cases h

/-- One value, or the tuple of many. -/
def retOf (us : List Value) : Value := if h : us.toArray.size = 1 then us.toArray[0] else .tuple us.toArray

def OutPost (tab : Tab) (rs : List ResultVar) (K : List D → (Nat → Blk) → List (Nat × Nat) → Prop) : Exit → St → Prop
  | .normal, s => Nat.ble s.m.d 1 = true ∧ ∃ ds, resDs tab s rs = some ds ∧ K ds s.h s.m.pins
  | .ret, s => Nat.ble s.m.d 1 = true ∧ ∃ ds, resDs tab s rs = some ds ∧ K ds s.h s.m.pins
  | _, _ => False

/-- A function's contract, out of its body's walk: whatever state it begins in. -/
theorem calls_of_wp (hT : tabOk P tab = true) {f : FuncId} {fn : Func} {c : Code} {N : Nat} {rs : List ResultVar} {K : List D → (Nat → Blk) → List (Nat × Nat) → Prop} {B : Base} {s0 : St} {ι0 : Nat → Con} {us : Array Value} {w : World} (hf : P.funcs[f]? = some fn) (hb : fn.body = some c)
    (hN : fn.ntmps = N) (hlen : us.size ≤ N) (hrs : fn.results = rs.toArray) (S0 : Sim B s0 ι0 { tmps := us ++ Array.replicate (fn.ntmps - us.size) undef, defers := [] } w)
    (h : Wp P none N (only B) c (OutPost tab rs K) s0) :
    Calls P f us w fun e w2 => ∃ ds us' s2 ι a2, e = .returned (retOf us') ∧ K ds s2.h s2.m.pins ∧ Sim B s2 ι a2 w2 ∧ PW (RepD w2 (imS B ι) ι) ds us' := by
  have hwp := h _ w 0 ⟨by simp [hN]; omega, B, _, rfl, S0⟩
  suffices hc : CallsIn (WF none) 0 P f us w (fun e w2 => ∃ ds us' s2 ι a2, e = .returned (retOf us') ∧ K ds s2.h s2.m.pins ∧ Sim B s2 ι a2 w2 ∧ PW (RepD w2 (imS B ι) ι) ds us') from (callsIn_wide (n := 0)).1 hc
  refine callsIn_of_wp_marks hf hb trivial (wpIn_mono hwp ?_) rfl
  -- the way out
  have out : ∀ (s' : St) (a' : Act) (w' : World), (Nat.ble s'.m.d 1 = true ∧ ∃ ds, resDs tab s' rs = some ds ∧ K ds s'.h s'.m.pins) → Post (only B) N s' a' w' →
      LeavesInM (WF none) 0 P fn a'.tmps (fun e w2 => ∃ ds us' s2 ι a2, e = .returned (retOf us') ∧ K ds s2.h s2.m.pins ∧ Sim B s2 ι a2 w2 ∧ PW (RepD w2 (imS B ι) ι) ds us') a'.defers .returning w' := by
    rintro s' a' w' ⟨hm, dsr, hds, hK⟩ ⟨_, B', ι, hB', S⟩
    cases (show B' = B from hB')
    -- the results
    have hres : ∀ w2 (a2 : Act), a2.tmps = a'.tmps → Sim B { s' with m := { s'.m with d := a2.defers.length } } ι a2 w2 →
        ∃ v, (results fn a'.tmps).run P w2 = .ok v w2 ∧ ∃ ds us' s2 ι a2, Ending.returned v = .returned (retOf us') ∧ K ds s2.h s2.m.pins ∧ Sim B s2 ι a2 w2 ∧ PW (RepD w2 (imS B ι) ι) ds us' := by
      intro w2 a2 hat S2
      have hds2 : resDs tab { s' with m := { s'.m with d := a2.defers.length } } rs = some dsr := by
        rw [← hds]
        clear hds S2 hf hb hrs hwp h hK
        induction rs with
        | nil => rfl
        | cons x r ih =>
          simp only [resDs]
          rw [ih]
          cases x <;> rfl
      obtain ⟨us', h1, h2⟩ := resDs_sound hT S2 hds2
      rw [hat] at h1
      refine ⟨retOf us', ?_, dsr, us', { s' with m := { s'.m with d := a2.defers.length } }, ι, a2, rfl, hK, S2, h2⟩
      have he : results fn a'.tmps = (do let vs ← rs.toArray.mapM (resOf a'.tmps); pure (if h : vs.size = 1 then vs[0] else .tuple vs)) := by rw [← hrs]; rfl
      rw [he, List.mapM_toArray]
      simp only [Sem.run_bind, Sem.run_map, h1, Result.andThen_ok, Sem.run_pure, retOf]
    have hm1 := Nat.le_of_ble_eq_true hm
    have hml := S.marks
    cases hd : a'.defers with
    | nil =>
      obtain ⟨v, h1, h2⟩ := hres w' a' rfl { S with marks := rfl }
      exact ⟨v, h1, h2⟩
    | cons d dr =>
      have hdr : dr = [] := by
        rw [hd] at hml; simp at hml
        exact List.eq_nil_of_length_eq_zero (by omega)
      subst hdr
      obtain ⟨b, hb1, hb2, hb3⟩ := S.defs d (by rw [hd]; exact List.mem_cons_self)
      subst hb1
      refine ⟨by simp, .inl ⟨b, _, rfl, run_takeDeferred hb3, ?_⟩⟩
      have hlt : b < w'.heap.size := (Array.getElem?_eq_some_iff.1 hb3).1
      have hnown : ∀ id, (ι id).blk ≠ some b := fun id hid => by
        obtain ⟨c', t', f', hc⟩ := S.own_cells hid
        rw [hb3] at hc; cases hc
      have hother : ∀ k, k ≠ b → (w'.putObj b (.deferred none)).heap[k]? = w'.heap[k]? := fun k hk => World.putObj_heap_other hk
      refine hres _ { tmps := a'.tmps, defers := [] } rfl ?_
      · -- the block of the deferred calls is nobody's
        have him : ∀ k, imS B ι k → k ≠ b → imS B ι k := fun _ h _ => h
        have hdead : ∀ (v : V) (u : Value), RepV w' (imS B ι) v u → RepV (w'.putObj b (.deferred none)) (imS B ι) v u := by
          intro v u hv
          induction hv with
          | int k n => exact .int k n
          | bool b => exact .bool b
          | str s => exact .str s
          | sl0 a c => exact .sl0 a c
          | sl es b' o sz c hb hl hcap hs hc hv ih =>
            by_cases hbb : b' = b
            · subst hbb
              have hcell : ∀ j, w'.cell? ⟨b', j, none⟩ = none := fun j => by simp [World.cell?, hb3]
              by_cases h0 : es.length = 0
              · rw [List.eq_nil_of_length_eq_zero h0]; exact .sl0 _ _
              · by_cases hsz0 : sz = 0
                · refine .sl es b' o sz c hb (by simp [World.putObj]; exact hl) hcap hs (fun i j _ hj => by omega) (fun i j e v u he hv' _ => ?_)
                  have := hs e (List.mem_of_getElem? he)
                  have := (List.getElem?_eq_some_iff.1 hv').1
                  omega
                · have := hc 0 0 (by omega) (by omega)
                  rw [hcell] at this; cases this
            · have hcell : ∀ j, (w'.putObj b (.deferred none)).cell? ⟨b', j, none⟩ = w'.cell? ⟨b', j, none⟩ := fun j => World.cell?_of_block (hother b' hbb)
              exact .sl es b' o sz c hb (by simp [World.putObj]; exact hl) hcap hs (fun i j hi hj => by rw [hcell]; exact hc i j hi hj) (fun i j e v u he hv' hu => ih i j e v u he hv' (by rw [← hcell]; exact hu))
          | agg cs us hs hv ih => exact .agg cs us hs ih
          | ref cs b' o hb hl hc hv ih =>
            by_cases hbb : b' = b
            · subst hbb
              have hcell : ∀ j, w'.cell? ⟨b', j, none⟩ = none := fun j => by simp [World.cell?, hb3]
              by_cases h0 : cs.length = 0
              · rw [List.eq_nil_of_length_eq_zero h0]
                exact .ref [] b' o hb (by simp [World.putObj]; exact hl) (fun j hj => by simp at hj) (fun j v u hj => by simp at hj)
              · have := hc 0 (by omega)
                rw [hcell] at this; cases this
            · have hcell : ∀ j, (w'.putObj b (.deferred none)).cell? ⟨b', j, none⟩ = w'.cell? ⟨b', j, none⟩ := fun j => World.cell?_of_block (hother b' hbb)
              exact .ref cs b' o hb (by simp [World.putObj]; exact hl) (fun j hj => by rw [hcell]; exact hc j hj) (fun j v u he hu => ih j v u he (by rw [← hcell]; exact hu))
          | fn f a b us ws hs hs' hv hv' ih ih' => exact .fn f a b us ws hs hs' ih ih'
          | tup cs us hs hv ih => exact .tup cs us hs ih
        have hdeadD : ∀ (d : D) (u : Value), RepD w' (imS B ι) ι d u → RepD (w'.putObj b (.deferred none)) (imS B ι) ι d u := by
          intro d u hr
          induction hr with
          | v h => exact .v (hdead _ _ h)
          | nils => exact .nils
          | own id u h0 h => exact .own id u h0 h
          | ptr id n u h0 h => exact .ptr id n u h0 h
          | eptr id n u h0 h => exact .eptr id n u h0 h
          | agg cs us hs hv ih => exact .agg cs us hs ih
          | fn f a b us ws hs hs' hv hv' ih ih' => exact .fn f a b us ws hs hs' ih ih'
          | tup cs us hs hv ih => exact .tup cs us hs ih
          | any u => exact .any u
        refine ⟨S.os, S.tape, S.output, by simp [World.putObj]; exact S.size, fun k hk hno => ?_, S.inj, fun id k hid => ?_, fun id => ?_, fun n d hn => ?_, rfl, S.pins, fun d hd => by cases hd⟩
        · have hb2' : B.w0.heap.size ≤ b := hb2
          rw [hother k (by omega)]; exact S.frame k hk hno
        · have := S.bnd id k hid
          exact ⟨by simp [World.putObj]; exact this.1, this.2⟩
        · have h1 := S.blks id
          show BlkRel _ _ ι (s'.h id) (ι id)
          cases hb : s'.h id with
          | res => rw [hb] at h1; exact h1
          | dead => rw [hb] at h1; exact h1
          | box cs =>
            rw [hb] at h1
            obtain ⟨bb, arr, ty, h2, h3, h4, h5⟩ := h1
            exact ⟨bb, arr, ty, h2, by rw [hother bb (fun e => hnown id (by rw [h2, e]; rfl))]; exact h3, h4, fun i d u hd hu => hdeadD _ _ (h5 i d u hd hu)⟩
          | row e sz es =>
            rw [hb] at h1
            obtain ⟨h2, h3, h4⟩ := h1
            refine ⟨h2, h3, ?_⟩
            rcases h4 with h4 | ⟨g, cap, arr, h4, h5, h6, h7, h8, h9⟩
            · exact .inl h4
            · exact .inr ⟨g, cap, arr, h4, by rw [hother g (fun e => hnown id (by rw [h4, e]; rfl))]; exact h5, h6, h7, h8, fun i j el v u a1 a2 a3 => hdead _ _ (h9 i j el v u a1 a2 a3)⟩
        · obtain ⟨u, h1, h2⟩ := S.tmps n d hn
          exact ⟨u, h1, hdeadD _ _ h2⟩
  rintro e a' w' ⟨s', hq, hpost⟩
  cases e with
  | normal => exact out s' a' w' hq hpost
  | ret => exact out s' a' w' hq hpost
  | exit id => exact hq.elim
  | goto l => exact hq.elim
  | panic ch => exact hq.elim
  | outgrown => exact hq.elim


theorem sim_start {B : Base} {N : Nat} {ds : List V} {us : Array Value} (_ : B.own0 = fun _ => False) (hp : PW (RepV B.w0 B.im0) ds us.toList) :
    Sim B (start ds) (fun _ => .res) { tmps := us ++ Array.replicate (N - us.size) undef, defers := [] } B.w0 := by
  have hsz : us.size = ds.length := by simpa using hp.1
  refine ⟨rfl, rfl, rfl, Nat.le_refl _, fun _ _ _ => rfl, (fun id id' b h => by cases h), (fun id b h => by cases h), fun _ => rfl, fun n d hn => ?_, rfl, (fun p hp => by cases hp), (fun d hd => by cases hd)⟩
  simp only [start, Option.map_eq_some_iff] at hn
  obtain ⟨v, hv, rfl⟩ := hn
  have hlt : n < us.size := by rw [hsz]; exact (List.getElem?_eq_some_iff.1 hv).1
  refine ⟨us[n], by rw [Array.getElem?_append_left hlt]; simp [hlt], .v ((hp.2 n v us[n] hv (by simp [hlt])).mono fun b hb _ => ⟨⟨.inl hb, fun id h => by cases h⟩, rfl⟩)⟩

/-- What the function tells, read as data. -/
theorem ret_view {w : World} {im : Nat → Prop} {s : St} {ι : Nat → Con} {a : Act} {w2 : World} (S2 : Sim ⟨w, im, fun _ => False⟩ s ι a w2) {ds : List D} {us : List Value} (hp : PW (RepD w2 (imS ⟨w, im, fun _ => False⟩ ι) ι) ds us) {xs : List V} (hx : vwL s.h ds = some xs) :
    PW (RepV w2 (fun b => im b ∨ w.heap.size ≤ b)) xs us := by
  obtain ⟨h3, h4⟩ := vwL_get hx
  refine ⟨by rw [hp.1, h3], fun i x u hx hu => ?_⟩
  have hlt : i < ds.length := by rw [h3]; exact (List.getElem?_eq_some_iff.1 hx).1
  obtain ⟨x', h5, h6⟩ := h4 i ds[i] (List.getElem?_eq_getElem hlt)
  rw [h5] at hx; cases hx
  refine vw_sound S2 (h := s.h) (fun _ => .inr rfl) (im' := fun b => im b ∨ w.heap.size ≤ b) (fun b hb => ?_) (fun id b _ hb => ?_) (hp.2 i ds[i] u (List.getElem?_eq_getElem hlt) hu) x h6
  · rcases hb.1 with h | h | h
    · exact .inl h
    · exact .inr h
    · exact h.elim
  · rcases (S2.bnd id b hb).2 with h | h
    · exact .inr h
    · exact h.elim

theorem pcall_of_wp (hT : tabOk P tab = true) {f : FuncId} {fn : Func} {c : Code} {ds : List V} {res : V} {N : Nat} {rs : List ResultVar} (hf : P.funcs[f]? = some fn) (hb : fn.body = some c)
    (hen : ∀ args w, (callFunc f args).run P w = .ok (.enter f args) w) (hN : fn.ntmps = N) (hlen : Nat.ble ds.length N = true) (hrs : fn.results = rs.toArray)
    (h : ∀ w im, Wp P none N (only ⟨w, im, fun _ => False⟩) c (FnPost tab rs res) (start ds)) : PCall P f ds res := by
  refine ⟨hen, fun w im us hp => ?_⟩
  have hlen' := Nat.le_of_ble_eq_true hlen
  have hsz : us.size = ds.length := by simpa using hp.1
  have S0 := sim_start (B := ⟨w, im, fun _ => False⟩) (N := fn.ntmps) rfl hp
  have hq : ∀ s : St, (retV tab s rs = some res ∧ Nat.ble s.m.d 1 = true) → (Nat.ble s.m.d 1 = true ∧ ∃ ds, resDs tab s rs = some ds ∧ (fun ds (h : Nat → Blk) => (match vwL h ds with | some [x] => some x | some xs => some (.tup xs) | none => none) = some res) ds s.h) := by
    intro s ⟨h1, h2⟩
    refine ⟨h2, ?_⟩
    unfold retV at h1
    cases hd : resDs tab s rs with
    | none => rw [hd] at h1; cases h1
    | some dsr => rw [hd] at h1; exact ⟨dsr, rfl, h1⟩
  refine Calls.mono (calls_of_wp hT (K := fun ds (h : Nat → Blk) _ => (match vwL h ds with | some [x] => some x | some xs => some (.tup xs) | none => none) = some res) hf hb hN (by omega) hrs S0 (wp_mono (h w im) fun e s hp => ?_)) ?_
  · cases e with
    | normal => exact hq s hp
    | ret => exact hq s hp
    | _ => exact hp.elim
  · rintro e w2 ⟨dsr, us', s2, ι, a2, rfl, hret, S2, hpw⟩
    refine ⟨_, rfl, ⟨S2.os, S2.tape, S2.output, S2.size, fun k hk => S2.frame k hk (fun h => h)⟩, ?_⟩
    cases hvl : vwL s2.h dsr with
    | none => simp only [hvl] at hret; cases hret
    | some xs =>
      simp only [hvl] at hret
      have hv := ret_view S2 hpw hvl
      unfold retOf
      by_cases h1l : us'.toArray.size = 1
      · rw [dif_pos h1l]
        have : xs.length = 1 := by have := hv.1; simp at h1l; omega
        match xs, this with
        | [x], _ =>
          simp at hret; subst hret
          refine hv.2 0 x _ rfl ?_
          have : 0 < us'.length := by simp at h1l; omega
          simp [this]
      · rw [dif_neg h1l]
        have hne : xs.length ≠ 1 := by have := hv.1; simp at h1l; omega
        have hr : res = .tup xs := by
          match xs, hne with
          | [], _ => simp at hret; exact hret.symm
          | _ :: _ :: _, _ => simp at hret; exact hret.symm
        subst hr
        exact .tup _ _ (by simp [hv.1]) (fun i v u hv' hu => hv.2 i v u hv' (by simpa using hu))

/-! ### A function that tells a slice of its own making -/

def PRow (P : Program) (f : FuncId) (ds : List V) (e sz : Nat) (es : List (List V)) : Prop :=
  (∀ args w, (callFunc f args).run P w = .ok (.enter f args) w) ∧
  ∀ (w : World) (im : Nat → Prop) (us : Array Value), PW (RepV w im) ds us.toList →
    Calls P f us w fun en w' => ∃ (g : Option Nat) (cap : Nat), en = .returned (rowVal g es.length cap) ∧ Below w.heap.size w w' ∧ (∀ b, g = some b → w.heap.size ≤ b) ∧
      BlkRel w' (fun b => (im b ∨ w.heap.size ≤ b) ∧ g ≠ some b) (fun _ => .res) (.row e sz es) (.row g es.length cap)

def RowPost (t : Nat) (e sz : Nat) (es : List (List V)) : Exit → St → Prop
  | .ret, s => (∃ id, s.t t = some (.own id) ∧ s.h id = .row e sz es) ∨ (s.t t = some .nils ∧ es = [] ∧ 0 < sz)
  | _, _ => False

theorem prow_of_wp (hT : tabOk P tab = true) {f : FuncId} {fn : Func} {c : Code} {ds : List V} {N t e sz : Nat} {es : List (List V)} (hf : P.funcs[f]? = some fn) (hb : fn.body = some c)
    (hen : ∀ args w, (callFunc f args).run P w = .ok (.enter f args) w) (hN : fn.ntmps = N) (hlen : Nat.ble ds.length N = true) (hrs : fn.results = [ResultVar.tmp t].toArray)
    (h : ∀ w im, Wp P none N (only ⟨w, im, fun _ => False⟩) c (fun ex s => RowPost t e sz es ex s ∧ Nat.ble s.m.d 1 = true) (start ds)) : PRow P f ds e sz es := by
  refine ⟨hen, fun w im us hp => ?_⟩
  have hlen' := Nat.le_of_ble_eq_true hlen
  have hsz : us.size = ds.length := by simpa using hp.1
  have S0 := sim_start (B := ⟨w, im, fun _ => False⟩) (N := fn.ntmps) rfl hp
  refine Calls.mono (calls_of_wp hT (K := fun ds (h : Nat → Blk) _ => (∃ id, ds = [.own id] ∧ h id = .row e sz es) ∨ (ds = [.nils] ∧ es = [] ∧ 0 < sz)) hf hb hN (by omega) hrs S0 (wp_mono (h w im) fun ex s hp => ?_)) ?_
  · obtain ⟨h1, h2⟩ := hp
    cases ex with
    | ret =>
      refine ⟨h2, ?_⟩
      rcases h1 with ⟨id, h3, h4⟩ | ⟨h3, h4⟩
      · exact ⟨[.own id], by simp [resDs, resD, h3], .inl ⟨id, rfl, h4⟩⟩
      · exact ⟨[.nils], by simp [resDs, resD, h3], .inr ⟨rfl, h4⟩⟩
    | _ => exact h1.elim
  · rintro en w2 ⟨dsr, us', s2, ι, a2, rfl, hret, S2, hpw⟩
    have hbelow : Below w.heap.size w w2 := ⟨S2.os, S2.tape, S2.output, S2.size, fun k hk => S2.frame k hk (fun h => h)⟩
    rcases hret with ⟨id, rfl, hid⟩ | ⟨rfl, rfl, hsz⟩
    · match us', hpw with
      | [u], hpw =>
        obtain ⟨g, cap, hι⟩ := blk_row S2 hid
        have hu := (hpw.2 0 (.own id) u rfl rfl).own_inv.2 g _ cap hι
        refine ⟨g, cap, by rw [hu]; rfl, hbelow, fun b hb => ?_, ?_⟩
        · subst hb
          rcases (S2.bnd id b (by rw [hι]; rfl)).2 with h | h
          · exact h
          · exact h.elim
        · have hbl := S2.blks id
          rw [hid, hι] at hbl
          obtain ⟨h2, h3, h4⟩ := hbl
          refine ⟨h2, h3, ?_⟩
          rcases h4 with h4 | ⟨g', cap', arr, h4, h5, h6, h7, h8, h9⟩
          · exact .inl h4
          · refine .inr ⟨g', cap', arr, h4, h5, h6, h7, h8, fun i j el v u a1 a2 a3 => (h9 i j el v u a1 a2 a3).mono fun b hb _ => ⟨⟨?_, ?_⟩, rfl⟩⟩
            · rcases hb.1 with h | h | h
              · exact .inl h
              · exact .inr h
              · exact h.elim
            · intro hg
              exact hb.2 id (by rw [hι, hg]; rfl)
      | [], hpw => exact absurd hpw.1 (by simp)
      | _ :: _ :: _, hpw => exact absurd hpw.1 (by simp)
    · match us', hpw with
      | [u], hpw =>
        have hu := (hpw.2 0 .nils u rfl rfl).nils_inv
        exact ⟨none, 0, by rw [hu]; rfl, hbelow, by simp, hsz, by simp, .inl ⟨rfl, rfl⟩⟩
      | [], hpw => exact absurd hpw.1 (by simp)
      | _ :: _ :: _, hpw => exact absurd hpw.1 (by simp)

/-- A call of such a function: the slice is the caller's own. -/
theorem step_callrow {f : FuncId} {x : Operand} {args : Array Operand} {ats : Array TypeId} {dx : D} {ds : List D} {first vs cap : List V} {nid e sz : Nat} {es : List (List V)}
    (ho : o.op = .call { callee := .value x, args := args, argTypes := ats }) (hx : vw (hF []) dx = some (.fn (.func f) first cap)) (ha : vwL (hF []) ds = some vs) (hl : ds.length = args.toList.length)
    (hp : PRow P f (first ++ vs ++ cap) e sz es) : Step P r o ((x, dx) :: args.toList.zip ds) [(nid, .res)] (.own nid) [(nid, .row e sz es)] where
  ops p hp' := by
    rw [ho]
    simp only [Op.operands, Call.operands]
    rcases List.mem_cons.1 hp' with rfl | h
    · simp
    · have := (List.of_mem_zip h).1
      simp only [Array.mem_append, List.mem_toArray, List.mem_cons, List.not_mem_nil, or_false]
      exact .inr (by simpa using this)
  snd s hE hFs B N ι a w n Q S hN hd := by
    refine ⟨fun _ _ => trivial, ?_⟩
    rw [Oper.semAt_eq _ _ _ (by rw [ho]; simp)]
    have hh : ∀ id, hF [] id = .dead ∨ hF [] id = s.h id := fun _ => .inl rfl
    have hfn := vw_sound S hh (im' := imS B ι) (fun _ h => h) (fun id b h => absurd rfl h) (S.ev (hE (x, dx) List.mem_cons_self)) _ hx
    generalize hu : a.eval x = u at hfn
    obtain ⟨h1, h2⟩ := vwL_get ha
    have hargs : PW (RepV w (imS B ι)) vs (args.toList.map a.eval) := by
      refine ⟨by simp only [List.length_map]; omega, fun i v u' hv hu' => ?_⟩
      have hlt : i < ds.length := by rw [h1]; exact (List.getElem?_eq_some_iff.1 hv).1
      have hdi : ds[i]? = some ds[i] := List.getElem?_eq_getElem hlt
      obtain ⟨v', h3, h4⟩ := h2 i ds[i] hdi
      rw [h3] at hv; cases hv
      obtain ⟨y, h5, h6⟩ := zip_mem hl hdi
      rw [List.getElem?_map, h5] at hu'
      cases hu'
      exact vw_sound S hh (fun _ h => h) (fun id b h => absurd rfl h) (S.ev (hE (y, ds[i]) (List.mem_cons_of_mem _ h6))) v h4
    cases hfn with
    | fn _ _ _ us ws hs1 hs2 hv1 hv2 =>
      have hrun : (execOp a.eval o).run P w = .ok (.enter f (us ++ args.map a.eval ++ ws)) w := by
        simp [execOp, ho, resolve, hu, Deferred.ofValue, invoke, hp.1]
      rw [hrun]
      refine ⟨fun h => by simp [WF, Fence.wide] at h, CallsIn.mono (callsWF _ (hp.2 w (imS B ι) _ ?_)) ?_⟩
      · have p1 : PW (RepV w (imS B ι)) first us.toList := pw_array hs1 hv1
        have p2 : PW (RepV w (imS B ι)) cap ws.toList := pw_array hs2 hv2
        have p := (p1.append hargs).append p2
        simpa using p
      · rintro en w' ⟨g, cp, rfl, hb, hg, hbl⟩
        obtain ⟨S1, hk⟩ := S.grow hb.os hb.tape hb.output hb.size hb.block
        have hnid : s.h nid = .res := hFs (nid, .res) (by simp)
        have hgs : ∀ b, (Con.row g es.length cp).blk = some b → w.heap.size ≤ b ∧ b < w'.heap.size := fun b hb' => by
          have hgb : g = some b := hb'
          refine ⟨hg b hgb, ?_⟩
          obtain ⟨_, _, h | ⟨g', cap', arr, h, h5, _⟩⟩ := hbl
          · have := h.1; rw [hgb] at this; cases this
          · rw [hgb] at h; cases h
            exact (Array.getElem?_eq_some_iff.1 h5).1
        have hinv : ∀ b, (Con.row g es.length cp).blk = some b → g = some b := fun b h => h
        obtain ⟨S2, hk2⟩ := S.fresh (w' := w') hnid (.row g es.length cp) (.row e sz es) hgs hb.os hb.tape hb.output hb.size hb.block (fun hk' => by
          obtain ⟨b1, b2, b3⟩ := hbl
          refine ⟨b1, b2, ?_⟩
          rcases b3 with b3 | ⟨g', cp', arr, b4, b5, b6, b7, b8, b9⟩
          · exact .inl b3
          · refine .inr ⟨g', cp', arr, b4, b5, b6, b7, b8, fun i j el v u a1 a2 a3 => (b9 i j el v u a1 a2 a3).mono fun b hbb _ => ⟨?_, rfl⟩⟩
            obtain ⟨c1, c2⟩ := hbb
            rcases c1 with c1 | c1
            · by_cases hlt : b < w.heap.size
              · exact (hk' b c1 hlt).1
              · refine ⟨.inr (.inl (Nat.le_trans S.size (Nat.le_of_not_lt hlt))), fun id hid => ?_⟩
                by_cases hidn : id = nid
                · subst hidn; rw [upd_same] at hid; exact c2 (hinv b hid)
                · rw [upd_ne _ _ hidn] at hid; exact hlt (S.bnd id b hid).1
            · refine ⟨.inr (.inl (Nat.le_trans S.size c1)), fun id hid => ?_⟩
              by_cases hidn : id = nid
              · subst hidn; rw [upd_same] at hid; exact c2 (hinv b hid)
              · rw [upd_ne _ _ hidn] at hid
                have := (S.bnd id b hid).1; omega)
        refine ⟨by rw [put_size]; exact hN, upd ι nid (.row g es.length cp), ?_⟩
        refine Sim.putAny (s := { s with h := upd s.h nid (.row e sz es) }) S2 (by rw [hN]; exact hd) (.own nid _ (by rw [upd_same]; simp) fun g' n' c' h => ?_)
        rw [upd_same] at h
        cases h; rfl

end
end Go.Vd
