/- Calls that turn a variable of the caller's; the lesser of two numbers. -/
import Derived.Test.YtjbfplfopagpjaaA19
namespace Go.Vd
open Go.RowKit

/-- A function that is handed a variable of its caller's, by its address: what it answers, and what the variable holds then. -/
def PMut (P : Program) (f : FuncId) (cs ds cs' : List V) (r : V) : Prop :=
  (∀ args w, (callFunc f args).run P w = .ok (.enter f args) w) ∧
  ∀ (w : World) (im : Nat → Prop) (b : Nat) (ty : TypeId) (arr us : Array Value), w.heap[b]? = some (.cells arr ty (0, 0)) → ¬ im b → PW (RepV w im) cs arr.toList → PW (RepV w im) ds us.toList →
    Calls P f (#[.pointer (some ⟨b, 0, none⟩)] ++ us) w fun e w' => ∃ u, e = .returned u ∧ w'.os = w.os ∧ w'.tape = w.tape ∧ w'.output = w.output ∧ w.heap.size ≤ w'.heap.size ∧ (∀ c, c < w.heap.size → c ≠ b → w'.heap[c]? = w.heap[c]?) ∧
      (∃ arr' ty', w'.heap[b]? = some (.cells arr' ty' (0, 0)) ∧ PW (RepV w' (fun c => (im c ∨ w.heap.size ≤ c) ∧ c ≠ b)) cs' arr'.toList) ∧ RepV w' (fun c => (im c ∨ w.heap.size ≤ c) ∧ c ≠ b) r u

def mask (h : Nat → Blk) (id : Nat) : Blk := bif Nat.beq id 900 then .dead else h id

def startM (b : Nat) (cs ds : List V) : St := ⟨fun n => (match n with | 0 => some (.ptr 900 0) | n + 1 => (ds[n]?).map .v), fun id => bif Nat.beq id 900 then .box (cs.map .v) else .res, ⟨0, 0, [(900, b)]⟩⟩

def FnPostM (t : Nat) (r : V) (cs' : List V) (b : Nat) : Exit → St → Prop
  | .ret, s => (∃ d, s.t t = some d ∧ vw (mask s.h) d = some r) ∧ s.h 900 = .box (cs'.map .v) ∧ s.m.pins = [(900, b)] ∧ Nat.ble s.m.d 1 = true
  | _, _ => False

section
variable {P : Program} {tab : Tab} {r : Option Nat} {o : Oper}

theorem pmut_of_wp (hT : tabOk P tab = true) {f : FuncId} {fn : Func} {c : Code} {cs ds cs' : List V} {res : V} {N t : Nat} (hf : P.funcs[f]? = some fn) (hb : fn.body = some c)
    (hen : ∀ args w, (callFunc f args).run P w = .ok (.enter f args) w) (hN : fn.ntmps = N) (hlen : Nat.ble (ds.length + 1) N = true) (hrs : fn.results = [ResultVar.tmp t].toArray)
    (h : ∀ B b, Wp P none N B c (FnPostM t res cs' b) (startM b cs ds)) : PMut P f cs ds cs' res := by
  refine ⟨hen, fun w im b ty arr us hcell him hcs hds => ?_⟩
  have hlen' := Nat.le_of_ble_eq_true hlen
  have hsz : us.size = ds.length := by simpa using hds.1
  have hblt : b < w.heap.size := (Array.getElem?_eq_some_iff.1 hcell).1
  let B : Base := ⟨w, im, fun c => c = b⟩
  let ι0 : Nat → Con := fun id => bif Nat.beq id 900 then .box b else .res
  have hι : ι0 900 = .box b := rfl
  have hι' : ∀ id, id ≠ 900 → ι0 id = .res := fun id hid => by
    have : Nat.beq id 900 = false := by
      cases hb : Nat.beq id 900 with
      | false => rfl
      | true => exact absurd (Nat.eq_of_beq_eq_true hb) hid
    simp [ι0, this]
  have hblk : ∀ id q, (ι0 id).blk = some q → id = 900 ∧ q = b := by
    intro id q hq
    by_cases hid : id = 900
    · subst hid; rw [hι] at hq; cases hq; exact ⟨rfl, rfl⟩
    · rw [hι' id hid] at hq; cases hq
  have him0 : ∀ q, im q → imS B ι0 q := fun q hq => ⟨.inl hq, fun id hid => by obtain ⟨_, rfl⟩ := hblk id q hid; exact him hq⟩
  have hvs : (#[Value.pointer (some ⟨b, 0, none⟩)] ++ us).size = ds.length + 1 := by simp; omega
  have hv0 : (#[Value.pointer (some ⟨b, 0, none⟩)] ++ us)[0]? = some (.pointer (some ⟨b, 0, none⟩)) := by rw [Array.getElem?_append_left (by simp)]; rfl
  have hvn : ∀ n, (#[Value.pointer (some ⟨b, 0, none⟩)] ++ us)[n + 1]? = us[n]? := fun n => by rw [Array.getElem?_append_right (by simp)]; simp
  generalize #[Value.pointer (some ⟨b, 0, none⟩)] ++ us = vs at hvs hv0 hvn ⊢
  have S0 : Sim B (startM b cs ds) ι0 { tmps := vs ++ Array.replicate (fn.ntmps - vs.size) undef, defers := [] } w := by
    refine ⟨rfl, rfl, rfl, Nat.le_refl _, fun _ _ _ => rfl, fun id id' q h h' => by rw [(hblk id q h).1, (hblk id' q h').1], fun id q h => by obtain ⟨_, rfl⟩ := hblk id q h; exact ⟨hblt, .inr rfl⟩, fun id => ?_, fun n d hn => ?_, rfl, fun p hp => ?_, fun d hd => by cases hd⟩
    · by_cases hid : id = 900
      · subst hid
        refine ⟨b, arr, ty, rfl, hcell, by simpa using hcs.1, fun i d u hd hu => ?_⟩
        rw [List.getElem?_map] at hd
        cases hc : cs[i]? with
        | none => rw [hc] at hd; cases hd
        | some x => rw [hc] at hd; cases hd; exact .v ((hcs.2 i x u hc (by simpa using hu)).mono fun q hq _ => ⟨him0 q hq, rfl⟩)
      · have : Nat.beq id 900 = false := by
          cases hb : Nat.beq id 900 with
          | false => rfl
          | true => exact absurd (Nat.eq_of_beq_eq_true hb) hid
        show BlkRel w _ ι0 (bif Nat.beq id 900 then .box (cs.map .v) else .res) (ι0 id)
        rw [hι' id hid, this]; rfl
    · cases n with
      | zero =>
        simp only [startM, Option.some.injEq] at hn
        subst hn
        have h0 : 0 < vs.size := by omega
        refine ⟨.pointer (some ⟨b, 0, none⟩), by rw [Array.getElem?_append_left h0]; exact hv0, .ptr 900 0 _ (by rw [hι]; simp) fun q hq => ?_⟩
        rw [hι] at hq; cases hq; rfl
      | succ n =>
        simp only [startM, Option.map_eq_some_iff] at hn
        obtain ⟨x, hx, rfl⟩ := hn
        have hlt : n < us.size := by rw [hsz]; exact (List.getElem?_eq_some_iff.1 hx).1
        refine ⟨us[n], by rw [Array.getElem?_append_left (by omega), hvn, Array.getElem?_eq_getElem hlt], .v ((hds.2 n x us[n] hx (by simp [hlt])).mono fun q hq _ => ⟨him0 q hq, rfl⟩)⟩
    · simp only [startM, List.mem_singleton] at hp
      subst hp; exact .inl hι
  refine Calls.mono (calls_of_wp hT (K := fun ds (h : Nat → Blk) pins => vwL (mask h) ds = some [res] ∧ h 900 = .box (cs'.map .v) ∧ pins = [(900, b)]) hf hb hN (by omega) hrs S0 (wp_mono (h _ b) fun e s hp => ?_)) ?_
  · cases e with
    | ret =>
      obtain ⟨⟨d, h1, h2⟩, h3, h4, h5⟩ := hp
      exact ⟨h5, [d], by simp [resDs, resD, h1], by simp [vwL, h2], h3, h4⟩
    | _ => exact hp.elim
  · rintro e w2 ⟨dsr, us', s2, ι, a2, rfl, ⟨hv, h900, hpins⟩, S2, hpw⟩
    obtain ⟨b', arr', ty', h1, h2, h3, h4⟩ := blk_box S2 h900
    have hbb : b' = b := by
      have := S2.pins (900, b) (by rw [hpins]; simp)
      rcases this with h | h
      · rw [h1] at h; cases h; rfl
      · rw [h1] at h; cases h
    subst hbb
    obtain ⟨h5, h6⟩ := vwL_get hv
    have h7 : dsr.length = 1 := by simpa using h5
    obtain ⟨u, hu⟩ : ∃ u, us' = [u] := by
      have := hpw.1
      match us', this with
      | [u], _ => exact ⟨u, rfl⟩
      | [], h => simp at h; omega
      | _ :: _ :: _, h => simp at h; omega
    subst hu
    have him2 : ∀ q, imS B ι q → (im q ∨ w.heap.size ≤ q) ∧ q ≠ b' := fun q hq => by
      refine ⟨?_, fun e => hq.2 900 (by rw [h1, e]; rfl)⟩
      rcases hq.1 with h | h | h
      · exact .inl h
      · exact .inr h
      · exact absurd (show (ι 900).blk = some q by rw [h1]; exact congrArg some h.symm) (hq.2 900)
    have hret : retOf [u] = u := rfl
    refine ⟨u, by rw [hret], S2.os, S2.tape, S2.output, S2.size, fun c hc hne => S2.frame c hc hne, ⟨arr', ty', h2, ?_⟩, ?_⟩
    · refine ⟨by simpa using h3, fun i x y hx hy => ?_⟩
      exact (repD_v_inv (h4 i (.v x) y (by simp [hx]) (by simpa using hy))).mono fun q hq _ => ⟨him2 q hq, rfl⟩
    · obtain ⟨x, h8, h9⟩ := h6 0 dsr[0] (List.getElem?_eq_getElem (by omega))
      simp at h8
      subst h8
      refine vw_sound S2 (h := mask s2.h) (fun id => ?_) him2 (fun id q hne hq => ?_) (hpw.2 0 dsr[0] u (List.getElem?_eq_getElem (by omega)) rfl) _ h9
      · unfold mask
        cases Nat.beq id 900 with
        | true => exact .inl rfl
        | false => exact .inr rfl
      · have hid : id ≠ 900 := fun e => by subst e; exact hne rfl
        refine ⟨?_, fun e => hid (S2.inj id 900 q hq (by rw [h1, e]; rfl))⟩
        rcases (S2.bnd id q hq).2 with h | h
        · exact .inr h
        · exact absurd (S2.inj id 900 q hq (by rw [h1]; exact congrArg some h.symm)) hid

/-- A call of such a function. -/
theorem step_callM {f : FuncId} {x y : Operand} {zs : List Operand} {ats : Array TypeId} {ds : List D} {cs vs cs' : List V} {id : Nat} {res : V}
    (ho : o.op = .call { callee := .value x, args := (y :: zs).toArray, argTypes := ats }) (ha : vwL (hF []) ds = some vs) (hl : ds.length = zs.length)
    (hp : PMut P f cs vs cs' res) : Step P r o ((x, .v (.fn (.func f) [] [])) :: (y, .ptr id 0) :: zs.zip ds) [(id, .box (cs.map .v))] (.v res) [(id, .box (cs'.map .v))] where
  ops p hp' := by
    rw [ho]
    simp only [Op.operands, Call.operands]
    rcases List.mem_cons.1 hp' with rfl | h
    · simp
    · rcases List.mem_cons.1 h with rfl | h
      · simp
      · have := (List.of_mem_zip h).1
        simp only [Array.mem_append, List.mem_toArray, List.mem_cons, List.not_mem_nil, or_false]
        exact .inr (.inr (by simpa using this))
  snd s hE hFs B N ι a w n Q S hN hd := by
    refine ⟨fun _ _ => trivial, ?_⟩
    rw [Oper.semAt_eq _ _ _ (by rw [ho]; simp)]
    have hh : ∀ id, hF [] id = .dead ∨ hF [] id = s.h id := fun _ => .inl rfl
    have hfn := repD_v_inv (S.ev (hE (x, .v (.fn (.func f) [] [])) List.mem_cons_self))
    have hb : s.h id = .box (cs.map .v) := hFs (id, .box (cs.map .v)) (by simp)
    obtain ⟨b, arr, ty, h1, h2, h3, h4⟩ := blk_box S hb
    have hptr := (S.ev (hE (y, .ptr id 0) (by simp))).ptr_inv.2 b h1
    generalize hu : a.eval x = u at hfn
    obtain ⟨h5, h6⟩ := vwL_get ha
    have hargs : PW (RepV w (imS B ι)) vs (zs.map a.eval) := by
      refine ⟨by simp only [List.length_map]; omega, fun i v u' hv hu' => ?_⟩
      have hlt : i < ds.length := by rw [h5]; exact (List.getElem?_eq_some_iff.1 hv).1
      have hdi : ds[i]? = some ds[i] := List.getElem?_eq_getElem hlt
      obtain ⟨v', h7, h8⟩ := h6 i ds[i] hdi
      rw [h7] at hv; cases hv
      obtain ⟨q, h9, h10⟩ := zip_mem hl hdi
      rw [List.getElem?_map, h9] at hu'
      cases hu'
      exact vw_sound S hh (fun _ h => h) (fun id b h => absurd rfl h) (S.ev (hE (q, ds[i]) (List.mem_cons_of_mem _ (List.mem_cons_of_mem _ h10)))) v h8
    cases hfn with
    | fn _ _ _ us ws hs1 hs2 hv1 hv2 =>
      have hus : us = #[] := Array.eq_empty_of_size_eq_zero (by simpa using hs1)
      have hws : ws = #[] := Array.eq_empty_of_size_eq_zero (by simpa using hs2)
      subst hus; subst hws
      have hrun : (execOp a.eval o).run P w = .ok (.enter f (#[.pointer (some ⟨b, 0, none⟩)] ++ (zs.map a.eval).toArray)) w := by
        simp [execOp, ho, resolve, hu, Deferred.ofValue, invoke, hp.1, hptr]
      rw [hrun]
      have hcs : PW (RepV w (imS B ι)) cs arr.toList := ⟨by simpa using h3, fun i v u' hv hu' => repD_v_inv (h4 i (.v v) u' (by simp [hv]) (by simpa using hu'))⟩
      refine ⟨fun h => by simp [WF, Fence.wide] at h, CallsIn.mono (callsWF _ (hp.2 w (imS B ι) b ty arr _ h2 (fun hi => hi.2 id (by rw [h1]; rfl)) hcs (by simpa using hargs))) ?_⟩
      rintro e w' ⟨u', rfl, q1, q2, q3, q4, q5, ⟨arr', ty', q6, q7⟩, q8⟩
      have hbl : (ι id).blk = some b := by rw [h1]; rfl
      have hi2 : ∀ q, ((imS B ι q ∨ w.heap.size ≤ q) ∧ q ≠ b) → imS B ι q := fun q ⟨hq, _⟩ => by
        rcases hq with hq | hq
        · exact hq
        · exact ⟨.inr (.inl (Nat.le_trans S.size hq)), fun id' hid => by have := (S.bnd id' q hid).1; omega⟩
      have S' := S.turn (w' := w') (.box (cs'.map .v)) hbl q1 q2 q3 q4 (fun c hc hne => q5 c hc hne) (fun _ => by
        rw [h1]
        refine ⟨b, arr', ty', rfl, q6, by simpa using q7.1, fun i d u hd hu => ?_⟩
        rw [List.getElem?_map] at hd
        cases hc : cs'[i]? with
        | none => rw [hc] at hd; cases hd
        | some x => rw [hc] at hd; cases hd; exact .v ((q7.2 i x u hc (by simpa using hu)).mono fun q hq _ => ⟨hi2 q hq, rfl⟩))
      refine ⟨by rw [put_size]; exact hN, ι, ?_⟩
      exact Sim.putAny (s := { s with h := upd s.h id (.box (cs'.map .v)) }) S' (by rw [hN]; exact hd) (.v (q8.mono fun q hq _ => ⟨hi2 q hq, rfl⟩))
end

section
variable {P : Program} {tab : Tab} {r : Option Nat} {𝔅 : BB} {ops : List Oper} {lab : Option Lab} {i : Nat} {o : Oper} {rest : List Oper} {tl : List (Nat × D)} {hl : List (Nat × Blk)} {m : MM} {K : St → Prop} {k : Nat}

theorem ar_callM {f : FuncId} {x y : Operand} {zs : List Operand} {ats : Array TypeId} {E : List (Operand × D)} {cs vs ds cs' : List V} {hcs hcs' : List D} {res : V} (id : Nat) (hp : PMut P f cs ds cs' res)
    (ho : o.op = .call { callee := .value x, args := (y :: zs).toArray, argTypes := ats }) (hx : (mk tl hl m).ev x = some (.v (.fn (.func f) [] []))) (hy : (mk tl hl m).ev y = some (.ptr id 0)) (hE : evsE (mk tl hl m) zs = some E) (ha : vwL (hF []) (E.map (·.2)) = some vs) (hds : vs = ds)
    (hh : (mk tl hl m).h id = .box hcs) (hc : hcs = cs.map .v) (hc' : cs'.map .v = hcs') (hlab : labOk lab i [(id, .box hcs)] [(id, .box hcs')] = true) (hd : o.dst = some k) (hg : wantA ops (mk tl hl m) o.guard = some true)
    (h : ARun P r 𝔅 ops lab (i + 1) rest (mk ((k, .v res) :: tl) ((id, .box hcs') :: hl) m) K) : ARun P r 𝔅 ops lab i (o :: rest) (mk tl hl m) K := by
  obtain ⟨h1, h2⟩ := evsE_spec hE
  subst hds; subst hc; subst hc'
  have hz : zs.zip (E.map (·.2)) = E := by rw [← h1]; exact (List.zip_of_prod rfl rfl).symm
  have hstep := step_callM (r := r) (id := id) ho ha (by rw [← h1]; simp) hp
  rw [hz] at hstep
  exact ar_of hstep (fun p hp => by
    rcases List.mem_cons.1 hp with rfl | hp
    · exact hx
    · rcases List.mem_cons.1 hp with rfl | hp
      · exact hy
      · exact h2 p hp) (all1 hh) hlab hd hg h

/-- Such a function's contract, from its body's walk. -/
theorem pm_of (hT : tabOk P tab = true) {f : FuncId} {fn : Func} {c : Code} {cs ds cs' : List V} {res : V} {N t : Nat} (hf : P.funcs[f]? = some fn) (hb : fn.body = some c) (hn : (fn.name == "runtime.NumGoroutine") = false)
    (hN : fn.ntmps = N) (hrs : fn.results = [ResultVar.tmp t].toArray) (tl : List (Nat × D)) (ht : ∀ b, HasT (startM b cs ds) tl) (hlen : Nat.ble (ds.length + 1) N = true) (hi : (tl.all fun p => p.2.inn [900]) = true)
    (h : ∀ B b, Wp P none N B c (FnPostM t res cs' b) (mk tl [(900, .box (cs.map .v))] ⟨0, 0, [(900, b)]⟩)) (hj : innL [900] (cs.map .v) = true) : PMut P f cs ds cs' res :=
  pmut_of_wp hT hf hb (enter_of hf hb hn) hN hlen hrs fun B b => wp_to tl [(900, .box (cs.map .v))] (ht b) ⟨rfl, trivial⟩ rfl hi (by simp [Blk.inn, hj]) rfl (h B b)

theorem retm_post {t b : Nat} {r r' : V} {cs' : List V} {hcs : List D} {d : D} {s : St} (ht : s.t t = some d) (hv : vw (mask s.h) d = some r') (hh : s.h 900 = .box hcs) (hp : s.m.pins = [(900, b)]) (hm : Nat.ble s.m.d 1 = true) (hr : r' = r) (hc : hcs = cs'.map .v) : FnPostM t r cs' b .ret s :=
  ⟨⟨d, ht, hr ▸ hv⟩, hc ▸ hh, hp, hm⟩

theorem ar_min {x y : Operand} {ats : Array TypeId} {kk : IntKind} {a b z : Int} (ho : o.op = .call { callee := .builtin .min, args := #[x, y], argTypes := ats }) (hx0 : (mk tl hl m).ev x = some (.v (.int kk a))) (hx1 : (mk tl hl m).ev y = some (.v (.int kk b))) (hz : min a b = z)
    (hd : o.dst = some k) (hg : wantA ops (mk tl hl m) o.guard = some true) (h : ARun P r 𝔅 ops lab (i + 1) rest (mk ((k, .v (.int kk z)) :: tl) hl m) K) : ARun P r 𝔅 ops lab i (o :: rest) (mk tl hl m) K :=
  ar_of (E := [(x, .v (.int kk a)), (y, .v (.int kk b))]) (F := []) (d := .v (.int kk z)) (e := []) (step_of (by simp [ho, Op.operands, Call.operands]) (by simp [ho]) fun s hE hF => hz ▸ runs_min (t := 0) ho (hE (x, .v (.int kk a)) (by simp)) (hE (y, .v (.int kk b)) (by simp))) (all2 hx0 hx1) all0 labOk_nil hd hg h
end
end Go.Vd
