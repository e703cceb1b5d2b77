/- Functions of whose answer only something is known: their contracts, and calls of them in regions of one order. -/
import Derived.Test.YtjbfplfopagpjaaA13
namespace Go.Vd
open Go.RowKit

/-- As PCall, but the answer is only known to be such. -/
def PCallE (P : Program) (f : FuncId) (ds : List V) (R : V → Prop) : Prop :=
  (∀ args w, (callFunc f args).run P w = .ok (.enter f args) w) ∧
  ∀ (w : World) (im : Nat → Prop) (us : Array Value), PW (RepV w im) ds us.toList →
    Calls P f us w fun e w' => ∃ r u, R r ∧ e = .returned u ∧ Below w.heap.size w w' ∧ RepV w' (fun b => im b ∨ w.heap.size ≤ b) r u

theorem PCall.toE {P : Program} {f : FuncId} {ds : List V} {r : V} {R : V → Prop} (h : PCall P f ds r) (hr : R r) : PCallE P f ds R :=
  ⟨h.1, fun w im us hp => Calls.mono (h.2 w im us hp) fun _ _ ⟨u, h1, h2, h3⟩ => ⟨r, u, hr, h1, h2, h3⟩⟩

theorem PCallE.mono {P : Program} {f : FuncId} {ds : List V} {R R' : V → Prop} (h : PCallE P f ds R) (hr : ∀ r, R r → R' r) : PCallE P f ds R' :=
  ⟨h.1, fun w im us hp => Calls.mono (h.2 w im us hp) fun _ _ ⟨r, u, h0, h1, h2, h3⟩ => ⟨r, u, hr r h0, h1, h2, h3⟩⟩

def FnPostE (tab : Tab) (rs : List ResultVar) (R : V → Prop) : Exit → St → Prop
  | .normal, s => (∃ v, retV tab s rs = some v ∧ R v) ∧ Nat.ble s.m.d 1 = true
  | .ret, s => (∃ v, retV tab s rs = some v ∧ R v) ∧ Nat.ble s.m.d 1 = true
  | _, _ => False

section
variable {P : Program} {tab : Tab} {r : Option Nat} {𝔅 : BB} {ops : List Oper} {lab : Option Lab} {i : Nat} {o : Oper} {rest : List Oper} {tl : List (Nat × D)} {hl : List (Nat × Blk)} {m : MM} {K : St → Prop} {k : Nat}

theorem pcalle_of_wp (hT : tabOk P tab = true) {f : FuncId} {fn : Func} {c : Code} {ds : List V} {R : V → Prop} {N : Nat} {rs : List ResultVar} (hf : P.funcs[f]? = some fn) (hb : fn.body = some c)
    (hen : ∀ args w, (callFunc f args).run P w = .ok (.enter f args) w) (hN : fn.ntmps = N) (hlen : Nat.ble ds.length N = true) (hrs : fn.results = rs.toArray)
    (h : ∀ w im, Wp P none N (only ⟨w, im, fun _ => False⟩) c (FnPostE tab rs R) (start ds)) : PCallE P f ds R := by
  refine ⟨hen, fun w im us hp => ?_⟩
  have hlen' := Nat.le_of_ble_eq_true hlen
  have hsz : us.size = ds.length := by simpa using hp.1
  have S0 := sim_start (B := ⟨w, im, fun _ => False⟩) (N := fn.ntmps) rfl hp
  have hq : ∀ s : St, ((∃ v, retV tab s rs = some v ∧ R v) ∧ Nat.ble s.m.d 1 = true) → (Nat.ble s.m.d 1 = true ∧ ∃ ds, resDs tab s rs = some ds ∧ (fun ds (h : Nat → Blk) => ∃ v, (match vwL h ds with | some [x] => some x | some xs => some (.tup xs) | none => none) = some v ∧ R v) ds s.h) := by
    intro s ⟨⟨v, h1, hR⟩, h2⟩
    refine ⟨h2, ?_⟩
    unfold retV at h1
    cases hd : resDs tab s rs with
    | none => rw [hd] at h1; cases h1
    | some dsr => rw [hd] at h1; exact ⟨dsr, rfl, v, h1, hR⟩
  refine Calls.mono (calls_of_wp hT (K := fun ds (h : Nat → Blk) _ => ∃ v, (match vwL h ds with | some [x] => some x | some xs => some (.tup xs) | none => none) = some v ∧ R v) hf hb hN (by omega) hrs S0 (wp_mono (h w im) fun e s hp => ?_)) ?_
  · cases e with
    | normal => exact hq s hp
    | ret => exact hq s hp
    | _ => exact hp.elim
  · rintro e w2 ⟨dsr, us', s2, ι, a2, rfl, ⟨res, hret, hR⟩, S2, hpw⟩
    refine ⟨res, _, hR, rfl, ⟨S2.os, S2.tape, S2.output, S2.size, fun k hk => S2.frame k hk (fun h => h)⟩, ?_⟩
    cases hvl : vwL s2.h dsr with
    | none => simp only [hvl] at hret; cases hret
    | some xs =>
      simp only [hvl] at hret
      have hv := ret_view S2 hpw hvl
      unfold retOf
      by_cases h1l : us'.toArray.size = 1
      · rw [dif_pos h1l]
        have : xs.length = 1 := by have := hv.1; simp at h1l; omega
        match xs, this with
        | [x], _ =>
          simp at hret; subst hret
          refine hv.2 0 x _ rfl ?_
          have : 0 < us'.length := by simp at h1l; omega
          simp [this]
      · rw [dif_neg h1l]
        have hne : xs.length ≠ 1 := by have := hv.1; simp at h1l; omega
        have hr : res = .tup xs := by
          match xs, hne with
          | [], _ => simp at hret; exact hret.symm
          | _ :: _ :: _, _ => simp at hret; exact hret.symm
        subst hr
        exact .tup _ _ (by simp [hv.1]) (fun i v u hv' hu => hv.2 i v u hv' (by simpa using hu))

theorem pce_of (hT : tabOk P tab = true) {f : FuncId} {fn : Func} {c : Code} {ds : List V} {R : V → Prop} {N : Nat} {rs : List ResultVar} (hf : P.funcs[f]? = some fn) (hb : fn.body = some c) (hn : (fn.name == "runtime.NumGoroutine") = false)
    (hN : fn.ntmps = N) (hrs : fn.results = rs.toArray) (tl : List (Nat × D)) (ht : HasT (start ds) tl) (hlen : Nat.ble ds.length N = true) (hi : (tl.all fun p => p.2.inn []) = true)
    (h : ∀ B, Wp P none N B c (FnPostE tab rs R) (mk tl [] 0)) : PCallE P f ds R :=
  pcalle_of_wp hT hf hb (enter_of hf hb hn) hN hlen hrs fun _ _ => wp_start tl ht hi (h _)

theorem ret_postE {rs : List ResultVar} {s : St} {v : V} {R : V → Prop} (h : retV tab s rs = some v) (hm : Nat.ble s.m.d 1 = true) (he : R v) : FnPostE tab rs R .ret s := ⟨⟨v, h, he⟩, hm⟩
theorem end_postE {rs : List ResultVar} {s : St} {v : V} {R : V → Prop} (h : retV tab s rs = some v) (hm : Nat.ble s.m.d 1 = true) (he : R v) : FnPostE tab rs R .normal s := ⟨⟨v, h, he⟩, hm⟩

/-- A call of such a function, in a region of one order. -/
theorem ar_callE {f : FuncId} {x : Operand} {args : Array Operand} {ats : Array TypeId} {dx : D} {E : List (Operand × D)} {first vs cap ds : List V} {R : V → Prop} (F : List (Nat × Blk)) (hp : PCallE P f ds R)
    (ho : o.op = .call { callee := .value x, args := args, argTypes := ats }) (hx : (mk tl hl m).ev x = some dx) (hvx : vw (hF F) dx = some (.fn (.func f) first cap)) (hE : evsE (mk tl hl m) args.toList = some E) (ha : vwL (hF F) (E.map (·.2)) = some vs) (hds : first ++ vs ++ cap = ds)
    (hFs : HasH (mk tl hl m) F) (hs : F = [] ∨ ∀ v, R v → v.sc = true) (hlab : lab = none) (hd : o.dst = some k) (hg : wantA ops (mk tl hl m) o.guard = some true) (h : ∀ v, R v → ARun P r 𝔅 ops lab (i + 1) rest (mk ((k, .v v) :: tl) hl m) K) : ARun P r 𝔅 ops lab i (o :: rest) (mk tl hl m) K := by
  refine .inr ⟨fun s' => ∃ v, R v ∧ s' = mk ((k, .v v) :: tl) hl m, ⟨hlab, hg, fun N a w n Q ⟨hN, B, ι, hB, S⟩ hd' => ?_⟩, ?_⟩
  · refine ⟨fun _ _ => trivial, ?_⟩
    rw [Oper.semAt_eq _ _ _ (by rw [ho]; simp)]
    obtain ⟨hE1, hE2⟩ := evsE_spec hE
    have hh := hF_or (s := mk tl hl m) (F := F) hFs.all
    have key : ∃ im' : Nat → Prop, (∀ b, imS B ι b → im' b) ∧ (∀ id b, hF F id ≠ .dead → (ι id).blk = some b → im' b) ∧ (F = [] → ∀ b, im' b → imS B ι b) := by
      by_cases hFn : F = []
      · exact ⟨imS B ι, fun _ h => h, fun id b h => by rw [hFn] at h; exact absurd rfl h, fun _ _ h => h⟩
      · exact ⟨fun _ => True, fun _ _ => trivial, fun _ _ _ _ => trivial, fun h => absurd h hFn⟩
    obtain ⟨im', hi, hown, him⟩ := key
    have hfn := vw_sound S hh hi hown (S.ev hx) _ hvx
    generalize hu : a.eval x = u at hfn
    obtain ⟨h1, h2⟩ := vwL_get ha
    have hargs : PW (RepV w im') vs (args.toList.map a.eval) := by
      rw [← hE1]
      refine ⟨by simp only [List.length_map] at h1 ⊢; omega, fun i v u' hv hu' => ?_⟩
      have hlt : i < E.length := by have := (List.getElem?_eq_some_iff.1 hv).1; simp only [List.length_map] at h1; omega
      obtain ⟨v', h3, h4⟩ := h2 i E[i].2 (by simp [hlt])
      rw [h3] at hv; cases hv
      simp only [List.getElem?_map, List.getElem?_eq_getElem hlt, Option.map_some, Option.some.injEq] at hu'
      subst hu'
      exact vw_sound S hh hi hown (S.ev (hE2 E[i] (List.getElem_mem hlt))) v h4
    subst hds
    cases hfn with
    | fn _ _ _ us ws hs1 hs2 hv1 hv2 =>
      have hrun : (execOp a.eval o).run P w = .ok (.enter f (us ++ args.map a.eval ++ ws)) w := by
        simp [execOp, ho, resolve, hu, Deferred.ofValue, invoke, hp.1]
      rw [hrun]
      refine ⟨fun h => by simp [WF, Fence.wide] at h, CallsIn.mono (callsWF _ (hp.2 w im' _ ?_)) ?_⟩
      · have p1 : PW (RepV w im') first us.toList := pw_array hs1 hv1
        have p2 : PW (RepV w im') cap ws.toList := pw_array hs2 hv2
        have p := (p1.append hargs).append p2
        simpa using p
      · rintro e w' ⟨v, u', hR, rfl, hb, hr⟩
        obtain ⟨S', hk⟩ := S.grow hb.os hb.tape hb.output hb.size hb.block
        refine ⟨_, ⟨v, hR, rfl⟩, by rw [put_size]; exact hN, B, ι, hB, ?_⟩
        have := Sim.putAny (s := mk tl hl m) S' (dst := o.dst) (by rw [hN]; exact hd') (d := .v v) (u := u') (.v ?_)
        · rw [hd] at this ⊢; exact this
        rcases hs with hF0 | hsc
        · refine hr.mono fun b hbb _ => ⟨?_, rfl⟩
          rcases hbb with h3 | h3
          · exact him hF0 b h3
          · exact ⟨.inr (.inl (Nat.le_trans S.size h3)), fun id hid => by have := (S.bnd id b hid).1; omega⟩
        · exact hr.scal (hsc v hR)
  · rintro s' ⟨v, hv, rfl⟩
    exact h v hv

end
end Go.Vd
