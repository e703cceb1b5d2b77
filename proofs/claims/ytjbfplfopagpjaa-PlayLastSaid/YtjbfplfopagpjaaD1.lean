/- From what a row says of its arguments to data, and back. -/
import Derived.Test.YtjbfplfopagpjaaB0
import Derived.Test.YtjbfplfopagpjaaRows
import Derived.ProofKit
namespace Go.Vd
open Go.RowKit Go.ChangeShapes

def Reads (P : Program) (T : TypeId) {α : Type} (en : α → List V) (ok : α → Prop) : Prop :=
  ∀ (H : Type) (enc : TypeId × Value → H) (w : World) (spare : Nat → Bool) (held : Bool) (fuel : Nat) (cs : List Value) (x : DataW H × List MemPlace),
    DataW.trod enc P w 0 spare held fuel T cs = some x → ∃ v : α, ok v ∧ PW (RepV w (fun _ => True)) (en v) cs

section
variable {P : Program} {T : TypeId}

theorem pw_one {R : V → Value → Prop} {v : V} {u : Value} (h : R v u) : PW R [v] [u] := ⟨rfl, fun i x y hx hy => by
  cases i with
  | zero => simp at hx hy; subst hx; subst hy; exact h
  | succ i => simp at hx⟩

theorem reads_int {k : IntKind} (ht : P.underlying T = some (.int k)) : Reads P T (fun n : Int => [.int k n]) (fun n => k.min ≤ n ∧ n ≤ k.max) := by
  intro H enc w spare held fuel cs x h
  obtain ⟨n, rfl, _, hw⟩ := DataW.trod_int ht h
  simp only [Lit.wf, Bool.and_eq_true, decide_eq_true_eq] at hw
  exact ⟨n, hw, pw_one (.int k n)⟩
theorem reads_bool (ht : P.underlying T = some .bool) : Reads P T encB (fun _ => True) := by
  intro H enc w spare held fuel cs x h
  obtain ⟨b, rfl, _⟩ := DataW.trod_bool ht h
  exact ⟨b, trivial, pw_one (.bool b)⟩
theorem reads_str (ht : P.underlying T = some .string) : Reads P T (fun s : ByteArray => [.str s]) (fun s => s.size ≤ 9223372036854775807) := by
  intro H enc w spare held fuel cs x h
  obtain ⟨s, rfl, _, hs⟩ := DataW.trod_string ht h
  exact ⟨s, hs, pw_one (.str s)⟩

theorem reads_slice {e sz : Nat} {α : Type} {en : α → List V} {ok : α → Prop} (ht : P.underlying T = some (.slice e)) (hsz : P.cellsOf e = sz) (h0 : 0 < sz) (he : Reads P e en ok) (hen : ∀ a, (en a).length = sz) :
    Reads P T (fun xs : List α => [.sl (xs.map en)]) (fun xs => xs.length ≤ 9223372036854775807 ∧ ∀ a, a ∈ xs → ok a) := by
  intro H enc w spare held fuel cs x h
  rcases DataW.trod_slice ht h with ⟨rfl, _⟩ | ⟨ad, len, cap, elems, rest, n, _, rfl, _, hb, hl, hm, hlen, hel, _⟩
  · exact ⟨[], ⟨by simp, by simp⟩, pw_one (.sl0 _ _)⟩
  · have key : ∀ i : Fin len, ∃ v : α, ok v ∧ ∃ ci : List Value, w.cells? 0 (ad.add (i.1 * sz)) sz = some ci ∧ PW (RepV w (fun _ => True)) (en v) ci := by
      intro i
      have h1 := hel i.1 i.2
      rw [hsz, List.getElem?_eq_getElem (by omega : i.1 < elems.length)] at h1
      obtain ⟨ci, h2, h3⟩ := Option.bind_eq_some_iff.1 h1
      obtain ⟨v, h4, h5⟩ := he H enc w spare held n ci _ h3
      exact ⟨v, h4, ci, h2, h5⟩
    refine ⟨List.ofFn fun i => Classical.choose (key i), ⟨by simp [maxLen] at hm ⊢; omega, fun a ha => ?_⟩, ?_⟩
    · obtain ⟨i, rfl⟩ := (List.mem_ofFn).1 ha
      exact (Classical.choose_spec (key i)).1
    · by_cases hz : len = 0
      · subst hz
        exact pw_one (by simpa using RepV.sl0 (some ad) cap)
      · obtain ⟨c0, h1, _⟩ := (Classical.choose_spec (key ⟨0, by omega⟩)).2
        obtain ⟨_, h2, h3⟩ := World.cells?_some h1
        have h4 := h3 0 h0
        have hne : c0[0]? = some c0[0] := List.getElem?_eq_getElem (by omega)
        rw [hne] at h4
        simp only [Nat.zero_mul, Addr.add, if_true] at h4
        have hspot : ad.spot = none := by
          unfold World.cell? at h4
          split at h4
          · split at h4
            · cases h4
            · rename_i hs; simpa using hs
          · cases h4
        obtain ⟨b, o, sp⟩ := ad
        simp only at hspot
        subst hspot
        have hlt : b < w.heap.size := by
          unfold World.cell? at h4
          split at h4
          · rename_i hh; exact (Array.getElem?_eq_some_iff.1 hh).1
          · cases h4
        have hcell : ∀ (i : Fin len) (j : Nat), j < sz → ∃ ci : List Value, PW (RepV w (fun _ => True)) (en (Classical.choose (key i))) ci ∧ w.cell? ⟨b, o + i.1 * sz + j, none⟩ = ci[j]? ∧ j < ci.length := by
          intro i j hj
          obtain ⟨ci, q1, q2⟩ := (Classical.choose_spec (key i)).2
          obtain ⟨_, q3, q4⟩ := World.cells?_some q1
          refine ⟨ci, q2, ?_, by omega⟩
          have := q4 j hj
          rwa [Addr.add_lit, Addr.add_lit] at this
        refine pw_one ?_
        have hL : ((List.ofFn fun i => Classical.choose (key i)).map en).length = len := by simp
        have := RepV.sl (w := w) (im := fun _ => True) ((List.ofFn fun i => Classical.choose (key i)).map en) b o sz cap trivial hlt (by rw [hL]; exact hl) (fun e he => by
          obtain ⟨a, _, rfl⟩ := List.mem_map.1 he
          exact hen a) (fun i j hi hj => by
          rw [hL] at hi
          obtain ⟨ci, _, q2, q3⟩ := hcell ⟨i, hi⟩ j hj
          rw [q2]; simp [q3]) (fun i j el v u hel' hv hu => by
          have hi : i < len := by have := (List.getElem?_eq_some_iff.1 hel').1; omega
          have hel2 : el = en (Classical.choose (key ⟨i, hi⟩)) := by simpa [hi] using hel'.symm
          subst hel2
          have hj : j < sz := by have := (List.getElem?_eq_some_iff.1 hv).1; rw [hen] at this; exact this
          obtain ⟨ci, q1, q2, q3⟩ := hcell ⟨i, hi⟩ j hj
          rw [q2] at hu
          exact q1.2 j v u hv hu)
        rw [hL] at this
        exact this

/-- Fields, one by one. -/
def ReadsF (P : Program) (N : Nat) (flds : List (Nat × Nat)) (o : Nat) {α : Type} (en : α → List V) (ok : α → Prop) : Prop :=
  ∀ (H : Type) (enc : TypeId × Value → H) (w : World) (spare : Nat → Bool) (held : Bool) (n : Nat) (cs : List Value), cs.length = N →
    (∀ (i o t : Nat), flds[i]? = some (o, t) → ∃ x, DataW.trod enc P w 0 spare held n t ((cs.drop o).take (P.cellsOf t)) = some x) → ∃ v : α, ok v ∧ PW (RepV w (fun _ => True)) (en v) (cs.drop o)

theorem readsF_nil {N o : Nat} (h : N ≤ o) : ReadsF P N [] o (fun _ : Unit => []) (fun _ => True) := by
  intro H enc w spare held n cs hN _
  exact ⟨(), trivial, by rw [List.drop_eq_nil_of_le (by omega)]; exact PW.nil⟩

theorem readsF_cons {N o o' t sz : Nat} {rest : List (Nat × Nat)} {α β : Type} {en : α → List V} {ok : α → Prop} {en' : β → List V} {ok' : β → Prop} (ht : Reads P t en ok) (hsz : P.cellsOf t = sz) (ho : o + sz = o') (hr : ReadsF P N rest o' en' ok') :
    ReadsF P N ((o, t) :: rest) o (fun p : α × β => en p.1 ++ en' p.2) (fun p => ok p.1 ∧ ok' p.2) := by
  intro H enc w spare held n cs hN h
  obtain ⟨x, hx⟩ := h 0 o t rfl
  rw [hsz] at hx
  obtain ⟨v, h1, h2⟩ := ht H enc w spare held n _ x hx
  obtain ⟨v', h3, h4⟩ := hr H enc w spare held n cs hN (fun i o t hi => h (i + 1) o t hi)
  refine ⟨(v, v'), ⟨h1, h3⟩, ?_⟩
  have := h2.append h4
  rwa [← ho, ← List.drop_drop, List.take_append_drop] at this

theorem reads_struct {fs : Array Field} {N : Nat} {flds : List (Nat × Nat)} {α : Type} {en : α → List V} {ok : α → Prop} (ht : P.underlying T = some (.struct fs)) (hN : P.cellsOf T = N) (hf : (fs.toList.map fun f => (f.offset, f.type)) = flds) (hr : ReadsF P N flds 0 en ok) : Reads P T en ok := by
  intro H enc w spare held fuel cs x h
  obtain ⟨xs, n, _, _, hl, hxs, hi⟩ := DataW.trod_struct ht h
  obtain ⟨v, h1, h2⟩ := hr H enc w spare held n cs (by rw [hl, hN]) (fun i o t hio => by
    rw [← hf, List.getElem?_map, Option.map_eq_some_iff] at hio
    obtain ⟨f, h3, h4⟩ := hio
    cases h4
    have h5 := hi i f (by simpa using h3)
    have hlt : i < xs.length := by have := (List.getElem?_eq_some_iff.1 h3).1; simp at this; omega
    rw [List.getElem?_eq_getElem hlt] at h5
    exact ⟨_, h5⟩)
  exact ⟨v, h1, by simpa using h2⟩

theorem Reads.map {α β : Type} {en : α → List V} {ok : α → Prop} {en' : β → List V} {ok' : β → Prop} (h : Reads P T en ok) (g : α → β) (hg : ∀ a, en' (g a) = en a) (ho : ∀ a, ok a → ok' (g a)) : Reads P T en' ok' := by
  intro H enc w spare held fuel cs x hx
  obtain ⟨v, h1, h2⟩ := h H enc w spare held fuel cs x hx
  exact ⟨g v, ho v h1, by rw [hg]; exact h2⟩

/-- An argument of a type with an outer form of cells. -/
theorem arg_agg {H : Type} {enc : TypeId × Value → H} {w : World} {spare : Nat → Bool} {held : Bool} {v : Value} {d : DataW H} {ps : List MemPlace} {α : Type} {en : α → List V} {ok : α → Prop} (h : Reads P T en ok)
    (hd : DataW.Trod enc P w 0 spare held T v d ps) {cs : Array Value} (hv : v = .agg cs) : ∃ x, ok x ∧ RepV w (fun _ => True) (.agg (en x)) v := by
  obtain ⟨fuel, hf⟩ := hd
  obtain ⟨x, h1, h2⟩ := h H enc w spare held fuel _ _ hf
  subst hv
  refine ⟨x, h1, .agg _ _ (by simpa [Value.cells] using h2.1) fun i a u ha hu => h2.2 i a u ha (by simpa [Value.cells] using hu)⟩
theorem arg_one {H : Type} {enc : TypeId × Value → H} {w : World} {spare : Nat → Bool} {held : Bool} {v : Value} {d : DataW H} {ps : List MemPlace} {α : Type} {en : α → V} {ok : α → Prop} (h : Reads P T (fun x => [en x]) ok)
    (hd : DataW.Trod enc P w 0 spare held T v d ps) (hv : ∀ cs, v ≠ .agg cs) : ∃ x, ok x ∧ RepV w (fun _ => True) (en x) v := by
  obtain ⟨fuel, hf⟩ := hd
  obtain ⟨x, h1, h2⟩ := h H enc w spare held fuel _ _ hf
  have hc : v.cells = #[v] := by
    cases v with
    | agg cs => exact absurd rfl (hv cs)
    | _ => rfl
  rw [hc] at h2
  exact ⟨x, h1, h2.2 0 _ v rfl rfl⟩

/-- The row's demand behind the call, where nothing that was there has turned, for a function that tells true. -/
theorem post_true {H : Type} {enc : TypeId × Value → H} {f : Func} {s : ChangeSpec} {apart : Bool} {W W' : World} {args : Array Value} {ds gs : List (DataW H)} {before : List MemPlace} {T : TypeId}
    (hW : DataW.Whole enc P f.params.toList s.vars apart W args.toList ds gs before) (hb : Below W.heap.size W W') (hT : P.underlying T = some .bool) (hrt : f.resultTypes = #[T])
    (hres : (s.fn H (ds ++ gs)).results = [.lit (.bool true)])
    (hargs : ∀ sp : Nat → Bool, (∀ p ∈ before, sp p.block = true) → DataW.TrodAll enc P W' 0 sp true f.params.toList args.toList (s.fn H (ds ++ gs)).args before)
    (hvars : ∀ sp : Nat → Bool, DataW.TrodVars enc P W' sp s.vars (s.fn H (ds ++ gs)).vars []) :
    s.post enc P f apart true false false W args (.bool true) W' := by
  have hold : ∀ p ∈ before, (fun b => decide (b < W.heap.size)) p.block = true := fun p hp => by simpa using hW.lt p hp
  have htrue : ∀ (b : Nat) (sp : Nat → Bool) (hd : Bool), DataW.TrodAll enc P W' b sp hd f.resultTypes.toList ((Value.bool true).resultList f.resultTypes.size) (s.fn H (ds ++ gs)).results [] := by
    intro b sp hd
    rw [hres, hrt]
    exact trodAll_mk1 (shut_bool hT true)
  refine ⟨ds, gs, before, [], before, [], hW, htrue _ _ _, hargs _ hold, hvars _, hb.frame _, fun _ => ?_⟩
  obtain ⟨_, _, _, _, _, hz, hn⟩ := hW
  refine ⟨?_, _, _, ([] ++ before) ++ [], ⟨[] ++ before, [], trodAll_append (hargs _ (fun _ _ => rfl)) (htrue _ _ _), hvars _, rfl, ?_, ?_⟩, ?_⟩
  · exact ok_one hrt rfl (okWide_bool_mk hT true)
  · intro b off hp
    have hp' : MemPlace.cell b off ∈ before := by simpa using hp
    rw [hb.frozen (p := ⟨b, off, none⟩) (show b < W.heap.size by have := hold _ hp'; exact of_decide_eq_true this)]
    exact hz b off hp'
  · intro ha
    simpa using hn ha
  · intro p hp _
    simpa using hp

end
end Go.Vd
