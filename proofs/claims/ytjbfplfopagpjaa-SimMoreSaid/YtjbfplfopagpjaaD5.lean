/- Arguments with what they weigh. -/
import Derived.Test.YtjbfplfopagpjaaD4
import Derived.SizedLaws
namespace Go.Vd
open Go.Proofs Go.RowKit Go.ChangeShapes

def ReadsW (P : Program) (T : TypeId) {α : Type} (en : α → List V) (ok : α → Prop) : Prop :=
  ∀ (H : Type) (enc : TypeId × Value → H) (w : World) (spare : Nat → Bool) (held : Bool) (fuel : Nat) (cs : List Value) (x : DataW H × List MemPlace),
    DataW.trod enc P w 0 spare held fuel T cs = some x → (∀ n ∈ x.1.weights P T, n ≤ reachBytes) → ∃ v : α, ok v ∧ PW (RepV w (fun _ => True)) (en v) cs

section
variable {P : Program} {T : TypeId}
theorem Reads.toW {α : Type} {en : α → List V} {ok : α → Prop} (h : Reads P T en ok) : ReadsW P T en ok := fun H enc w spare held fuel cs x hx _ => h H enc w spare held fuel cs x hx
theorem readsW_slice {e b : Nat} {α : Type} {en : α → List V} {ok : List α → Prop} (ht : P.underlying T = some (.slice e)) (hb : P.bytesOf e = b) (h : Reads P T (fun xs : List α => [.sl (xs.map en)]) ok) :
    ReadsW P T (fun xs : List α => [.sl (xs.map en)]) (fun xs => ok xs ∧ xs.length * b ≤ reachBytes) := by
  intro H enc w spare held fuel cs x hx hw
  obtain ⟨v, h1, h2⟩ := h H enc w spare held fuel cs x hx
  refine ⟨v, ⟨h1, ?_⟩, h2⟩
  have hlen : ∀ a n c, cs = [.slice a n c] → v.length = n := by
    intro a n c he
    subst he
    obtain ⟨a', c', h3⟩ := repV_sl_inv (h2.2 0 _ _ rfl rfl)
    simp at h3
    exact h3.2.1.symm
  rcases DataW.trod_slice ht hx with ⟨hc, _⟩ | ⟨ad, len, cap, elems, rest, n, _, hc, rfl, _, hl, hm, hlen', _⟩
  · rw [hlen _ _ _ hc]; simp
  · rw [hlen _ _ _ hc, ← hlen', ← hb]
    have := hw ((elems.length + rest.length) * P.bytesOf e) (by simp [DataW.weights, ht])
    exact Nat.le_trans (Nat.mul_le_mul_right _ (Nat.le_add_right _ _)) this
def ReadsFW (P : Program) (N : Nat) (flds : List (Nat × Nat)) (o : Nat) {α : Type} (en : α → List V) (ok : α → Prop) : Prop :=
  ∀ (H : Type) (enc : TypeId × Value → H) (w : World) (spare : Nat → Bool) (held : Bool) (n : Nat) (cs : List Value), cs.length = N →
    (∀ (i o t : Nat), flds[i]? = some (o, t) → ∃ x, DataW.trod enc P w 0 spare held n t ((cs.drop o).take (P.cellsOf t)) = some x ∧ ∀ n ∈ x.1.weights P t, n ≤ reachBytes) → ∃ v : α, ok v ∧ PW (RepV w (fun _ => True)) (en v) (cs.drop o)
theorem readsFW_nil {N o : Nat} (h : N ≤ o) : ReadsFW P N [] o (fun _ : Unit => []) (fun _ => True) := by
  intro H enc w spare held n cs hN _
  exact ⟨(), trivial, by rw [List.drop_eq_nil_of_le (by omega)]; exact PW.nil⟩
theorem readsFW_cons {N o o' t sz : Nat} {rest : List (Nat × Nat)} {α β : Type} {en : α → List V} {ok : α → Prop} {en' : β → List V} {ok' : β → Prop} (ht : ReadsW P t en ok) (hsz : P.cellsOf t = sz) (ho : o + sz = o') (hr : ReadsFW P N rest o' en' ok') :
    ReadsFW P N ((o, t) :: rest) o (fun p : α × β => en p.1 ++ en' p.2) (fun p => ok p.1 ∧ ok' p.2) := by
  intro H enc w spare held n cs hN h
  obtain ⟨x, hx, hw⟩ := h 0 o t rfl
  rw [hsz] at hx
  obtain ⟨v, h1, h2⟩ := ht H enc w spare held n _ x hx hw
  obtain ⟨v', h3, h4⟩ := hr H enc w spare held n cs hN (fun i o t hi => h (i + 1) o t hi)
  refine ⟨(v, v'), ⟨h1, h3⟩, ?_⟩
  have := h2.append h4
  rwa [← ho, ← List.drop_drop, List.take_append_drop] at this
theorem readsW_struct {fs : Array Field} {N : Nat} {flds : List (Nat × Nat)} {α : Type} {en : α → List V} {ok : α → Prop} (ht : P.underlying T = some (.struct fs)) (hN : P.cellsOf T = N) (hf : (fs.toList.map fun f => (f.offset, f.type)) = flds) (hr : ReadsFW P N flds 0 en ok) : ReadsW P T en ok := by
  intro H enc w spare held fuel cs x h hw
  obtain ⟨xs, n, _, hxe, hl, hxs, hi⟩ := DataW.trod_struct ht h
  obtain ⟨v, h1, h2⟩ := hr H enc w spare held n cs (by rw [hl, hN]) (fun i o t hio => by
    rw [← hf, List.getElem?_map, Option.map_eq_some_iff] at hio
    obtain ⟨f, h3, h4⟩ := hio
    cases h4
    have h5 := hi i f (by simpa using h3)
    have hlt : i < xs.length := by have := (List.getElem?_eq_some_iff.1 h3).1; simp at this; omega
    rw [List.getElem?_eq_getElem hlt] at h5
    refine ⟨_, h5, fun n hn => hw n ?_⟩
    subst hxe
    simp only [DataW.weights, ht]
    exact DataW.weights_mem_each (j := i) (t := f.type) (d := xs[i].1) (by rw [List.getElem?_map, h3]; rfl) (by simp [hlt]) n hn)
  exact ⟨v, h1, by simpa using h2⟩
theorem ReadsW.map {α β : Type} {en : α → List V} {ok : α → Prop} {en' : β → List V} {ok' : β → Prop} (h : ReadsW P T en ok) (g : α → β) (hg : ∀ a, en' (g a) = en a) (ho : ∀ a, ok a → ok' (g a)) : ReadsW P T en' ok' := by
  intro H enc w spare held fuel cs x hx hw
  obtain ⟨v, h1, h2⟩ := h H enc w spare held fuel cs x hx hw
  exact ⟨g v, ho v h1, by rw [hg]; exact h2⟩
theorem arg_aggW {H : Type} {enc : TypeId × Value → H} {w : World} {spare : Nat → Bool} {held : Bool} {v : Value} {d : DataW H} {ps : List MemPlace} {α : Type} {en : α → List V} {ok : α → Prop} (h : ReadsW P T en ok)
    (hd : DataW.Trod enc P w 0 spare held T v d ps) {cs : Array Value} (hv : v = .agg cs) (hw : ∀ n ∈ d.weights P T, n ≤ reachBytes) : ∃ x, ok x ∧ RepV w (fun _ => True) (.agg (en x)) v := by
  obtain ⟨fuel, hf⟩ := hd
  obtain ⟨x, h1, h2⟩ := h H enc w spare held fuel _ _ hf hw
  subst hv
  refine ⟨x, h1, .agg _ _ (by simpa [Value.cells] using h2.1) fun i a u ha hu => h2.2 i a u ha (by simpa [Value.cells] using hu)⟩
theorem weight_at {H : Type} {ts : List TypeId} {ds : List (DataW H)} (h : (DataW.weightsEach P ts ds).all (· ≤ reachBytes) = true) {j : Nat} {t : TypeId} {d : DataW H} (ht : ts[j]? = some t) (hd : ds[j]? = some d) : ∀ n ∈ d.weights P t, n ≤ reachBytes :=
  fun n hn => by simpa using List.all_eq_true.1 h n (DataW.weights_mem_each ht hd n hn)
end
theorem rd23W : ReadsW Try.prog 23 (fun xs => [slG xs]) (fun xs => lenOk xs ∧ xs.length * 16 ≤ reachBytes) := readsW_slice (e := 58) Try.underlying23 (by kernel_rfl) rd23
theorem rd27W : ReadsW Try.prog 27 encA (fun a => Fit a ∧ a.g.length * 16 ≤ reachBytes) :=
  (readsW_struct (T := 27) (N := 7) (flds := [(0, 3), (1, 22), (2, 23), (3, 24), (4, 24), (5, 24), (6, 25)]) Try.underlying27 (by kernel_rfl) rfl
    (readsFW_cons (sz := 1) (o' := 1) rd3.toW (by kernel_rfl) rfl (readsFW_cons (sz := 1) (o' := 2) rd22.toW (by kernel_rfl) rfl (readsFW_cons (sz := 1) (o' := 3) rd23W (by kernel_rfl) rfl (readsFW_cons (sz := 1) (o' := 4) rd24.toW (by kernel_rfl) rfl
      (readsFW_cons (sz := 1) (o' := 5) rd24.toW (by kernel_rfl) rfl (readsFW_cons (sz := 1) (o' := 6) rd24.toW (by kernel_rfl) rfl (readsFW_cons (sz := 1) (o' := 7) rd25.toW (by kernel_rfl) rfl (readsFW_nil (Nat.le_refl _)))))))))).map
    (fun p => (⟨p.1, p.2.1, p.2.2.1, p.2.2.2.1, p.2.2.2.2.1, p.2.2.2.2.2.1, p.2.2.2.2.2.2.1⟩ : Aig)) (fun _ => rfl)
    (fun p h => ⟨⟨h.2.1, h.2.2.1.1, h.2.2.2.1, h.2.2.2.2.1, h.2.2.2.2.2.1, h.2.2.2.2.2.2.1.1, fun j hj => h.2.2.2.2.2.2.1.2 _ (getD_mem hj)⟩, h.2.2.1.2⟩)
end Go.Vd
