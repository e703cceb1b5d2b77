/- Walks over data, merged (part 5): what the laws of this claim use. -/
import Derived.Recover
import Derived.RegionTactic
import Derived.Test.YtgnbphnbdaphpaaGreatDoorMd
set_option linter.unusedSimpArgs false
set_option linter.unusedVariables false
namespace Go.Vd
open Go.Proofs Go.RowKit
def dZ (c : UInt8) : Int := if c = 105 then 0 else if c = 108 then 1 else if c = 111 then 2 else if c = 98 then 3 else if c = 99 then 4 else -1
def kinds5 : List UInt8 := [105, 108, 111, 98, 99]
theorem Bq {c : UInt8} {j : Nat} (h : j < 5) (h0 : ∀ i, i < j → kinds5.getD i 0 ≠ c) (h1 : kinds5.getD j 0 = c) : dZ c = j := by
 subst h1
 match j, h with
 | 0, _ => rfl
 | 1, _ => rfl
 | 2, _ => rfl
 | 3, _ => rfl
 | 4, _ => rfl
theorem yb {c : UInt8} (h0 : ∀ i, i < 5 → kinds5.getD i 0 ≠ c) : dZ c = -1 := by
 unfold dZ
 rw [if_neg (fun e => h0 0 (by decide) e.symm), if_neg (fun e => h0 1 (by decide) e.symm), if_neg (fun e => h0 2 (by decide) e.symm), if_neg (fun e => h0 3 (by decide) e.symm), if_neg (fun e => h0 4 (by decide) e.symm)]
def fp (a : Aig) (k : Int) : Int := if k = 0 then a.i else if k = 1 then (a.l.length : Nat) else if k = 2 then (a.outs.length : Nat) else if k = 3 then (a.bad.length : Nat) else if k = 4 then (a.con.length : Nat) else 0
def na (x y : ij) : Bool := decide (dZ x.kind < dZ y.kind) || (decide (dZ x.kind = dZ y.kind) && decide (x.pos < y.pos))
def js (b : List UInt8) (x : At) (lit most : Int) : Latch × At :=
 let n := cN b x most [32]
 let r := cN b n.2 most [10]
 (⟨n.1, r.1⟩, if r.2.bad = 0 ∧ r.1 > 1 ∧ r.1 ≠ lit then ⟨n.2.p, 2⟩ else r.2)
def jF (b : List UInt8) (most : Int) : Nat → At → List Int → List Int × At
 | 0, x, out => (out, x)
 | n + 1, x, out => if x.bad = 0 then jF b most n (cN b x most [10]).2 (out ++ [(cN b x most [10]).1]) else (out, x)
theorem AD {b : List UInt8} {most : Int} {n : Nat} {x : At} {out : List Int} (h : x.bad ≠ 0) : jF b most n x out = (out, x) := by
 cases n with
 | zero => rfl
 | succ n => unfold jF; rw [if_neg h]
theorem ob {b : List UInt8} {most : Int} : ∀ {n : Nat} {x : At} {out : List Int}, x.p ≤ b.length → (jF b most n x out).2.p ≤ b.length
 | 0, _, _, h => h
 | n + 1, x, out, h => by
   unfold jF
   split
   ·exact ob (cQ h)
   ·exact h
structure BX where
 v : Int
 i : Int
 l : Int
 o : Int
 g : Int
 b : Int
 c : Int
 deriving Inhabited
def jI (b : List UInt8) (x : At) : BX × At :=
 let v := cN b x 20000 [32]
 let i := cN b v.2 20000 [32]
 let l := cN b i.2 20000 [32]
 let o := cN b l.2 2000 [32]
 let g := cN b o.2 20000 [32]
 let d := cN b g.2 2000 [32]
 let c := cN b d.2 2000 [10]
 (⟨v.1, i.1, l.1, o.1, g.1, d.1, c.1⟩, if c.2.bad = 0 ∧ v.1 ≠ i.1 + l.1 + g.1 then ⟨x.p, 2⟩ else c.2)
def Hw (i : Int) : Aig := ⟨i, [], [], [], [], [], []⟩
abbrev Ia (h : BX) : V := .agg [.int .i64 h.l, .int .i64 h.o, .int .i64 h.g, .int .i64 h.b, .int .i64 h.c]
theorem jT {b : List UInt8} {x : At} {most : Int} {s : List UInt8} : 0 ≤ (cN b x most s).1 ∧ (cN b x most s).1 ≤ 2147483647 := ⟨numS_val.1, numS_val.2.1⟩
theorem AO (c : UInt8) : dn 23 [.int .u8 c.toNat] (.int .i64 (dZ c)) := by
 refine bC ac (f := 23) (fn := Tryz.f23) (N := 17) (rs := [.tmp 2]) (by kernel_rfl) rfl (by kernel_rfl) rfl rfl [(0, .v (.int .u8 c.toNat))] ⟨rfl, aj⟩ rfl rfl ?_
 intro B
 refine ag<|af J<|ab<|ag<|bZ (es := kinds5.map bV) bG eK [] J aj J<|af J<|ab<|ae<|ag<|af J<|ar ?_
 refine ak<|aw<|aZ (α := Nat) (fun j => mk [(0, .v (.int .u8 c.toNat)), (3, .v (cH kinds5)), (4, .v (.int .i64 j))] [] 0) (fun j => j ≤ 5 ∧ ∀ i, i < j → kinds5.getD i 0 ≠ c) (fun j => 5 - j) 0 ⟨Nat.zero_le _, fun i h => absurd h (Nat.not_lt_zero i)⟩ (aL ⟨J, J, J, aj⟩ aj J J J J) ?_
 rintro j ⟨hj1, hj2⟩
 refine ae<|ag<|aa J<|bj J (fun h7 => ?_) (fun h7 => ?_)
 ·refine ab<|ai J<|ao<|ak<|ae<|aw<|ag<|aa J<|aa J ?_
  refine fZ ac J J J bG J eK (by omega) (ek (n := j) (by show j < 5; omega)) J J J ?_
  refine bu eK J<|aa J<|bc J J J J J (fun h15 => ?_) (fun h15 => ?_)
  ·refine ab<|ai J<|ag<|aa J<|af J<|ab<|am<|az (au (bR (az (au (an J J ?_)))))
   rw [Bq (by omega) hj2 (jz h15)]
  ·refine ab<|ah J<|ao<|aH<|ak<|aF<|aa J<|bh J (by omega) (by omega) J ?_
   refine af J<|ar ?_
   exact aT (j + 1) ⟨by omega, fun i hi => (Nat.lt_succ_iff_lt_or_eq.1 hi).elim (hj2 i) (fun e => by subst e; exact fun he => h15 (congrArg (fun c : UInt8 => (c.toNat : Int)) he))⟩ (by omega) (aL ⟨J, J, J, aj⟩ aj J J J J)
 ·refine ab<|ah J<|aO<|ba (a8 (aP ?_))
  refine ak<|ag<|af J<|ab<|am ?_
  refine an J J ?_
  rw [yb (fun i hi => hj2 i (by omega))]
theorem HB (a : Aig) (k : Int) : dn 24 [bq a, .int .i64 k] (.int .i64 (fp a k)) := by
 refine bC ac (f := 24) (fn := Tryz.f24) (N := 30) (rs := [.tmp 4]) (by kernel_rfl) rfl (by kernel_rfl) rfl rfl [(0, .v (bq a)), (1, .v (.int .i64 k))] ⟨rfl, rfl, aj⟩ rfl rfl ?_
 intro B
 refine ag<|bE 2 [] J J J ⟨J, aj⟩ J J J<|af J<|ab<|ae<|ag<|aa J<|ab<|aw<|ag<|bc J J J J J (fun h7 => ?_) (fun h7 => ?_)
 ·refine af J<|ab<|ai J<|ag<|ax aK J<|aC bm J<|af J<|ab<|am<|az (au (an J J ?_))
  unfold fp
  simp_all
 ·refine af J<|ab<|ah J<|ag<|bc J J J J J (fun h11 => ?_) (fun h11 => ?_)
  ·refine af J<|ab<|ai J<|ag<|ax aK J<|aC cR J<|aI ac J J cR J aB J J<|af J<|ab<|am<|az (au (an J J ?_))
   unfold fp
   simp_all
  ·refine af J<|ab<|ah J<|ag<|bc J J J J J (fun h16 => ?_) (fun h16 => ?_)
   ·refine af J<|ab<|ai J<|ag<|ax aK J<|aC br J<|aI ac J J br J aB J J<|af J<|ab<|am<|az (au (an J J ?_))
    unfold fp
    simp_all
   ·refine af J<|ab<|ah J<|ag<|bc J J J J J (fun h21 => ?_) (fun h21 => ?_)
    ·refine af J<|ab<|ai J<|ag<|ax aK J<|aC br J<|aI ac J J br J aB J J<|af J<|ab<|am<|az (au (an J J ?_))
     unfold fp
     simp_all
    ·refine af J<|ab<|ah J<|ag<|bc J J J J J (fun h26 => ?_) (fun h26 => ?_)
     ·refine af J<|ab<|ai J<|ag<|ax aK J<|aC br J<|aI ac J J br J aB J J<|af J<|ab<|am<|az (au (an J J ?_))
      unfold fp
      simp_all
     ·refine af J<|ab<|ah J<|ao<|aH<|ak<|ag<|af J<|ab<|am ?_
      refine an J J ?_
      unfold fp
      simp_all
theorem G3 (x y : ij) : dn 26 [.agg (ka x), .agg (ka y)] (.bool (na x y)) := by
 refine bC ac (f := 26) (fn := Tryz.f26) (N := 28) (rs := [.tmp 4]) (by kernel_rfl) rfl (by kernel_rfl) rfl rfl [(0, .v (.agg (ka x))), (1, .v (.agg (ka y)))] ⟨rfl, rfl, aj⟩ rfl rfl ?_
 intro B
 refine ag<|bE 2 [] J J J ⟨J, aj⟩ J J J<|bE 3 [] J J J ⟨J, aj⟩ J J J<|af J<|ab<|ag<|ax dC J<|aC eK J<|ap [] (AO x.kind) J J J J J J aj (.inl J) J J J<|af J<|ab<|ae ?_
 refine aF<|ax dC J<|aC eK J<|ap [] (AO y.kind) J J J J J J aj (.inl J) J J J<|af J<|ab<|ag<|aa J<|aa J<|bj J (fun h15 => ?_) (fun h15 => ?_)
 ·refine aa J<|al J<|al J<|al J<|al J<|al J<|al J<|al J<|al J<|al J<|al J<|aV J<|af J<|ab<|am ?_
  refine an J J ?_
  unfold na
  simp_all
 ·refine aa J<|aa J<|aa J<|bc J J J J J (fun h19 => ?_) (fun h19 => ?_)
  ·refine aa J<|ax dC J<|aC bm J<|ax dC J<|aC bm J<|iZ J J J J J J<|aV J<|aJ J<|af J<|ab<|am ?_
   refine an J J ?_
   unfold na
   simp_all
  ·refine aa J<|al J<|al J<|al J<|al J<|al J<|aJ J<|aJ J<|af J<|ab<|am ?_
   refine an J J ?_
   unfold na
   simp_all
theorem F9 (b : List UInt8) (x : At) (h : x.p ≤ b.length) (hb : b.length ≤ 1000000000000) (lit : Int) (most : Int) (hm : -1 ≤ most) (hm2 : most ≤ 1000000000000) : dn 13 [np b x, .int .i64 lit, .int .i64 most] (.tup [.agg (pL (js b x lit most).1), np b (js b x lit most).2]) := by
 refine bC ac (f := 13) (fn := Tryz.f13) (N := 44) (rs := [.cell 6 55, .cell 7 49]) (by kernel_rfl) rfl (by kernel_rfl) rfl rfl [(0, .v (np b x)), (1, .v (.int .i64 lit)), (2, .v (.int .i64 most))] ⟨rfl, rfl, rfl, aj⟩ rfl rfl ?_
 intro B
 refine ag<|bE 3 [] J J J ⟨J, aj⟩ J J J<|bl (id := 6) c7 J<|bl (id := 7) aM J<|ab<|ag<|a7 aM J<|aa J<|ap [] (ju b [32] x most h hb hm hm2 (by decide)) J J J J J J aj (.inl J) J J J ?_
 refine aa J<|aW J<|aW J<|bl (id := 9) aM J<|af J<|aR aM [] J aj J<|ab<|ag<|a7 aM J<|aa J<|ap [] (ju b [10] (cN b x most [32]).2 most (cQ h) hb hm hm2 (by decide)) J J J J J J aj (.inl J) J J J ?_
 refine aa J<|aW J<|aW J<|bl (id := 11) aM J<|af J<|aR aM [] J aj J<|ab<|ae<|ag<|ax aM J<|aC bm J<|bc J J J J J (fun h26 => ?_) (fun h26 => ?_)
 ·refine aa J<|aa J<|bW J J J J J (fun h29 => ?_) (fun h29 => ?_)
  ·refine aV J<|aa J<|aa J<|aa J<|bt J J J J J (fun h34 => ?_) (fun h34 => ?_)
   ·refine aV J<|ab<|ai J<|ag<|ax aM J<|aC bm J<|ax aM J<|aR bm [] J aj J<|ab<|aF<|ax aM J<|aR bm [] J aj J<|ar ?_
    refine ak<|ae<|aS (L := [([], []), ([], []), ([], []), ([11], []), ([6], [6]), ([7], [7])]) (by kernel_rfl) mixed (by kernel_rfl)<|aa J<|aa J<|bD [] ac J c7 J J aj J J J J J J<|a7 aM J<|aR c7 [] J aj J<|aR aM [] J aj J<|ab<|am ?_
    refine an J J ?_
    unfold js
    simp only
    rw [if_pos ⟨by omega, by omega, by omega⟩]; done
   ·refine aV J<|ab<|ah J<|ao<|ak<|ae<|aS (L := [([], []), ([], []), ([], []), ([11], []), ([6], [6]), ([7], [7])]) (by kernel_rfl) mixed (by kernel_rfl)<|aa J<|aa J<|bD [] ac J c7 J J aj J J J J J J<|a7 aM J<|aR c7 [] J aj J<|aR aM [] J aj J<|ab ?_
    refine am ?_
    refine an J J ?_
    unfold js
    simp only
    rw [if_neg (by omega)]; done
  ·refine aV J<|aa J<|al J<|al J<|al J<|aJ J<|ab<|ah J<|ao<|ak<|ae<|aS (L := [([], []), ([], []), ([], []), ([11], []), ([6], [6]), ([7], [7])]) (by kernel_rfl) mixed (by kernel_rfl)<|aa J<|aa J<|bD [] ac J c7 J J aj J J J J J J ?_
   refine a7 aM J<|aR c7 [] J aj J<|aR aM [] J aj J<|ab<|am ?_
   refine an J J ?_
   unfold js
   simp only
   rw [if_neg (by omega)]; done
 ·refine aa J<|al J<|al J<|aJ J<|aa J<|al J<|al J<|al J<|aJ J<|ab<|ah J<|ao<|ak<|ae<|aS (L := [([], []), ([], []), ([], []), ([11], []), ([6], [6]), ([7], [7])]) (by kernel_rfl) mixed (by kernel_rfl) ?_
  refine aa J<|aa J<|bD [] ac J c7 J J aj J J J J J J<|a7 aM J<|aR c7 [] J aj J<|aR aM [] J aj J<|ab<|am ?_
  refine an J J ?_
  unfold js
  simp only
  rw [if_neg (by omega)]; done
theorem Az (b : List UInt8) (x : At) (h : x.p ≤ b.length) (hb : b.length ≤ 1000000000000) (n : Int) (hn : n ≤ 1000000) (most : Int) (hm : -1 ≤ most) (hm2 : most ≤ 1000000000000) : dn 14 [np b x, .int .i64 n, .int .i64 most] (.tup [cf (jF b most n.toNat x []).1, np b (jF b most n.toNat x []).2]) := by
 refine bC ac (f := 14) (fn := Tryz.f14) (N := 35) (rs := [.tmp 6, .cell 7 49]) (by kernel_rfl) rfl (by kernel_rfl) rfl rfl [(0, .v (np b x)), (1, .v (.int .i64 n)), (2, .v (.int .i64 most))] ⟨rfl, rfl, rfl, aj⟩ rfl rfl ?_
 intro B
 refine ag<|bE 3 [] J J J ⟨J, aj⟩ J J J<|af J<|bl (id := 7) aM J<|ab<|ag<|af J<|ab<|ae<|ag<|af J ?_
 refine ab<|aw<|cg (gJ (t := 8) (id := 8) (e := 3) (sz := 1) J J (by decide)) ?_
 refine aZ (α := Nat × At × List Int) (fun ⟨j, y, out⟩ => mk [(1, .v (.int .i64 n)), (2, .v (.int .i64 most)), (3, .ptr 3 0), (7, .ptr 7 0), (8, .own 8), (9, .v (.int .i64 j))] [(3, .box ((eY b y).map .v)), (7, .box [.nils, .v (.int .i64 0), .v (.int .i64 0)]), (8, .row 3 1 (out.map d7))] 0) (fun ⟨j, y, out⟩ => j ≤ n.toNat ∧ jF b most (n.toNat - j) y out = jF b most n.toNat x [] ∧ y.p ≤ b.length ∧ out.length = j) (fun ⟨j, y, out⟩ => n.toNat - j) ⟨0, x, []⟩ ⟨Nat.zero_le _, J, h, J⟩ (aL ⟨J, J, J, J, J, J, aj⟩ ⟨J, J, J, aj⟩ J J J J) ?_
 rintro ⟨j, y, out⟩ ⟨hj1, hj2, hj3, hj4⟩
 refine ae<|ag<|aa J<|aa J<|bj J (fun h14 => ?_) (fun h14 => ?_)
 ·refine aa J<|ax aM J<|aC bm J<|bc J J J J J (fun h18 => ?_) (fun h18 => ?_)
  ·refine aV J<|ab<|ai J<|ao<|ak<|ae<|aw<|ag<|a7 aM J<|aa J<|ap [] (ju b [10] y most hj3 hb hm hm2 (by decide)) J J J J J J aj (.inl J) J J J ?_
   refine aa J<|aW J<|aW J<|bl (id := 11) aM J<|af J<|aR aM [] J aj J<|ab<|ag<|aa J<|aa J<|bZ (es := [(cN b y most [10]).1].map d7) br bm [] J aj J ?_
   refine cw 31 [] ac J br J br J bm J J J J ⟨J, J, aj⟩ J (elOk.cons rfl rfl elOk.nil) cA (by constructor <;> simp <;> omega) J J J ?_
   refine af J<|ab<|aF<|a7 aM J<|aR aM [] J aj J<|ar<|aH<|ak<|aF<|aa J<|bh J (by omega) (by omega) J ?_
   refine af J<|ar ?_
   exact aT ⟨j + 1, (cN b y most [10]).2, out ++ [(cN b y most [10]).1]⟩ ⟨by show j + 1 ≤ _; omega, by show jF b most (n.toNat - (j + 1)) _ _ = _; rw [← hj2, show n.toNat - j = (n.toNat - (j + 1)) + 1 by omega]; conv => rhs; unfold jF; (rw [if_pos h18]), cQ hj3, by simp [hj4]⟩ (by show n.toNat - (j + 1) < n.toNat - j; omega) (cd [(8, 31)] ⟨J, J, J, J, J, J, aj⟩ ⟨J, J, J, aj⟩ J J J J J)
  ·refine aV J<|ab<|ah J<|aO<|ba (a8 (aP ?_))
   refine ak<|ae<|aS (L := [([], []), ([3], []), ([], []), ([7], [7])]) (by kernel_rfl) mixed (by kernel_rfl)<|aa J<|a7 aM J<|af J<|aR aM [] J aj J<|ab<|am ?_
   refine an J J ?_
   have e : jF b most n.toNat x [] = (out, y) := by
    rw [← hj2]
    exact AD (by assumption)
   rw [e]
 ·refine aa J<|al J<|al J<|al J<|aJ J<|ab<|ah J<|aO<|ba (a8 (aP ?_))
  refine ak<|ae<|aS (L := [([], []), ([3], []), ([], []), ([7], [7])]) (by kernel_rfl) mixed (by kernel_rfl)<|aa J<|a7 aM J<|af J<|aR aM [] J aj J<|ab<|am ?_
  refine an J J ?_
  have e : jF b most n.toNat x [] = (out, y) := by
   rw [← hj2]
   rw [show n.toNat - j = 0 by omega]; rfl
  rw [e]
abbrev hv (b : List UInt8) (x : At) := cN b x 20000 [32]
abbrev hi (b : List UInt8) (x : At) := cN b (hv b x).2 20000 [32]
abbrev hl (b : List UInt8) (x : At) := cN b (hi b x).2 20000 [32]
abbrev ho (b : List UInt8) (x : At) := cN b (hl b x).2 2000 [32]
abbrev hg (b : List UInt8) (x : At) := cN b (ho b x).2 20000 [32]
abbrev hd (b : List UInt8) (x : At) := cN b (hg b x).2 2000 [32]
abbrev hc (b : List UInt8) (x : At) := cN b (hd b x).2 2000 [10]
theorem CC {b : List UInt8} {x : At} (h : x.p ≤ b.length) : (hv b x).2.p ≤ b.length ∧ (hi b x).2.p ≤ b.length ∧ (hl b x).2.p ≤ b.length ∧ (ho b x).2.p ≤ b.length ∧ (hg b x).2.p ≤ b.length ∧ (hd b x).2.p ≤ b.length ∧ (hc b x).2.p ≤ b.length := by
 have h1 := cQ (most := 20000) (s := [32]) h
 have h2 := cQ (most := 20000) (s := [32]) h1
 have h3 := cQ (most := 20000) (s := [32]) h2
 have h4 := cQ (most := 2000) (s := [32]) h3
 have h5 := cQ (most := 20000) (s := [32]) h4
 have h6 := cQ (most := 2000) (s := [32]) h5
 exact ⟨h1, h2, h3, h4, h5, h6, cQ h6⟩
theorem HQ (b : List UInt8) (x : At) (h : x.p ≤ b.length) (hb : b.length ≤ 1000000000000) : dh Tryz.prog 10 [.v (np b x)] [] (.ret (.tup [.agg [.v (.int .i64 (jI b x).1.i), .nils, .nils, .nils, .nils, .nils, .nils], .v (Ia (jI b x).1), .v (np b (jI b x).2)]) []) := by
 refine cY ac (f := 10) (fn := Tryz.f10) (N := 79) (rs := [.cell 2 33, .cell 3 47, .cell 4 49]) (by kernel_rfl) rfl (by kernel_rfl) rfl rfl rfl ?_
 intro B β
 refine cT [(0, .v (np b x))] [] ⟨J, aj⟩ aj J J J J ?_
 have hq := CC h
 have v1 := jT (b := b) (x := (hv b x).2) (most := 20000) (s := [32])
 have v2 := jT (b := b) (x := (hi b x).2) (most := 20000) (s := [32])
 have v3 := jT (b := b) (x := (ho b x).2) (most := 20000) (s := [32])
 refine ag<|bE 1 [] J J J ⟨J, aj⟩ J J J<|bl (id := 2) aK J<|bl (id := 3) kM J<|bl (id := 4) aM J<|ab<|ag<|a7 aM J<|ap [] (ju b [32] x 20000 h hb (by decide) (by decide) (by decide)) J J J J J J aj (.inl J) J J J ?_
 refine aa J<|aW J<|aW J<|bl (id := 6) aM J<|af J<|aR aM [] J aj J<|ab<|ag<|a7 aM J<|ap [] (ju b [32] (hv b x).2 20000 hq.1 hb (by decide) (by decide) (by decide)) J J J J J J aj (.inl J) J J J ?_
 refine aa J<|aW J<|aW J<|bl (id := 8) aM J<|af J<|aR aM [] J aj J<|ab<|ag<|a7 aM J<|ap [] (ju b [32] (hi b x).2 20000 hq.2.1 hb (by decide) (by decide) (by decide)) J J J J J J aj (.inl J) J J J ?_
 refine aa J<|aW J<|aW J<|bl (id := 10) aM J<|af J<|aR aM [] J aj J<|ab<|ag<|a7 aM J<|ap [] (ju b [32] (hl b x).2 2000 hq.2.2.1 hb (by decide) (by decide) (by decide)) J J J J J J aj (.inl J) J J J ?_
 refine aa J<|aW J<|aW J<|bl (id := 12) aM J<|af J<|aR aM [] J aj J<|ab<|ag<|a7 aM J<|ap [] (ju b [32] (ho b x).2 20000 hq.2.2.2.1 hb (by decide) (by decide) (by decide)) J J J J J J aj (.inl J) J J J ?_
 refine aa J<|aW J<|aW J<|bl (id := 14) aM J<|af J<|aR aM [] J aj J<|ab<|ag<|a7 aM J<|ap [] (ju b [32] (hg b x).2 2000 hq.2.2.2.2.1 hb (by decide) (by decide) (by decide)) J J J J J J aj (.inl J) J J J ?_
 refine aa J<|aW J<|aW J<|bl (id := 16) aM J<|af J<|aR aM [] J aj J<|ab<|ag<|a7 aM J<|ap [] (ju b [10] (hd b x).2 2000 hq.2.2.2.2.2.1 hb (by decide) (by decide) (by decide)) J J J J J J aj (.inl J) J J J ?_
 refine aa J<|aW J<|aW J<|bl (id := 18) aM J<|af J<|aR aM [] J aj J<|ab<|ae<|ag<|ax aM J<|aC bm J<|bc J J J J J (fun h56 => ?_) (fun h56 => ?_)
 ·refine aa J<|aa J<|aa J<|aa J<|bh J (by omega) (by omega) J ?_
  refine aa J<|bh J (by omega) (by omega) J ?_
  refine bt J J J J J (fun h64 => ?_) (fun h64 => ?_)
  ·refine aV J<|ab<|ai J<|ag<|ax aM J<|aC bm J<|ax aM J<|aR bm [] J aj J<|ab<|aF<|ax aM J<|aR bm [] J aj J<|ar ?_
   refine ak<|ae<|aS (L := [([], []), ([], []), ([], []), ([], []), ([], []), ([], []), ([], []), ([], []), ([18], []), ([2], [2]), ([3], [3]), ([4], [4])]) (by kernel_rfl) mixed (by kernel_rfl)<|aa J<|bD [] ac J aK J J aj J J J J J J<|aa J<|aa J<|aa J<|aa J<|aa J<|ef [] ac J kM J bm J aj J J J J J J<|a7 aM J<|aR aK [] J aj J<|aR kM [] J aj J<|aR aM [] J aj J<|ar ?_
   refine ak<|am ?_
   refine eo (L' := []) J (fa rfl) aj J J J J ?_
   unfold jI
   simp only [hv, hi, hl, ho, hg, hd, hc] at *
   rw [if_pos ⟨by assumption, by omega⟩]; rfl
  ·refine aV J<|ab<|ah J<|ao<|ak<|ae<|aS (L := [([], []), ([], []), ([], []), ([], []), ([], []), ([], []), ([], []), ([], []), ([18], []), ([2], [2]), ([3], [3]), ([4], [4])]) (by kernel_rfl) mixed (by kernel_rfl)<|aa J<|bD [] ac J aK J J aj J J J J J J<|aa J<|aa J<|aa J<|aa J<|aa J<|ef [] ac J kM J bm J aj J J J J J J ?_
   refine a7 aM J<|aR aK [] J aj J<|aR kM [] J aj J<|aR aM [] J aj J<|ab<|am ?_
   refine eo (L' := []) J (fa rfl) aj J J J J ?_
   unfold jI
   simp only [hv, hi, hl, ho, hg, hd, hc] at *
   rw [if_neg (by omega)]; rfl
 ·refine aa J<|al J<|al J<|al J<|al J<|al J<|al J<|al J<|aJ J<|ab<|ah J<|ao<|ak<|ae<|aS (L := [([], []), ([], []), ([], []), ([], []), ([], []), ([], []), ([], []), ([], []), ([18], []), ([2], [2]), ([3], [3]), ([4], [4])]) (by kernel_rfl) mixed (by kernel_rfl) ?_
  refine aa J<|bD [] ac J aK J J aj J J J J J J<|aa J<|aa J<|aa J<|aa J<|aa J<|ef [] ac J kM J bm J aj J J J J J J<|a7 aM J<|aR aK [] J aj J<|aR kM [] J aj J<|aR aM [] J aj J<|ab<|am ?_
  refine eo (L' := []) J (fa rfl) aj J J J J ?_
  unfold jI
  simp only [hv, hi, hl, ho, hg, hd, hc] at *
  rw [if_neg (by omega)]; rfl
end Go.Vd
namespace Go.Vd
open Go.Proofs Go.RowKit
abbrev zE (a : Aig) : ij := a.names.getD ((a.names.length : Int) - 1).toNat default
abbrev tY (a : Aig) (n : ij) : Aig := { a with names := a.names ++ [n] }
abbrev nf (b : List UInt8) (x : At) (a : Aig) := cN b ⟨x.p + 1, x.bad⟩ (fp a (dZ (b.getD x.p 0)) - 1) [32]
abbrev ng (b : List UInt8) (x : At) (a : Aig) := dv b (nf b x a).2.p
abbrev nw (b : List UInt8) (x : At) (a : Aig) := bS b ⟨(ng b x a).2.1, (ng b x a).2.2⟩ [10]
abbrev nn (b : List UInt8) (x : At) (a : Aig) : ij := ⟨b.getD x.p 0, (nf b x a).1, (ng b x a).1⟩
def fK (b : List UInt8) : Nat → At → Aig → Aig × At
 | 0, x, a => (a, x)
 | k + 1, x, a =>
   if x.bad = 0 ∧ x.p < b.length then
    if a.names.length = 2000 then (a, ⟨x.p, 3⟩)
    else if dZ (b.getD x.p 0) < 0 then (a, ⟨x.p, 2⟩)
    else if (nf b x a).2.bad ≠ 0 then (a, (nf b x a).2)
    else if (nw b x a).bad ≠ 0 then (a, nw b x a)
    else if 0 < a.names.length ∧ na (zE a) (nn b x a) = false then (a, ⟨x.p, 2⟩)
    else fK b k (nw b x a) (tY a (nn b x a))
   else (a, x)
theorem nI {b : List UInt8} {k : Nat} {x : At} {a : Aig} (h : x.bad = 0) (h2 : x.p < b.length) : fK b (k + 1) x a =
 if a.names.length = 2000 then (a, ⟨x.p, 3⟩)
 else if dZ (b.getD x.p 0) < 0 then (a, ⟨x.p, 2⟩)
 else if (nf b x a).2.bad ≠ 0 then (a, (nf b x a).2)
 else if (nw b x a).bad ≠ 0 then (a, nw b x a)
 else if 0 < a.names.length ∧ na (zE a) (nn b x a) = false then (a, ⟨x.p, 2⟩)
 else fK b k (nw b x a) (tY a (nn b x a)) := by
 show (if x.bad = 0 ∧ x.p < b.length then _ else _) = _
 rw [if_pos ⟨h, h2⟩]
theorem o8 {b : List UInt8} {k : Nat} {x : At} {a : Aig} (h : ¬ (x.bad = 0 ∧ x.p < b.length)) : fK b k x a = (a, x) := by
 cases k with
 | zero => rfl
 | succ k => unfold fK; rw [if_neg h]
theorem th {b : List UInt8} {p : Nat} (h : p ≤ b.length) : p ≤ (dv b p).2.1 ∧ (dv b p).2.1 ≤ b.length := by
 have := rI b p
 unfold dv
 split
 ·exact ⟨Nat.le_add_right _ _, by show p + _ ≤ _; omega⟩
 ·exact ⟨Nat.le_refl _, h⟩
theorem sy {b : List UInt8} {x : At} {s : List UInt8} : x.p ≤ (bS b x s).p := by
 unfold bS; split
 ·exact Nat.le_refl _
 ·split
  ·exact Nat.le_add_right _ _
  ·exact Nat.le_refl _
theorem BC {b : List UInt8} {x : At} {most : Int} (h : x.p ≤ b.length) : x.p ≤ (ix b x most).2.p := by
 unfold ix; split
 ·exact Nat.le_refl _
 ·exact (gv h).1
theorem xK {b : List UInt8} {x : At} {most : Int} {s : List UInt8} (h : x.p ≤ b.length) : x.p ≤ (cN b x most s).2.p := Nat.le_trans (BC h) sy
theorem HJ {b : List UInt8} {x : At} {a : Aig} (h : x.p < b.length) : (nf b x a).2.p ≤ b.length ∧ (ng b x a).2.1 ≤ b.length ∧ (nw b x a).p ≤ b.length ∧ x.p < (nw b x a).p := by
 have h0 : (At.mk (x.p + 1) x.bad).p ≤ b.length := h
 have h1 := cQ (most := fp a (dZ (b.getD x.p 0)) - 1) (s := [32]) h0
 have h1' := xK (most := fp a (dZ (b.getD x.p 0)) - 1) (s := [32]) h0
 have h2 := th h1
 have h3 : (At.mk (ng b x a).2.1 (ng b x a).2.2).p ≤ b.length := h2.2
 have h4 := cE (s := [10]) h3
 have h4' := sy (b := b) (x := At.mk (ng b x a).2.1 (ng b x a).2.2) (s := [10])
 refine ⟨h1, h2.2, h4, ?_⟩
 have e1 : x.p + 1 ≤ (nf b x a).2.p := h1'
 have e2 : (ng b x a).2.1 ≤ (nw b x a).p := h4'
 have e3 : (nf b x a).2.p ≤ (ng b x a).2.1 := h2.1
 omega
structure pT (a : Aig) : Prop where
 i0 : 0 ≤ a.i
 i1 : a.i ≤ 1000000
 l : a.l.length ≤ 1000000
 o : a.outs.length ≤ 1000000
 b : a.bad.length ≤ 1000000
 c : a.con.length ≤ 1000000
theorem xm {a : Aig} (h : pT a) (k : Int) : 0 ≤ fp a k ∧ fp a k ≤ 1000000 := by
 have := h.i0; have := h.i1; have := h.l; have := h.o; have := h.b; have := h.c
 unfold fp
 repeat' split
 all_goals omega
theorem F0 (b : List UInt8) (x : At) (h : x.p ≤ b.length) (hb : b.length ≤ 1000000000000) (a : Aig) (ha : pT a) (hn : a.names.length ≤ 2000) : dn 16 [np b x, bq a] (.tup [bq (fK b (b.length - x.p) x a).1, np b (fK b (b.length - x.p) x a).2]) := by
 refine bC ac (f := 16) (fn := Tryz.f16) (N := 123) (rs := [.cell 4 33, .cell 5 49]) (by kernel_rfl) rfl (by kernel_rfl) rfl rfl [(0, .v (np b x)), (1, .v (bq a))] ⟨rfl, rfl, aj⟩ rfl rfl ?_
 intro B
 refine ag<|bE 2 [] J J J ⟨J, aj⟩ J J J<|bE 3 [] J J J ⟨J, aj⟩ J J J<|bl (id := 4) aK J<|bl (id := 5) aM J<|ab<|ae<|aw ?_
 refine aZ (α := Nat × At × Aig) (fun ⟨k, y, c⟩ => mk [(2, .ptr 2 0), (3, .ptr 3 0), (4, .ptr 4 0), (5, .ptr 5 0)] [(2, .box ((eY b y).map .v)), (3, .box ((eE c).map .v)), (4, .box [.v (.int .i64 0), .nils, .nils, .nils, .nils, .nils, .nils]), (5, .box [.nils, .v (.int .i64 0), .v (.int .i64 0)])] 0) (fun ⟨k, y, c⟩ => fK b k y c = fK b (b.length - x.p) x a ∧ b.length ≤ y.p + k ∧ y.p ≤ b.length ∧ pT c ∧ c.names.length ≤ 2000) (fun ⟨k, y, c⟩ => b.length - y.p) ⟨b.length - x.p, x, a⟩ ⟨rfl, by show _ ≤ x.p + (_ - x.p); omega, h, ha, hn⟩ (aL ⟨rfl, rfl, rfl, rfl, aj⟩ ⟨rfl, rfl, rfl, rfl, aj⟩ rfl rfl rfl rfl) ?_
 rintro ⟨k, y, c⟩ ⟨hj1, hj2, hj3, hcB, hcn⟩
 refine ae<|ag<|ax aM J<|aC bm J<|bc J J J J J (fun h17 => ?_) (fun h17 => ?_)
 ·refine aa J<|ax aM J<|aC bm J<|ax aM J<|aC bG J<|aI ac J J bG J aB J J<|bj J (fun h24 => ?_) (fun h24 => ?_)
  ·refine aV J<|ab<|ai J<|ao<|ak<|aw<|ae ?_
   have hlt : y.p < b.length := by omega
   have hw := HJ (a := c) hlt
   have hm := xm hcB (dZ (b.getD y.p 0))
   obtain ⟨k', rfl⟩ : ∃ k', k = k' + 1 := ⟨k - 1, by omega⟩
   have hun := nI (k := k') (a := c) h17 hlt
   rw [hj1] at hun
   refine aF<|a7 aM J<|bl (id := 6) aM J<|aR aM [] J aj J<|ab<|ag<|ax aM J<|aC bG J<|ax aM J<|aC bm J<|cj bG eK J (by omega) (ek (n := y.p) hlt) J ?_
   refine bu eK J<|ap [] (AO (b.getD y.p 0)) J J J J J J aj (.inl J) J J J<|af J<|ab<|ae<|ag<|ax aK J<|aC dK J<|aI ac J J dK J aB J J<|bc J J J J J (fun h37 => ?_) (fun h37 => ?_)
   ·refine ab<|ai J<|ag<|ax aM J<|aR bm [] J aj J<|ab<|ae<|aS (L := [([3], []), ([6], []), ([4], [4]), ([5], [5])]) (by kernel_rfl) mixed (by kernel_rfl)<|a7 aK J<|a7 aM J<|aR aK [] J aj J<|aR aM [] J aj J<|ar ?_
    refine ak<|am<|au (az (bR (az (au (an J J ?_)))))
    rw [hun, if_pos (by omega)] <;> rfl
   ·refine ab<|ah J<|ao<|ak<|ae<|ag<|aa J<|bj J (fun h42 => ?_) (fun h42 => ?_)
    ·refine ab<|ai J<|ag<|ax aM J<|aR bm [] J aj J<|ab<|ae<|aS (L := [([3], []), ([6], []), ([4], [4]), ([5], [5])]) (by kernel_rfl) mixed (by kernel_rfl)<|a7 aK J<|a7 aM J<|aR aK [] J aj J<|aR aM [] J aj J<|ar ?_
     refine ak<|am<|au (az (bR (az (au (an J J ?_)))))
     rw [hun, if_neg (by omega), if_pos (by omega)] <;> rfl
    ·refine ab<|ah J<|ao<|ak<|ag<|ax aM J<|aC bm J<|bh J (by omega) (by omega) J ?_
     refine ax aM J<|aR bm [] J aj J<|ab<|ae<|aS (L := [([2], []), ([3], []), ([], []), ([], []), ([], []), ([], []), ([], []), ([], []), ([], []), ([9], [9]), ([], []), ([9], [9])]) (by kernel_rfl) mixed (by kernel_rfl)<|a7 aM J<|a7 aK J<|aa J<|ap [] (HB c (dZ (b.getD y.p 0))) J J J J J J aj (.inl J) J J J<|bX J J J J (by omega) (by omega) J J ?_
     refine ap [] (ju b [32] ⟨y.p + 1, y.bad⟩ (fp c (dZ (b.getD y.p 0)) - 1) hlt hb (by omega) (by omega) (by decide)) J J J J J J aj (.inl J) J J J ?_
     refine aa J<|aW J<|aW J<|bl (id := 9) aM J<|af J<|aR aM [] J aj J<|ab<|ae<|ag<|ax aM J<|aC bm J<|bt J J J J J (fun h61 => ?_) (fun h61 => ?_)
     ·refine ab<|ai J<|ae<|aS (L := [([3], []), ([9], []), ([4], [4]), ([5], [5])]) (by kernel_rfl) mixed (by kernel_rfl)<|a7 aK J<|a7 aM J<|aR aK [] J aj J<|aR aM [] J aj J<|ab<|am<|au (az (bR (az (au (an J J ?_)))))
      rw [hun, if_neg (by omega), if_neg (by omega), if_pos h61] <;> rfl
     ·refine ab<|ah J<|ao<|ak<|ag<|ax aM J<|aC bG J<|ax aM J<|aC bm J<|ap [] (Hv b (nf b y c).2.p hw.1 hb) J J J J J J aj (.inl J) J J J<|aa J<|aW J<|aW J<|aW J ?_
      refine af J<|af J<|af J<|ab<|ag<|aa J<|ax aM J<|aR bm [] J aj J<|ab<|ag<|aa J<|ax aM J ?_
      refine aR bm [] J aj J<|ab<|ag<|a7 aM J<|ap [] (lF b [10] ⟨(ng b y c).2.1, (ng b y c).2.2⟩ hw.2.1 hb (by decide)) J J J J J J aj (.inl J) J J J ?_
      refine aR aM [] J aj J<|ab<|ae<|ag<|ax aM J<|aC bm J<|bt J J J J J (fun h81 => ?_) (fun h81 => ?_)
      ·refine ab<|ai J<|ae<|aS (L := [([3], []), ([9], []), ([4], [4]), ([5], [5])]) (by kernel_rfl) mixed (by kernel_rfl)<|a7 aK J<|a7 aM J<|aR aK [] J aj J<|aR aM [] J aj J<|ab<|am<|au (az (bR (az (au (an J J ?_)))))
       rw [hun, if_neg (by omega), if_neg (by omega), if_neg h61, if_pos h81] <;> rfl
      ·refine ab<|ah J<|ao<|ak<|ag<|ax aM J<|aC bG J<|ax aM J<|aC bm J<|cj bG eK J (by omega) (ek (n := y.p) hlt) J ?_
       refine bu eK J<|aa J<|aa J<|bD [] ac J dC J J aj J J J J J J<|bl (id := 13) dC J<|aR dC [] J aj J<|ab<|ae<|ag<|ax aK J<|aC dK J<|aI ac J J dK J aB J J<|bW J J J J J (fun h96 => ?_) (fun h96 => ?_)
       ·refine ab<|ai J<|ae<|aS (L := [([3], []), ([3], []), ([3], []), ([3], []), ([], []), ([], []), ([], []), ([], []), ([13], []), ([], []), ([], [])]) (by kernel_rfl) mixed (by kernel_rfl)<|ax aK J<|aC dK J<|ax aK J<|aC dK J<|aI ac J J dK J aB J J<|bX J J J J (by omega) (by omega) J J ?_
        refine cj dK dC J (by omega) (bz (n := ((c.names.length : Int) - 1).toNat) (by omega)) J ?_
        refine cZ ac J J dC J J J J J<|a7 dC J<|ap [] (G3 (zE c) (nn b y c)) J J J J J J aj (.inl J) J J J<|bf (fun h106 => ?_) (fun h106 => ?_)
        ·refine af J<|ab<|ag<|aa J<|bL J<|ab<|ah J<|ao<|ak<|ae<|aS (L := [([112], [112]), ([3], []), ([3], []), ([112, 115], [112, 115]), ([13], []), ([], []), ([115, 118], [115, 118]), ([3], []), ([3, 118], [3])]) (by kernel_rfl) mixed (by kernel_rfl)<|fV (es := ([] : List ij).map ka) 112 [] ac J dK J dC J J ⟨J, aj⟩ J J J J J J J J J<|ax aK J ?_
         refine aC dK J ?_
         refine cw 115 [] ac J dK J dK J dC J J J J ⟨J, J, aj⟩ J (Di _) ke (by constructor <;> simp <;> omega) J J J ?_
         refine a7 dC J<|bZ (es := [nn b y c].map ka) dK dC [] J aj J ?_
         refine cw 118 [] ac J dK J dK J dC J J J J ⟨J, J, aj⟩ J (elOk.cons rfl rfl elOk.nil) cA (by constructor <;> simp <;> omega) J J J ?_
         refine ax aK J<|gF [(118, _)] ac J dK J J J ⟨J, aj⟩ J J J J J J J J<|ab ?_
         have hstep : fK b (k' + 1 - 1) (nw b y c) (tY c (nn b y c)) = fK b (b.length - x.p) x a := by (rw [hun, if_neg (by omega), if_neg (by omega), if_neg h61, if_neg h81, if_neg (fun hh => by rw [h106] at hh; cases hh.2; done)]; rfl)
         refine cg (bp (id := 118) J)<|cT [(2, .ptr 2 0), (3, .ptr 3 0), (4, .ptr 4 0), (5, .ptr 5 0), (9, .ptr 9 0)] [(2, .box ((eY b (At.mk (y.p + 1) y.bad)).map .v)), (3, .box ((eE (tY c (nn b y c))).map .v)), (4, .box [.v (.int .i64 0), .nils, .nils, .nils, .nils, .nils, .nils]), (5, .box [.nils, .v (.int .i64 0), .v (.int .i64 0)]), (9, .box ((eY b (nw b y c)).map .v))] ⟨J, J, J, J, J, aj⟩ ⟨J, J, J, J, J, aj⟩ J J J J<|aF<|a7 aM J<|aR aM [] J aj J<|ar<|aH ?_
         exact aT ⟨k' + 1 - 1, nw b y c, tY c (nn b y c)⟩ ⟨hstep, by show _ ≤ (nw b y c).p + (k' + 1 - 1); omega, hw.2.2.1, ⟨hcB.i0, hcB.i1, hcB.l, hcB.o, hcB.b, hcB.c⟩, by simp; omega⟩ (by show b.length - (nw b y c).p < b.length - y.p; omega) (aL ⟨J, J, J, J, aj⟩ ⟨J, J, J, J, aj⟩ J J J J)
        ·refine af J<|ab<|ag<|aa J<|bL J<|ab<|ai J<|ag<|ax aM J<|aR bm [] J aj J<|ab ?_
         refine ae<|aS (L := [([3], []), ([6], []), ([4], [4]), ([5], [5])]) (by kernel_rfl) mixed (by kernel_rfl)<|a7 aK J<|a7 aM J<|aR aK [] J aj J<|aR aM [] J aj J<|ab<|am<|au (az (bR (az (au (an J J ?_)))))
         rw [hun, if_neg (by omega), if_neg (by omega), if_neg h61, if_neg h81, if_pos ⟨by omega, h106⟩] <;> rfl
       ·refine ab<|ah J<|ao<|ak<|ae<|aS (L := [([112], [112]), ([3], []), ([3], []), ([112, 115], [112, 115]), ([13], []), ([], []), ([115, 118], [115, 118]), ([3], []), ([3, 118], [3])]) (by kernel_rfl) mixed (by kernel_rfl)<|fV (es := ([] : List ij).map ka) 112 [] ac J dK J dC J J ⟨J, aj⟩ J J J J J J J J J<|ax aK J<|aC dK J ?_
        refine cw 115 [] ac J dK J dK J dC J J J J ⟨J, J, aj⟩ J (Di _) ke (by constructor <;> simp <;> omega) J J J ?_
        refine a7 dC J<|bZ (es := [nn b y c].map ka) dK dC [] J aj J ?_
        refine cw 118 [] ac J dK J dK J dC J J J J ⟨J, J, aj⟩ J (elOk.cons rfl rfl elOk.nil) cA (by constructor <;> simp <;> omega) J J J ?_
        refine ax aK J<|gF [(118, _)] ac J dK J J J ⟨J, aj⟩ J J J J J J J J<|ab ?_
        have hstep : fK b (k' + 1 - 1) (nw b y c) (tY c (nn b y c)) = fK b (b.length - x.p) x a := by (rw [hun, if_neg (by omega), if_neg (by omega), if_neg h61, if_neg h81, if_neg (fun hh => by omega)]; rfl)
        refine cg (bp (id := 118) J)<|cT [(2, .ptr 2 0), (3, .ptr 3 0), (4, .ptr 4 0), (5, .ptr 5 0), (9, .ptr 9 0)] [(2, .box ((eY b (At.mk (y.p + 1) y.bad)).map .v)), (3, .box ((eE (tY c (nn b y c))).map .v)), (4, .box [.v (.int .i64 0), .nils, .nils, .nils, .nils, .nils, .nils]), (5, .box [.nils, .v (.int .i64 0), .v (.int .i64 0)]), (9, .box ((eY b (nw b y c)).map .v))] ⟨J, J, J, J, J, aj⟩ ⟨J, J, J, J, J, aj⟩ J J J J<|aF<|a7 aM J<|aR aM [] J aj J<|ar<|aH ?_
        exact aT ⟨k' + 1 - 1, nw b y c, tY c (nn b y c)⟩ ⟨hstep, by show _ ≤ (nw b y c).p + (k' + 1 - 1); omega, hw.2.2.1, ⟨hcB.i0, hcB.i1, hcB.l, hcB.o, hcB.b, hcB.c⟩, by simp; omega⟩ (by show b.length - (nw b y c).p < b.length - y.p; omega) (aL ⟨J, J, J, J, aj⟩ ⟨J, J, J, J, aj⟩ J J J J)
  ·refine aV J<|ab<|ah J<|aO<|ba (a8 (aP ?_))
   refine ak<|ae<|aS (L := [([3], []), ([2], []), ([4], [4]), ([5], [5])]) (by kernel_rfl) mixed (by kernel_rfl)<|a7 aK J<|a7 aM J<|aR aK [] J aj J<|aR aM [] J aj J<|ab<|am ?_
   refine an J J ?_
   rw [← hj1, o8 (by omega)]; done
 ·refine aa J<|al J<|al J<|al J<|al J<|al J<|al J<|aJ J<|ab<|ah J<|aO<|ba (a8 (aP ?_))
  refine ak<|ae<|aS (L := [([3], []), ([2], []), ([4], [4]), ([5], [5])]) (by kernel_rfl) mixed (by kernel_rfl)<|a7 aK J<|a7 aM J<|aR aK [] J aj J<|aR aM [] J aj J<|ab<|am ?_
  refine an J J ?_
  rw [← hj1, o8 (by omega)]; done
end Go.Vd
namespace Go.Vd
open Go.Proofs Go.RowKit
theorem jy {b : List UInt8} {x : At} {most : Int} (h : 0 ≤ most) : (ix b x most).1 ≤ most := by
 unfold ix
 split
 ·exact h
 ·show (bK b x.p most).1 ≤ most
  unfold bK
  split
  ·exact h
  ·split
   ·exact h
   ·rename_i hb; show gD _ ≤ _; omega
structure FF (h : BX) : Prop where
 i0 : 0 ≤ h.i
 i1 : h.i ≤ 20000
 l0 : 0 ≤ h.l
 l1 : h.l ≤ 20000
 o0 : 0 ≤ h.o
 o1 : h.o ≤ 2000
 g0 : 0 ≤ h.g
 g1 : h.g ≤ 20000
 b0 : 0 ≤ h.b
 b1 : h.b ≤ 2000
 c0 : 0 ≤ h.c
 c1 : h.c ≤ 2000
theorem sx (b : List UInt8) (x : At) : FF (jI b x).1 := by
 unfold jI
 exact ⟨numS_val.1, jy (by decide), numS_val.1, jy (by decide), numS_val.1, jy (by decide), numS_val.1, jy (by decide), numS_val.1, jy (by decide), numS_val.1, jy (by decide)⟩
theorem AM {b : List UInt8} {x : At} (h : x.p ≤ b.length) : (jI b x).2.p ≤ b.length := by
 have hq := CC h
 unfold jI
 simp only
 split
 ·exact h
 ·exact hq.2.2.2.2.2.2
def pD (b : List UInt8) : Nat → Nat → At → At
 | 0, _, x => x
 | n + 1, j, x => if x.bad = 0 then pD b n (j + 1) (bS b x (cy (2 * ((j : Int) + 1)) ++ [10])) else x
abbrev Dy (b : List UInt8) (i most : Int) (j : Nat) (x : At) := js b (bS b x (cy (2 * (i + (j : Int) + 1)) ++ [32])) (2 * (i + (j : Int) + 1)) most
def kh (b : List UInt8) (i most : Int) : Nat → Nat → At → List Latch → List Latch × At
 | 0, _, x, ls => (ls, x)
 | n + 1, j, x, ls => if x.bad = 0 then kh b i most n (j + 1) (Dy b i most j x).2 (ls ++ [(Dy b i most j x).1]) else (ls, x)
abbrev gA (b : List UInt8) (k : Int) (j : Nat) (x : At) := cN b (bS b x (cy (2 * (k + (j : Int) + 1)) ++ [32])) (2 * (k + (j : Int) + 1) - 1) [32]
abbrev Ez (b : List UInt8) (k : Int) (j : Nat) (x : At) := cN b (gA b k j x).2 (gA b k j x).1 [10]
def iV (b : List UInt8) (k : Int) : Nat → Nat → At → List Gate → List Gate × At
 | 0, _, x, gs => (gs, x)
 | n + 1, j, x, gs => if x.bad = 0 then iV b k n (j + 1) (Ez b k j x).2 (gs ++ [⟨(gA b k j x).1, (Ez b k j x).1⟩]) else (gs, x)
theorem sK {b : List UInt8} {n j : Nat} {x : At} (h : x.bad ≠ 0) : pD b n j x = x := by
 cases n with
 | zero => rfl
 | succ n => unfold pD; rw [if_neg h]
theorem qh {b : List UInt8} {i most : Int} {n j : Nat} {x : At} {ls : List Latch} (h : x.bad ≠ 0) : kh b i most n j x ls = (ls, x) := by
 cases n with
 | zero => rfl
 | succ n => unfold kh; rw [if_neg h]
theorem oO {b : List UInt8} {k : Int} {n j : Nat} {x : At} {gs : List Gate} (h : x.bad ≠ 0) : iV b k n j x gs = (gs, x) := by
 cases n with
 | zero => rfl
 | succ n => unfold iV; rw [if_neg h]
theorem qS {b : List UInt8} {x : At} {lit most : Int} (h : x.p ≤ b.length) : (js b x lit most).2.p ≤ b.length := by
 unfold js
 simp only
 split
 ·exact cQ h
 ·exact cQ (cQ h)
theorem wC {b : List UInt8} : ∀ {n j : Nat} {x : At}, x.p ≤ b.length → (pD b n j x).p ≤ b.length
 | 0, _, _, h => h
 | n + 1, j, x, h => by
   unfold pD
   split
   ·exact wC (cE h)
   ·exact h
theorem oV {b : List UInt8} {i most : Int} : ∀ {n j : Nat} {x : At} {ls : List Latch}, x.p ≤ b.length → (kh b i most n j x ls).2.p ≤ b.length ∧ (kh b i most n j x ls).1.length ≤ ls.length + n
 | 0, _, _, _, h => ⟨h, Nat.le_refl _⟩
 | n + 1, j, x, ls, h => by
   unfold kh
   split
   ·have := oV (i := i) (most := most) (n := n) (j := j + 1) (ls := ls ++ [(Dy b i most j x).1]) (qS (lit := 2 * (i + (j : Int) + 1)) (most := most) (cE (s := cy (2 * (i + (j : Int) + 1)) ++ [32]) h))
    exact ⟨this.1, Nat.le_trans this.2 (by simp only [List.length_append, List.length_cons, List.length_nil]; omega)⟩
   ·exact ⟨h, by show ls.length ≤ _; omega⟩
theorem mn {b : List UInt8} {most : Int} : ∀ {n : Nat} {x : At} {out : List Int}, (jF b most n x out).1.length ≤ out.length + n
 | 0, _, _ => Nat.le_refl _
 | n + 1, x, out => by
   unfold jF
   split
   ·have h2 := mn (b := b) (most := most) (n := n) (x := (cN b x most [10]).2) (out := out ++ [(cN b x most [10]).1])
    simp only [List.length_append, List.length_cons, List.length_nil] at h2
    omega
   ·show out.length ≤ _; omega
theorem qu {b : List UInt8} {k : Int} : ∀ {n j : Nat} {x : At} {gs : List Gate}, x.p ≤ b.length → (iV b k n j x gs).2.p ≤ b.length
 | 0, _, _, _, h => h
 | n + 1, j, x, gs, h => by
   unfold iV
   split
   ·exact qu (cQ (cQ (cE h)))
   ·exact h
theorem gm {n : Int} (h : -9000000000000 ≤ n) (h' : n ≤ 9000000000000) (c : UInt8) : (cy n ++ [c]).length ≤ 1000000000000 := by
 have := fP n (by omega) (by omega)
 simp; omega
structure I7 where
 h : BX
 x : At
abbrev p0 (b : List UInt8) := jI b (bS b ⟨0, 0⟩ [97, 97, 103, 32])
abbrev pI (b : List UInt8) := (p0 b).1
abbrev pM (b : List UInt8) : Int := 2 * ((pI b).i + (pI b).l + (pI b).g) + 1
abbrev p1 (b : List UInt8) := pD b (pI b).i.toNat 0 (p0 b).2
abbrev p2 (b : List UInt8) := kh b (pI b).i (pM b) (pI b).l.toNat 0 (p1 b) []
abbrev p3 (b : List UInt8) := jF b (pM b) (pI b).o.toNat (p2 b).2 []
abbrev p4 (b : List UInt8) := jF b (pM b) (pI b).b.toNat (p3 b).2 []
abbrev p5 (b : List UInt8) := jF b (pM b) (pI b).c.toNat (p4 b).2 []
abbrev p6 (b : List UInt8) := iV b ((pI b).i + (pI b).l) (pI b).g.toNat 0 (p5 b).2 []
abbrev a6 (b : List UInt8) : Aig := ⟨(pI b).i, (p2 b).1, (p6 b).1, (p3 b).1, (p4 b).1, (p5 b).1, []⟩
abbrev p7 (b : List UInt8) := fK b (b.length - (p6 b).2.p) (p6 b).2 (a6 b)
def jh (b : List UInt8) : Aig × Nat × Int := if 100000 < b.length then (Hw 0, 0, 3) else if (p7 b).2.bad ≠ 0 then (Hw 0, (p7 b).2.p, (p7 b).2.bad) else ((p7 b).1, (p7 b).2.p, 0)
theorem FN (b : List UInt8) : (p0 b).2.p ≤ b.length ∧ (p1 b).p ≤ b.length ∧ (p2 b).2.p ≤ b.length ∧ (p3 b).2.p ≤ b.length ∧ (p4 b).2.p ≤ b.length ∧ (p5 b).2.p ≤ b.length ∧ (p6 b).2.p ≤ b.length := by
 have h0 : (p0 b).2.p ≤ b.length := AM (cE (Nat.zero_le _))
 have h1 : (p1 b).p ≤ b.length := wC h0
 have h2 : (p2 b).2.p ≤ b.length := (oV h1).1
 have h3 : (p3 b).2.p ≤ b.length := ob h2
 have h4 : (p4 b).2.p ≤ b.length := ob h3
 have h5 : (p5 b).2.p ≤ b.length := ob h4
 exact ⟨h0, h1, h2, h3, h4, h5, qu h5⟩
theorem Gk (b : List UInt8) : pT (a6 b) := by
 have h := sx b (bS b ⟨0, 0⟩ [97, 97, 103, 32])
 have e2 : (p2 b).1.length ≤ 0 + (pI b).l.toNat := (oV (FN b).2.1).2
 have e3 : (p3 b).1.length ≤ 0 + (pI b).o.toNat := mn
 have e4 : (p4 b).1.length ≤ 0 + (pI b).b.toNat := mn
 have e5 : (p5 b).1.length ≤ 0 + (pI b).c.toNat := mn
 have g1 : (pI b).i ≤ 20000 := h.i1
 have g2 : (pI b).l ≤ 20000 := h.l1
 have g3 : (pI b).o ≤ 2000 := h.o1
 have g4 : (pI b).b ≤ 2000 := h.b1
 have g5 : (pI b).c ≤ 2000 := h.c1
 exact ⟨h.i0, by show (pI b).i ≤ _; omega, by show (p2 b).1.length ≤ _; omega, by show (p3 b).1.length ≤ _; omega, by show (p4 b).1.length ≤ _; omega, by show (p5 b).1.length ≤ _; omega⟩
theorem If (b : List UInt8) (hb : b.length ≤ 1000000000000) : dn 7 [cH b] (.tup [bq (jh b).1, .int .i64 ((jh b).2.1 : Nat), .int .i64 (jh b).2.2]) := by
 refine bC ac (f := 7) (fn := Tryz.f7) (N := 193) (rs := [.cell 2 33, .tmp 3, .tmp 4]) (by kernel_rfl) rfl (by kernel_rfl) rfl rfl [(0, .v (cH b))] ⟨rfl, aj⟩ rfl rfl ?_
 intro B
 have hp := FN b
 have hhd := sx b (bS b ⟨0, 0⟩ [97, 97, 103, 32])
 have z1 : 0 ≤ (pI b).i ∧ (pI b).i ≤ 20000 := ⟨hhd.i0, hhd.i1⟩
 have z2 : 0 ≤ (pI b).l ∧ (pI b).l ≤ 20000 := ⟨hhd.l0, hhd.l1⟩
 have z3 : 0 ≤ (pI b).g ∧ (pI b).g ≤ 20000 := ⟨hhd.g0, hhd.g1⟩
 have z4 : 0 ≤ (pI b).o ∧ (pI b).o ≤ 2000 := ⟨hhd.o0, hhd.o1⟩
 have z5 : 0 ≤ (pI b).b ∧ (pI b).b ≤ 2000 := ⟨hhd.b0, hhd.b1⟩
 have z7 : 1 ≤ pM b ∧ pM b ≤ 200000 := by show 1 ≤ 2 * ((pI b).i + (pI b).l + (pI b).g) + 1 ∧ 2 * ((pI b).i + (pI b).l + (pI b).g) + 1 ≤ 200000; omega
 have z6 : 0 ≤ (pI b).c ∧ (pI b).c ≤ 2000 := ⟨hhd.c0, hhd.c1⟩
 refine ag<|bl (id := 2) aK J<|af J<|af J<|ab<|ae<|ag<|aa J<|aI ac J J bG J aB J J<|bW J J J J J (fun h30 => ?_) (fun h30 => ?_)
 ·refine ab<|ai J<|ag<|bD [] ac J aK J J aj J J J J J J<|aR aK [] J aj J<|af J<|af J<|ab<|am<|au (an J J ?_)
  unfold jh
  rw [if_pos (by omega)]
  rfl
 ·refine ab<|ah J<|ao<|ak<|ag<|aa J<|bD [] ac J aM J J aj J J J J J J<|ap [] (lF b [97, 97, 103, 32] ⟨0, 0⟩ (Nat.zero_le _) hb (by decide)) J J J J J J aj (.inl J) J J J ?_
  refine BJ (HQ b (bS b ⟨0, 0⟩ [97, 97, 103, 32]) (cE (Nat.zero_le _)) hb) J J J J J J J J J<|aa J<|qY J J J J J<|qY J J J J J<|qY J J J J J<|bl (id := 5) aK J<|bl (id := 6) kM J<|bl (id := 7) aM J<|aR aK [] J aj J<|aR kM [] J aj J<|aR aM [] J aj J<|ab<|ae<|cT [(2, .ptr 2 0), (5, .ptr 5 0), (6, .ptr 6 0), (7, .ptr 7 0)] [(2, .box [.v (.int .i64 0), .nils, .nils, .nils, .nils, .nils, .nils]), (6, .box [.v (.int .i64 (pI b).l), .v (.int .i64 (pI b).o), .v (.int .i64 (pI b).g), .v (.int .i64 (pI b).b), .v (.int .i64 (pI b).c)]), (5, .box [.v (.int .i64 (pI b).i), .nils, .nils, .nils, .nils, .nils, .nils]), (7, .box ((eY b (p0 b).2).map .v))] ⟨J, J, J, J, aj⟩ ⟨J, J, J, J, aj⟩ J J J J<|aF ?_
  refine ax aK J<|aC bm J<|cI ac J J J J kM J bm (by omega) (by omega) J J J J ?_
  refine aC bm J<|bh J (by omega) (by omega) J ?_
  refine cI ac J J J J kM J bm (by omega) (by omega) J J J J ?_
  refine aC bm J<|bh J (by omega) (by omega) J ?_
  refine dA J J J J (by omega) (by omega) J J ?_
  refine bh J (by omega) (by omega) J ?_
  refine af J<|ab<|gN (α := Unit) (fun _ => mk [(2, .ptr 2 0), (5, .ptr 5 0), (6, .ptr 6 0), (7, .ptr 7 0), (8, .v (.int .i64 (pM b)))] [(2, .box [.v (.int .i64 0), .nils, .nils, .nils, .nils, .nils, .nils]), (6, .box [.v (.int .i64 (pI b).l), .v (.int .i64 (pI b).o), .v (.int .i64 (pI b).g), .v (.int .i64 (pI b).b), .v (.int .i64 (pI b).c)]), (5, .box [.v (.int .i64 (pI b).i), .nils, .nils, .nils, .nils, .nils, .nils]), (7, .box ((eY b (p1 b)).map .v))] 0) (fun _ => True) ?_ ?_
  ·refine ag<|af J<|ab<|aw<|aZ (α := Nat × At) (fun ⟨j, y⟩ => mk [(2, .ptr 2 0), (5, .ptr 5 0), (6, .ptr 6 0), (7, .ptr 7 0), (8, .v (.int .i64 (pM b))), (9, .v (.int .i64 j))] [(2, .box [.v (.int .i64 0), .nils, .nils, .nils, .nils, .nils, .nils]), (6, .box [.v (.int .i64 (pI b).l), .v (.int .i64 (pI b).o), .v (.int .i64 (pI b).g), .v (.int .i64 (pI b).b), .v (.int .i64 (pI b).c)]), (5, .box [.v (.int .i64 (pI b).i), .nils, .nils, .nils, .nils, .nils, .nils]), (7, .box ((eY b y).map .v))] 0) (fun ⟨j, y⟩ => j ≤ (pI b).i.toNat ∧ pD b ((pI b).i.toNat - j) j y = p1 b ∧ y.p ≤ b.length) (fun ⟨j, y⟩ => (pI b).i.toNat - j) ⟨0, (p0 b).2⟩ ⟨Nat.zero_le _, J, hp.1⟩ (aL ⟨J, J, J, J, J, J, aj⟩ ⟨J, J, J, J, aj⟩ J J J J) ?_
   rintro ⟨j, y⟩ ⟨hj1, hj2, hj3⟩
   refine ae<|ag<|aa J<|ax aK J<|aC bm J<|bj J (fun h53 => ?_) (fun h53 => ?_)
   ·refine aa J<|ax aM J<|aC bm J<|bc J J J J J (fun h57 => ?_) (fun h57 => ?_)
    ·refine aV J<|ab<|ai J<|ao<|ak<|ae<|aw<|aS (L := [([7], []), ([], []), ([], []), ([], []), ([], []), ([], []), ([7], [7])]) (by kernel_rfl) mixed (by kernel_rfl)<|a7 aM J<|aa J<|bh J (by omega) (by omega) J ?_
     refine dA J J J J (by omega) (by omega) J J ?_
     refine ap [] (y7 (2 * ((j : Int) + 1)) [10] (by omega) (by omega) (by decide)) J J J J J J aj (.inl J) J J J ?_
     refine ap [] (lF b (cy (2 * ((j : Int) + 1)) ++ [10]) y hj3 hb (gm (by omega) (by omega) _)) J J J J J J aj (.inl J) J J J ?_
     refine aR aM [] J aj J<|ar<|aH<|ak<|aF<|aa J<|bh J (by omega) (by omega) J ?_
     refine af J<|ar ?_
     exact aT ⟨j + 1, bS b y (cy (2 * ((j : Int) + 1)) ++ [10])⟩ ⟨by show j + 1 ≤ _; omega, by show pD b ((pI b).i.toNat - (j + 1)) (j + 1) _ = _; rw [← hj2, show (pI b).i.toNat - j = ((pI b).i.toNat - (j + 1)) + 1 by omega]; conv => rhs; unfold pD; (rw [if_pos h57]), cE hj3⟩ (by show (pI b).i.toNat - (j + 1) < (pI b).i.toNat - j; omega) (aL ⟨J, J, J, J, J, J, aj⟩ ⟨J, J, J, J, aj⟩ J J J J)
    ·refine aV J<|ab<|ah J<|aO<|ba (a8 (aP ?_))
     have e1 : p1 b = y := by (rw [← hj2]; first | (rw [show (pI b).i.toNat - j = 0 by omega]; rfl) | exact sK (by assumption))
     exact cX () aj (aL ⟨rfl, rfl, rfl, rfl, rfl, aj⟩ ⟨rfl, rfl, rfl, (congrArg (fun z => Blk.box ((eY b z).map D.v)) e1.symm), aj⟩ rfl rfl rfl rfl)
   ·refine aa J<|al J<|al J<|al J<|aJ J<|ab<|ah J<|aO<|ba (a8 (aP ?_))
    have e1 : p1 b = y := by (rw [← hj2]; first | (rw [show (pI b).i.toNat - j = 0 by omega]; rfl) | exact sK (by assumption))
    exact cX () aj (aL ⟨rfl, rfl, rfl, rfl, rfl, aj⟩ ⟨rfl, rfl, rfl, (congrArg (fun z => Blk.box ((eY b z).map D.v)) e1.symm), aj⟩ rfl rfl rfl rfl)
  ·intro _ _
   refine gN (α := Unit) (fun _ => mk [(2, .ptr 2 0), (5, .ptr 5 0), (6, .ptr 6 0), (7, .ptr 7 0), (8, .v (.int .i64 (pM b)))] [(2, .box [.v (.int .i64 0), .nils, .nils, .nils, .nils, .nils, .nils]), (6, .box [.v (.int .i64 (pI b).l), .v (.int .i64 (pI b).o), .v (.int .i64 (pI b).g), .v (.int .i64 (pI b).b), .v (.int .i64 (pI b).c)]), (5, .box [.v (.int .i64 (pI b).i), .v (jL (p2 b).1), .nils, .nils, .nils, .nils, .nils]), (7, .box ((eY b (p2 b).2).map .v))] 0) (fun _ => True) ?_ ?_
   ·refine ag<|af J<|ab<|aw<|cg (fO (bid := 5) (id := 505) (e := 55) (sz := 2) (j := 1) J J J (by decide)) ?_
    refine aZ (α := Nat × At × List Latch) (fun ⟨j, y, ls⟩ => mk [(2, .ptr 2 0), (5, .ptr 5 0), (6, .ptr 6 0), (7, .ptr 7 0), (8, .v (.int .i64 (pM b))), (10, .v (.int .i64 j))] [(2, .box [.v (.int .i64 0), .nils, .nils, .nils, .nils, .nils, .nils]), (6, .box [.v (.int .i64 (pI b).l), .v (.int .i64 (pI b).o), .v (.int .i64 (pI b).g), .v (.int .i64 (pI b).b), .v (.int .i64 (pI b).c)]), (5, .box [.v (.int .i64 (pI b).i), .own 505, .nils, .nils, .nils, .nils, .nils]), (7, .box ((eY b y).map .v)), (505, .row 55 2 (ls.map pL))] 0) (fun ⟨j, y, ls⟩ => j ≤ (pI b).l.toNat ∧ kh b (pI b).i (pM b) ((pI b).l.toNat - j) j y ls = p2 b ∧ y.p ≤ b.length ∧ ls.length ≤ j) (fun ⟨j, y, ls⟩ => (pI b).l.toNat - j) ⟨0, p1 b, []⟩ ⟨Nat.zero_le _, J, hp.2.1, Nat.le_refl _⟩ (aL ⟨J, J, J, J, J, J, aj⟩ ⟨J, J, J, J, J, aj⟩ J J J J) ?_
    rintro ⟨j, y, ls⟩ ⟨hj1, hj2, hj3, hj4⟩
    refine ae<|ag<|aa J<|cI ac J J J J kM J bm (by omega) (by omega) J J J J ?_
    refine aC bm J<|bj J (fun h70 => ?_) (fun h70 => ?_)
    ·refine aa J<|ax aM J<|aC bm J<|bc J J J J J (fun h74 => ?_) (fun h74 => ?_)
     ·refine aV J<|ab<|ai J<|ao<|ak<|ae<|aw<|ag<|ax aK J<|aC bm J<|aa J<|bh J (by omega) (by omega) J ?_
      refine bh J (by omega) (by omega) J ?_
      refine dA J J J J (by omega) (by omega) J J ?_
      refine af J<|ab<|ae<|aS (L := [([7], []), ([], []), ([], []), ([], []), ([], []), ([], []), ([], []), ([], []), ([], []), ([], []), ([12], [12]), ([13], [13]), ([12], [12]), ([13], [13])]) (by kernel_rfl) mixed (by kernel_rfl)<|a7 aM J<|aa J<|ap [] (y7 (2 * ((pI b).i + (j : Int) + 1)) [32] (by omega) (by omega) (by decide)) J J J J J J aj (.inl J) J J J ?_
      refine ap [] (lF b (cy (2 * ((pI b).i + (j : Int) + 1)) ++ [32]) y hj3 hb (gm (by omega) (by omega) _)) J J J J J J aj (.inl J) J J J ?_
      refine aa J<|aa J<|ap [] (F9 b (bS b y (cy (2 * ((pI b).i + (j : Int) + 1)) ++ [32])) (cE hj3) hb (2 * ((pI b).i + (j : Int) + 1)) (pM b) (by omega) (by omega)) J J J J J J aj (.inl J) J J J ?_
      refine aa J<|aW J<|aW J<|bl (id := 12) c7 J<|bl (id := 13) aM J<|aR c7 [] J aj J<|aR aM [] J aj J<|ab<|ag<|ax aK J<|aC cR J<|a7 c7 J<|bZ (es := [(Dy b (pI b).i (pM b) j y).1].map pL) cR c7 [] J aj J ?_
      refine cw 98 [] ac J cR J cR J c7 J J J J ⟨J, J, aj⟩ J (elOk.cons rfl rfl elOk.nil) cA (by constructor <;> simp <;> omega) J J J ?_
      refine ax aK J<|gF [(98, _)] ac J cR J J J ⟨J, aj⟩ J J J J J J J J<|ab<|aF<|a7 aM J<|aR aM [] J aj J<|ar<|aH<|ak<|aF<|aa J<|bh J (by omega) (by omega) J ?_
      refine af J<|ar ?_
      exact aT ⟨j + 1, (Dy b (pI b).i (pM b) j y).2, ls ++ [(Dy b (pI b).i (pM b) j y).1]⟩ ⟨by show j + 1 ≤ _; omega, by show kh b _ _ ((pI b).l.toNat - (j + 1)) (j + 1) _ _ = _; rw [← hj2, show (pI b).l.toNat - j = ((pI b).l.toNat - (j + 1)) + 1 by omega]; conv => rhs; unfold kh; (rw [if_pos h74]), qS (cE hj3), by simp; omega⟩ (by show (pI b).l.toNat - (j + 1) < (pI b).l.toNat - j; omega) (cd [(505, 98)] ⟨J, J, J, J, J, J, aj⟩ ⟨J, J, J, J, J, aj⟩ J J J J J)
     ·refine aV J<|ab<|ah J<|aO<|ba (a8 (aP ?_))
      have e2 : p2 b = (ls, y) := by (rw [← hj2]; first | (rw [show (pI b).l.toNat - j = 0 by omega]; rfl) | exact qh (by assumption))
      exact cX () aj (Le.trans (bp (id := 505) rfl) (aL ⟨rfl, rfl, rfl, rfl, rfl, aj⟩ ⟨rfl, rfl, (congrArg (fun z => Blk.box [D.v (.int .i64 (pI b).i), D.v (jL z), D.nils, D.nils, D.nils, D.nils, D.nils]) (congrArg Prod.fst e2).symm), (congrArg (fun z => Blk.box ((eY b z).map D.v)) (congrArg Prod.snd e2).symm), aj⟩ rfl rfl rfl rfl))
    ·refine aa J<|al J<|al J<|al J<|aJ J<|ab<|ah J<|aO<|ba (a8 (aP ?_))
     have e2 : p2 b = (ls, y) := by (rw [← hj2]; first | (rw [show (pI b).l.toNat - j = 0 by omega]; rfl) | exact qh (by assumption))
     exact cX () aj (Le.trans (bp (id := 505) rfl) (aL ⟨rfl, rfl, rfl, rfl, rfl, aj⟩ ⟨rfl, rfl, (congrArg (fun z => Blk.box [D.v (.int .i64 (pI b).i), D.v (jL z), D.nils, D.nils, D.nils, D.nils, D.nils]) (congrArg Prod.fst e2).symm), (congrArg (fun z => Blk.box ((eY b z).map D.v)) (congrArg Prod.snd e2).symm), aj⟩ rfl rfl rfl rfl))
   ·intro _ _
    refine ag<|a7 aM J<|cI ac J J J J kM J bm (by omega) (by omega) J J J J ?_
    refine aC bm J<|aa J<|ap [] (Az b (p2 b).2 hp.2.2.1 hb (pI b).o (by omega) (pM b) (by omega) (by omega)) J J J J J J aj (.inl J) J J J ?_
    refine aa J<|aW J<|aW J<|bl (id := 15) aM J<|af J<|aR aM [] J aj J<|ab<|ag<|a7 aM J<|cI ac J J J J kM J bm (by omega) (by omega) J J J J ?_
    refine aC bm J<|aa J<|ap [] (Az b (p3 b).2 hp.2.2.2.1 hb (pI b).b (by omega) (pM b) (by omega) (by omega)) J J J J J J aj (.inl J) J J J ?_
    refine aa J<|aW J<|aW J<|bl (id := 17) aM J<|af J<|aR aM [] J aj J<|ab<|ag<|a7 aM J<|cI ac J J J J kM J bm (by omega) (by omega) J J J J ?_
    refine aC bm J<|aa J<|ap [] (Az b (p4 b).2 hp.2.2.2.2.1 hb (pI b).c (by omega) (pM b) (by omega) (by omega)) J J J J J J aj (.inl J) J J J ?_
    refine aa J<|aW J<|aW J<|bl (id := 19) aM J<|af J<|aR aM [] J aj J<|ab<|gN (α := Unit) (fun _ => mk [(2, .ptr 2 0), (5, .ptr 5 0), (6, .ptr 6 0), (14, .v (cf (p3 b).1)), (16, .v (cf (p4 b).1)), (18, .v (cf (p5 b).1)), (19, .ptr 19 0)] [(2, .box [.v (.int .i64 0), .nils, .nils, .nils, .nils, .nils, .nils]), (6, .box [.v (.int .i64 (pI b).l), .v (.int .i64 (pI b).o), .v (.int .i64 (pI b).g), .v (.int .i64 (pI b).b), .v (.int .i64 (pI b).c)]), (5, .box [.v (.int .i64 (pI b).i), .v (jL (p2 b).1), .v (iH (p6 b).1), .nils, .nils, .nils, .nils]), (19, .box ((eY b (p6 b).2).map .v))] 0) (fun _ => True) ?_ ?_
    ·refine ag<|af J<|ab<|aw<|cg (fO (bid := 5) (id := 506) (e := 63) (sz := 2) (j := 2) J J J (by decide)) ?_
     refine aZ (α := Nat × At × List Gate) (fun ⟨j, y, gs⟩ => mk [(2, .ptr 2 0), (5, .ptr 5 0), (6, .ptr 6 0), (14, .v (cf (p3 b).1)), (16, .v (cf (p4 b).1)), (18, .v (cf (p5 b).1)), (19, .ptr 19 0), (20, .v (.int .i64 j))] [(2, .box [.v (.int .i64 0), .nils, .nils, .nils, .nils, .nils, .nils]), (6, .box [.v (.int .i64 (pI b).l), .v (.int .i64 (pI b).o), .v (.int .i64 (pI b).g), .v (.int .i64 (pI b).b), .v (.int .i64 (pI b).c)]), (5, .box [.v (.int .i64 (pI b).i), .v (jL (p2 b).1), .own 506, .nils, .nils, .nils, .nils]), (19, .box ((eY b y).map .v)), (506, .row 63 2 (gs.map nT))] 0) (fun ⟨j, y, gs⟩ => j ≤ (pI b).g.toNat ∧ iV b ((pI b).i + (pI b).l) ((pI b).g.toNat - j) j y gs = p6 b ∧ y.p ≤ b.length ∧ gs.length ≤ j) (fun ⟨j, y, gs⟩ => (pI b).g.toNat - j) ⟨0, (p5 b).2, []⟩ ⟨Nat.zero_le _, J, hp.2.2.2.2.2.1, Nat.le_refl _⟩ (aL ⟨J, J, J, J, J, J, J, J, aj⟩ ⟨J, J, J, J, J, aj⟩ J J J J) ?_
     rintro ⟨j, y, gs⟩ ⟨hj1, hj2, hj3, hj4⟩
     refine ae<|ag<|aa J<|cI ac J J J J kM J bm (by omega) (by omega) J J J J ?_
     refine aC bm J<|bj J (fun h128 => ?_) (fun h128 => ?_)
     ·refine aa J<|ax aM J<|aC bm J<|bc J J J J J (fun h132 => ?_) (fun h132 => ?_)
      ·refine aV J<|ab<|ai J<|ao<|ak<|ae<|aw<|ag<|ax aK J<|aC bm J<|cI ac J J J J kM J bm (by omega) (by omega) J J J J ?_
       refine aC bm J<|bh J (by omega) (by omega) J ?_
       refine aa J<|bh J (by omega) (by omega) J ?_
       refine bh J (by omega) (by omega) J ?_
       refine dA J J J J (by omega) (by omega) J J ?_
       refine af J<|ab<|ae<|aS (L := [([19], []), ([], []), ([], []), ([], []), ([], []), ([], []), ([], []), ([], []), ([], []), ([], []), ([23], [23]), ([], []), ([23], [23])]) (by kernel_rfl) mixed (by kernel_rfl)<|a7 aM J<|aa J<|ap [] (y7 (2 * ((pI b).i + (pI b).l + (j : Int) + 1)) [32] (by omega) (by omega) (by decide)) J J J J J J aj (.inl J) J J J ?_
       refine ap [] (lF b (cy (2 * ((pI b).i + (pI b).l + (j : Int) + 1)) ++ [32]) y hj3 hb (gm (by omega) (by omega) _)) J J J J J J aj (.inl J) J J J ?_
       refine aa J<|bX J J J J (by omega) (by omega) J J ?_
       refine ap [] (ju b [32] (bS b y (cy (2 * ((pI b).i + (pI b).l + (j : Int) + 1)) ++ [32])) (2 * ((pI b).i + (pI b).l + (j : Int) + 1) - 1) (cE hj3) hb (by omega) (by omega) (by decide)) J J J J J J aj (.inl J) J J J ?_
       refine aa J<|aW J<|aW J<|bl (id := 23) aM J<|af J<|aR aM [] J aj J<|ab<|ae ?_
       have hga : 0 ≤ (gA b ((pI b).i + (pI b).l) j y).1 ∧ (gA b ((pI b).i + (pI b).l) j y).1 ≤ 2147483647 := jT
       refine aF<|a7 aM J<|aa J<|ap [] (ju b [10] (gA b ((pI b).i + (pI b).l) j y).2 (gA b ((pI b).i + (pI b).l) j y).1 (cQ (cE hj3)) hb (by omega) (by omega) (by decide)) J J J J J J aj (.inl J) J J J ?_
       refine aa J<|aW J<|aW J<|bl (id := 25) aM J<|af J<|aR aM [] J aj J<|ab<|ag<|ax aK J<|aC dg J<|aa J<|aa J<|bD [] ac J dY J J aj J J J J J J<|bZ (es := [Gate.mk (gA b ((pI b).i + (pI b).l) j y).1 (Ez b ((pI b).i + (pI b).l) j y).1].map nT) dg dY [] J aj J ?_
       refine cw 167 [] ac J dg J dg J dY J J J J ⟨J, J, aj⟩ J (elOk.cons rfl rfl elOk.nil) cA (by constructor <;> simp <;> omega) J J J ?_
       refine ax aK J<|gF [(167, _)] ac J dg J J J ⟨J, aj⟩ J J J J J J J J<|ab<|aF<|a7 aM J<|aR aM [] J aj J<|ar<|aH<|ak<|aF<|aa J<|bh J (by omega) (by omega) J ?_
       refine af J<|ar ?_
       exact aT ⟨j + 1, (Ez b ((pI b).i + (pI b).l) j y).2, gs ++ [⟨(gA b ((pI b).i + (pI b).l) j y).1, (Ez b ((pI b).i + (pI b).l) j y).1⟩]⟩ ⟨by show j + 1 ≤ _; omega, by show iV b _ ((pI b).g.toNat - (j + 1)) (j + 1) _ _ = _; rw [← hj2, show (pI b).g.toNat - j = ((pI b).g.toNat - (j + 1)) + 1 by omega]; conv => rhs; unfold iV; (rw [if_pos h132]), cQ (cQ (cE hj3)), by simp; omega⟩ (by show (pI b).g.toNat - (j + 1) < (pI b).g.toNat - j; omega) (cd [(506, 167)] ⟨J, J, J, J, J, J, J, J, aj⟩ ⟨J, J, J, J, J, aj⟩ J J J J J)
      ·refine aV J<|ab<|ah J<|aO<|ba (a8 (aP ?_))
       have e3 : p6 b = (gs, y) := by (rw [← hj2]; first | (rw [show (pI b).g.toNat - j = 0 by omega]; rfl) | exact oO (by assumption))
       exact cX () aj (Le.trans (bp (id := 506) rfl) (aL ⟨rfl, rfl, rfl, rfl, rfl, rfl, rfl, aj⟩ ⟨rfl, rfl, (congrArg (fun z => Blk.box [D.v (.int .i64 (pI b).i), D.v (jL (p2 b).1), D.v (iH z), D.nils, D.nils, D.nils, D.nils]) (congrArg Prod.fst e3).symm), (congrArg (fun z => Blk.box ((eY b z).map D.v)) (congrArg Prod.snd e3).symm), aj⟩ rfl rfl rfl rfl))
     ·refine aa J<|al J<|al J<|al J<|aJ J<|ab<|ah J<|aO<|ba (a8 (aP ?_))
      have e3 : p6 b = (gs, y) := by (rw [← hj2]; first | (rw [show (pI b).g.toNat - j = 0 by omega]; rfl) | exact oO (by assumption))
      exact cX () aj (Le.trans (bp (id := 506) rfl) (aL ⟨rfl, rfl, rfl, rfl, rfl, rfl, rfl, aj⟩ ⟨rfl, rfl, (congrArg (fun z => Blk.box [D.v (.int .i64 (pI b).i), D.v (jL (p2 b).1), D.v (iH z), D.nils, D.nils, D.nils, D.nils]) (congrArg Prod.fst e3).symm), (congrArg (fun z => Blk.box ((eY b z).map D.v)) (congrArg Prod.snd e3).symm), aj⟩ rfl rfl rfl rfl))
    ·intro _ _
     refine ag<|aa J<|ax aK J<|aR br [] J aj J<|ab<|ag<|aa J<|ax aK J<|aR br [] J aj J<|ab<|ag ?_
     refine aa J<|ax aK J<|aR br [] J aj J<|ab<|ag<|a7 aM J<|a7 aK J<|ap [] (F0 b (p6 b).2 hp.2.2.2.2.2.2 hb (a6 b) (Gk b) (Nat.zero_le _)) J J J J J J aj (.inl J) J J J<|aa J<|aW J<|aW J<|bl (id := 26) aK J<|bl (id := 27) aM J<|aR aK [] J aj J ?_
     refine aR aM [] J aj J<|ab<|ae<|ag<|ax aM J<|aC bm J<|bt J J J J J (fun h184 => ?_) (fun h184 => ?_)
     ·refine ab<|ai J<|ae<|aS (L := [([], []), ([27], []), ([27], []), ([27], []), ([27], []), ([2], [2]), ([], []), ([], [])]) (by kernel_rfl) mixed (by kernel_rfl)<|bD [] ac J aK J J aj J J J J J J<|ax aM J<|aC bm J<|ax aM J<|aC bm J<|aR aK [] J aj J<|af J<|af J<|ab<|am ?_
      refine au (an J J ?_)
      unfold jh
      rw [if_neg (by omega), if_pos h184] <;> rfl
     ·refine ab<|ah J<|ao<|ak<|ae<|aS (L := [([26], []), ([27], []), ([27], []), ([2], [2]), ([], []), ([], [])]) (by kernel_rfl) mixed (by kernel_rfl)<|a7 aK J<|ax aM J<|aC bm J<|aR aK [] J aj J<|af J<|af J<|ab<|am ?_
      refine an J J ?_
      unfold jh
      rw [if_neg (by omega), if_neg h184] <;> rfl
end Go.Vd
namespace Go.Vd
open Go.Proofs Go.RowKit
abbrev ez (b : List UInt8) (most : Int) := ix b (bS b ⟨0, 0⟩ [49, 10, 98]) most
def qs (b : List UInt8) (most k : Int) : Prop := eL b 0 [49, 10, 98] = true ∧ (bK b 3 most).2.2 = 0 ∧ k = (bK b 3 most).1
theorem xn {b : List UInt8} {most : Int} (h : (ez b most).2.bad = 0) : qs b most (ez b most).1 := by
 unfold ez ix bS at h ⊢
 unfold qs
 simp only [ne_eq, not_true_eq_false, if_false] at h ⊢
 cases hw : eL b 0 [49, 10, 98] with
 | true =>
   rw [hw] at h
   simp only [if_true, not_true_eq_false, if_false] at h ⊢
   exact ⟨aj, h, rfl⟩
 | false =>
   rw [hw] at h
   simp at h
theorem fX {b : List UInt8} {x : At} {s : List UInt8} (h : x.bad ≠ 0) : (bS b x s).bad ≠ 0 := by unfold bS; rw [if_pos h]; exact h
def oB (c : UInt8) : Int := if c = 48 then 0 else if c = 49 then 1 else if c = 120 then 2 else 3
theorem q9 (c : UInt8) : 0 ≤ oB c ∧ oB c ≤ 3 := by unfold oB; refine ⟨?_, ?_⟩ <;> (repeat' split) <;> decide
def fI (b : List UInt8) (x : At) : Int := if x.p < b.length then oB (b.getD x.p 0) else 3
theorem uI (b : List UInt8) (x : At) : 0 ≤ fI b x ∧ fI b x ≤ 3 ∧ (fI b x = 3 ∨ x.p < b.length) := by
 unfold fI
 split
 ·exact ⟨(q9 _).1, (q9 _).2, .inr (by assumption)⟩
 ·exact ⟨by decide, by decide, .inl rfl⟩
def gZ (b : List UInt8) (l : List Latch) : Nat → Nat → At → List Int → List Int × At
 | 0, _, x, out => (out, bS b x [10])
 | n + 1, j, x, out => if x.bad = 0 then (if fI b x = 3 ∨ 0 < l.length ∧ (l.getD j default).reset < 2 ∧ fI b x ≠ (l.getD j default).reset then ([], ⟨x.p, 2⟩) else gZ b l n (j + 1) ⟨x.p + 1, x.bad⟩ (out ++ [fI b x])) else (out, bS b x [10])
theorem o4 {b : List UInt8} {l : List Latch} {n j : Nat} {x : At} {out : List Int} (h : x.bad ≠ 0) : gZ b l n j x out = (out, bS b x [10]) := by
 cases n with
 | zero => rfl
 | succ n => unfold gZ; rw [if_neg h]
theorem qR {b : List UInt8} {l : List Latch} {n j : Nat} {x : At} {out : List Int} (h : x.bad = 0) : gZ b l (n + 1) j x out = if fI b x = 3 ∨ 0 < l.length ∧ (l.getD j default).reset < 2 ∧ fI b x ≠ (l.getD j default).reset then ([], ⟨x.p, 2⟩) else gZ b l n (j + 1) ⟨x.p + 1, x.bad⟩ (out ++ [fI b x]) := by
 show (if x.bad = 0 then _ else _) = _
 rw [if_pos h]
theorem ms {b : List UInt8} {l : List Latch} : ∀ {n j : Nat} {x : At} {out : List Int}, x.p ≤ b.length → (gZ b l n j x out).2.p ≤ b.length ∧ (x.bad ≠ 0 → (gZ b l n j x out).2.bad ≠ 0)
 | 0, _, x, _, h => ⟨cE h, fun h => fX h⟩
 | n + 1, j, x, out, h => by
   by_cases hx : x.bad = 0
   ·rw [qR hx]
    have hb := uI b x
    split
    ·exact ⟨h, fun h => absurd hx h⟩
    ·rename_i hc
     refine ⟨(ms (x := ⟨x.p + 1, x.bad⟩) (by show x.p + 1 ≤ _; rcases hb.2.2 with h3 | h3; · exact absurd (.inl h3) hc
                                             ·omega)).1, fun h => absurd hx h⟩
   ·rw [o4 hx]; exact ⟨cE h, fun h => fX h⟩
theorem F1 (c : UInt8) : dn 28 [.int .u8 c.toNat] (.int .u8 (oB c)) := by
 refine bC ac (f := 28) (fn := Tryz.f28) (N := 10) (rs := [.tmp 2]) (by kernel_rfl) rfl (by kernel_rfl) rfl rfl [(0, .v (.int .u8 c.toNat))] ⟨rfl, aj⟩ rfl rfl ?_
 intro B
 refine ag<|af J<|ab<|ae<|ag<|aa J<|ab<|aw<|ag<|bc J J J J J (fun h5 => ?_) (fun h5 => ?_)
 ·refine af J<|ab<|ai J<|ag<|af J<|ab<|am<|az (au (an J J ?_))
  unfold oB
  rw [jz (c := c) (d := 48) h5]; rfl
 ·refine af J<|ab<|ah J<|ag<|bc J J J J J (fun h7 => ?_) (fun h7 => ?_)
  ·refine af J<|ab<|ai J<|ag<|af J<|ab<|am<|az (au (an J J ?_))
   unfold oB
   rw [jz (c := c) (d := 49) h7]; rfl
  ·refine af J<|ab<|ah J<|ag<|bc J J J J J (fun h9 => ?_) (fun h9 => ?_)
   ·refine af J<|ab<|ai J<|ag<|af J<|ab<|am<|az (au (an J J ?_))
    unfold oB
    rw [jz (c := c) (d := 120) h9]; rfl
   ·refine af J<|ab<|ah J<|ao<|aH<|ak<|ag<|af J<|ab<|am ?_
    refine an J J ?_
    unfold oB
    rw [if_neg (fun e => h5 (by rw [e]; rfl)), if_neg (fun e => h7 (by rw [e]; rfl)), if_neg (fun e => h9 (by rw [e]; rfl))]
theorem za (b : List UInt8) (x : At) (h : x.p ≤ b.length) (hb : b.length ≤ 1000000000000) (n : Int) (l : List Latch) (hn : n ≤ 1000000) (hnl : l.length = 0 ∨ n ≤ l.length) : dn 18 [np b x, .int .i64 n, jL l] (.tup [gH (gZ b l n.toNat 0 x []).1, np b (gZ b l n.toNat 0 x []).2]) := by
 refine bC ac (f := 18) (fn := Tryz.f18) (N := 72) (rs := [.tmp 6, .cell 7 49]) (by kernel_rfl) rfl (by kernel_rfl) rfl rfl [(0, .v (np b x)), (1, .v (.int .i64 n)), (2, .v (jL l))] ⟨rfl, rfl, rfl, aj⟩ rfl rfl ?_
 intro B
 refine ag<|bE 3 [] J J J ⟨J, aj⟩ J J J<|af J<|bl (id := 7) aM J<|ab<|ag<|af J<|ab<|ae<|ag<|af J ?_
 refine ab<|aw<|cg (gJ (t := 8) (id := 8) (e := 92) (sz := 1) J J (by decide)) ?_
 refine aZ (α := Nat × At × List Int) (fun ⟨j, y, out⟩ => mk [(1, .v (.int .i64 n)), (2, .v (jL l)), (3, .ptr 3 0), (7, .ptr 7 0), (8, .own 8), (9, .v (.int .i64 j))] [(3, .box ((eY b y).map .v)), (7, .box [.nils, .v (.int .i64 0), .v (.int .i64 0)]), (8, .row 92 1 (out.map lA))] 0) (fun ⟨j, y, out⟩ => j ≤ n.toNat ∧ y.p ≤ b.length ∧ gZ b l (n.toNat - j) j y out = gZ b l n.toNat 0 x [] ∧ out.length ≤ j) (fun ⟨j, y, out⟩ => n.toNat - j) ⟨0, x, []⟩ ⟨Nat.zero_le _, h, J, Nat.le_refl _⟩ (aL ⟨J, J, J, J, J, J, aj⟩ ⟨J, J, J, aj⟩ J J J J) ?_
 rintro ⟨j, y, out⟩ ⟨hj1, hj2, hj3, hj4⟩
 refine ae<|ag<|aa J<|aa J<|bj J (fun h13 => ?_) (fun h13 => ?_)
 ·refine aa J<|ax aM J<|aC bm J<|bc J J J J J (fun h17 => ?_) (fun h17 => ?_)
  ·refine aV J<|ab<|ai J<|ao<|ak<|ae<|aw<|ag<|af J<|ab<|gN (α := Unit) (fun _ => mk [(1, .v (.int .i64 n)), (2, .v (jL l)), (3, .ptr 3 0), (7, .ptr 7 0), (8, .own 8), (9, .v (.int .i64 j)), (10, .v (.int .u8 (fI b y)))] [(3, .box ((eY b y).map .v)), (7, .box [.nils, .v (.int .i64 0), .v (.int .i64 0)]), (8, .row 92 1 (out.map lA))] 0) (fun _ => True) ?_ ?_
   ·refine ag<|ax aM J<|aC bm J<|ax aM J<|aC bG J<|aI ac J J bG J aB J J<|bj J (fun h26 => ?_) (fun h26 => ?_)
    ·refine ab<|ai J<|aF<|ax aM J<|aC bG J<|ax aM J<|aC bm J<|cj bG eK J (by omega) (ek (n := y.p) (by omega)) J ?_
     refine bu eK J<|ap [] (F1 (b.getD y.p 0)) J J J J J J aj (.inl J) J J J<|af J<|ar ?_
     exact cX () aj (aL ⟨rfl, rfl, rfl, rfl, rfl, rfl, (fJ rfl (by unfold fI; first | (rw [if_pos (by omega)]; done) | (rw [if_neg (by omega)]; done))), aj⟩ ⟨rfl, rfl, rfl, aj⟩ rfl rfl rfl rfl)
    ·refine ab<|ah J<|ao ?_
     exact cX () aj (aL ⟨rfl, rfl, rfl, rfl, rfl, rfl, (fJ rfl (by unfold fI; first | (rw [if_pos (by omega)]; done) | (rw [if_neg (by omega)]; done))), aj⟩ ⟨rfl, rfl, rfl, aj⟩ rfl rfl rfl rfl)
   ·intro _ _
    have hv := uI b y
    have hun := qR (b := b) (l := l) (n := n.toNat - (j + 1)) (j := j) (out := out) h17
    rw [show n.toNat - (j + 1) + 1 = n.toNat - j by omega, hj3] at hun
    refine ae<|ag<|aa J<|bc J J J J J (fun h35 => ?_) (fun h35 => ?_)
    ·refine aa J<|al J<|al J<|al J<|al J<|al J<|al J<|al J<|al J<|al J<|al J<|al J<|al J<|al J<|al J<|al J ?_
     refine al J<|al J<|al J<|al J<|al J<|al J<|aV J<|ab<|ai J<|ag<|ax aM J<|aR bm [] J aj J<|ab ?_
     refine ae<|aS (L := [([3], []), ([], []), ([7], [7])]) (by kernel_rfl) mixed (by kernel_rfl)<|a7 aM J<|af J<|aR aM [] J aj J<|ab<|am<|au (az (au (bR (az (au (an J J ?_))))))
     rw [hun, if_pos (by omega)]; rfl
    ·refine aa J<|aa J<|aI ac J J cR J aB J J<|bW J J J J J (fun h39 => ?_) (fun h39 => ?_)
     ·refine aa J<|aa J<|aa J<|cj cR c7 J (by omega) (bz (n := j) (by omega)) J ?_
      refine bU ac J J c7 J J J J<|bu bm J<|bj J (fun h46 => ?_) (fun h46 => ?_)
      ·refine aV J<|aa J<|aa J ?_
       refine fR ac J J ed bm J J (IntWalk.i64_in _ ⟨by omega, by omega⟩) J J ?_
       refine aa J<|aa J<|cj cR c7 J (by omega) (bz (n := j) (by omega)) J ?_
       refine bU ac J J c7 J J J J<|bu bm J<|bt J J J J J (fun h56 => ?_) (fun h56 => ?_)
       ·refine aV J<|aJ J<|ab<|ai J<|ag<|ax aM J<|aR bm [] J aj J<|ab<|ae<|aS (L := [([3], []), ([], []), ([7], [7])]) (by kernel_rfl) mixed (by kernel_rfl)<|a7 aM J<|af J<|aR aM [] J aj J ?_
        refine ab<|am<|au (az (au (bR (az (au (an J J ?_))))))
        rw [hun, if_pos (by omega)]; rfl
       ·refine aV J<|aJ J<|ab<|ah J<|ao<|ak<|ae ?_
        have hstep : gZ b l (n.toNat - (j + 1)) (j + 1) ⟨y.p + 1, y.bad⟩ (out ++ [fI b y]) = gZ b l n.toNat 0 x [] := by (rw [hun, if_neg]; omega)
        refine aF<|aa J<|aa J<|bZ (es := [fI b y].map lA) dd ed [] J aj J ?_
        refine cw 64 [] ac J dd J dd J ed J J J J ⟨J, J, aj⟩ J (elOk.cons rfl rfl elOk.nil) cA (by constructor <;> simp <;> omega) J J J ?_
        refine af J<|ab<|aF<|ax aM J<|aC bm J<|bh J (by omega) (by omega) J ?_
        refine ax aM J<|aR bm [] J aj J<|ar<|aH<|ak<|aF<|aa J<|bh J (by omega) (by omega) J ?_
        refine af J<|ar ?_
        exact aT ⟨j + 1, ⟨y.p + 1, y.bad⟩, out ++ [fI b y]⟩ ⟨by show j + 1 ≤ _; omega, by show y.p + 1 ≤ _; omega, hstep, by simp; omega⟩ (by show n.toNat - (j + 1) < n.toNat - j; omega) (cd [(8, 64)] ⟨J, J, J, J, J, J, aj⟩ ⟨J, J, J, aj⟩ J J J J J)
      ·refine aV J<|aa J<|al J<|al J<|al J<|al J<|al J<|al J<|al J<|al J<|aJ J<|aJ J<|ab<|ah J<|ao ?_
       refine ak<|ae ?_
       have hstep : gZ b l (n.toNat - (j + 1)) (j + 1) ⟨y.p + 1, y.bad⟩ (out ++ [fI b y]) = gZ b l n.toNat 0 x [] := by (rw [hun, if_neg]; omega)
       refine aF<|aa J<|aa J<|bZ (es := [fI b y].map lA) dd ed [] J aj J ?_
       refine cw 64 [] ac J dd J dd J ed J J J J ⟨J, J, aj⟩ J (elOk.cons rfl rfl elOk.nil) cA (by constructor <;> simp <;> omega) J J J ?_
       refine af J<|ab<|aF<|ax aM J<|aC bm J<|bh J (by omega) (by omega) J ?_
       refine ax aM J<|aR bm [] J aj J<|ar<|aH<|ak<|aF<|aa J<|bh J (by omega) (by omega) J ?_
       refine af J<|ar ?_
       exact aT ⟨j + 1, ⟨y.p + 1, y.bad⟩, out ++ [fI b y]⟩ ⟨by show j + 1 ≤ _; omega, by show y.p + 1 ≤ _; omega, hstep, by simp; omega⟩ (by show n.toNat - (j + 1) < n.toNat - j; omega) (cd [(8, 64)] ⟨J, J, J, J, J, J, aj⟩ ⟨J, J, J, aj⟩ J J J J J)
     ·refine aa J<|al J<|al J<|al J<|al J<|al J<|al J<|aJ J<|aa J<|al J<|al J<|al J<|al J<|al J<|al J<|al J ?_
      refine al J<|aJ J<|aJ J<|ab<|ah J<|ao<|ak<|ae ?_
      have hstep : gZ b l (n.toNat - (j + 1)) (j + 1) ⟨y.p + 1, y.bad⟩ (out ++ [fI b y]) = gZ b l n.toNat 0 x [] := by (rw [hun, if_neg]; omega)
      refine aF<|aa J<|aa J<|bZ (es := [fI b y].map lA) dd ed [] J aj J ?_
      refine cw 64 [] ac J dd J dd J ed J J J J ⟨J, J, aj⟩ J (elOk.cons rfl rfl elOk.nil) cA (by constructor <;> simp <;> omega) J J J ?_
      refine af J<|ab<|aF<|ax aM J<|aC bm J<|bh J (by omega) (by omega) J ?_
      refine ax aM J<|aR bm [] J aj J<|ar<|aH<|ak<|aF<|aa J<|bh J (by omega) (by omega) J ?_
      refine af J<|ar ?_
      exact aT ⟨j + 1, ⟨y.p + 1, y.bad⟩, out ++ [fI b y]⟩ ⟨by show j + 1 ≤ _; omega, by show y.p + 1 ≤ _; omega, hstep, by simp; omega⟩ (by show n.toNat - (j + 1) < n.toNat - j; omega) (cd [(8, 64)] ⟨J, J, J, J, J, J, aj⟩ ⟨J, J, J, aj⟩ J J J J J)
  ·refine aV J<|ab<|ah J<|aO<|ba (a8 (aP ?_))
   refine ak<|ag<|aa J<|a7 aM J<|ap [] (lF b [10] y hj2 hb (by decide)) J J J J J J aj (.inl J) J J J ?_
   refine af J<|aR aM [] J aj J<|ab<|am ?_
   refine an J J ?_
   first
    | (rw [hun, if_pos (by omega)]; rfl)
    | (have e : gZ b l n.toNat 0 x [] = (out, bS b y [10]) := by
        rw [← hj3]
        first
         | (rw [show n.toNat - j = 0 by omega]; rfl)
         | exact o4 (by assumption)
       rw [e])
 ·refine aa J<|al J<|al J<|al J<|aJ J<|ab<|ah J<|aO<|ba (a8 (aP ?_))
  refine ak<|ag<|aa J<|a7 aM J<|ap [] (lF b [10] y hj2 hb (by decide)) J J J J J J aj (.inl J) J J J ?_
  refine af J<|aR aM [] J aj J<|ab<|am ?_
  refine an J J ?_
  first
   | (rw [hun, if_pos (by omega)]; rfl)
   | (have e : gZ b l n.toNat 0 x [] = (out, bS b y [10]) := by
       rw [← hj3]
       first
        | (rw [show n.toNat - j = 0 by omega]; rfl)
        | exact o4 (by assumption)
      rw [e])
abbrev ini (b : List UInt8) (a : Aig) (most : Int) := gZ b a.l ((a.l.length : Nat) : Int).toNat 0 (bS b (ez b most).2 [10]) []
theorem Gt (a : Aig) (ha : pT a) (b : List UInt8) (hb : b.length ≤ 1000000000000) (most : Int) (hmost : most = (a.bad.length : Int) - 1) : kw 8 [bq a, cH b] (fun v => ∃ (t : dT) (p f : Int), v = .tup [sr t, .int .i64 p, .int .i64 f] ∧ (f = 0 → qs b most t.bad)) := by
 refine dJ ac (f := 8) (fn := Tryz.f8) (N := 96) (rs := [.cell 4 39, .tmp 5, .tmp 6]) (by kernel_rfl) rfl (by kernel_rfl) rfl rfl [(0, .v (bq a)), (1, .v (cH b))] ⟨rfl, rfl, aj⟩ rfl rfl ?_
 intro B
 have hab := ha.b
 have hp : (ez b most).2.p ≤ b.length := re (cE (Nat.zero_le _))
 refine ag<|bE 2 [] J J J ⟨J, aj⟩ J J J<|bl (id := 4) dF J<|af J<|af J<|ab<|ae<|ag<|aa J<|aI ac J J bG J aB J J<|bW J J J J J (fun h18 => ?_) (fun h18 => ?_)
 ·refine ab<|ai J<|ag<|bD [] ac J dF J J aj J J J J J J<|aR dF [] J aj J<|af J<|af J<|ab<|am<|au (aD J J ?_)
  exact ⟨⟨0, [], []⟩, 0, 3, rfl, fun h => by cases h⟩
 ·refine ab<|ah J<|ao<|ak<|ae<|aS (L := [([], []), ([], []), ([], []), ([2], []), ([2], []), ([], []), ([], []), ([], []), ([], []), ([], []), ([], []), ([8], [8]), ([], []), ([8], [8])]) (by kernel_rfl) mixed (by kernel_rfl)<|aa J<|bD [] ac J aM J J aj J J J J J J<|ap [] (lF b [49, 10, 98] ⟨0, 0⟩ (Nat.zero_le _) hb (by decide)) J J J J J J aj (.inl J) J J J ?_
  refine ax aK J<|aC br J<|aI ac J J br J aB J J<|bX J J J J (by omega) (by omega) J J ?_
  refine ap [] (Cy b (bS b ⟨0, 0⟩ [49, 10, 98]) most (cE (Nat.zero_le _)) hb (by omega) (by omega)) J J J J J (by rw [hmost]; rfl) aj (.inl rfl) J J J ?_
  refine aa J<|aW J<|aW J<|bl (id := 8) aM J<|af J<|aR aM [] J aj J<|ab<|ae<|aS (L := [([8], []), ([], []), ([2], []), ([2], []), ([], []), ([2], []), ([2], []), ([], []), ([], []), ([], []), ([], []), ([10], [10]), ([], []), ([10], [10])]) (by kernel_rfl) mixed (by kernel_rfl)<|a7 aM J<|ap [] (lF b [10] (ez b most).2 hp hb (by decide)) J J J J J J aj (.inl J) J J J ?_
  refine ax aK J<|aC cR J<|aI ac J J cR J aB J J<|ax aK J<|aC cR J ?_
  refine ap [] (za b (bS b (ez b most).2 [10]) (cE hp) hb (a.l.length : Nat) a.l (by have := ha.l; omega) (.inr (Int.le_refl _))) J J J J J J aj (.inl rfl) J J J ?_
  refine aa J<|aW J<|aW J<|bl (id := 10) aM J<|af J<|aR aM [] J aj J<|ab<|ag<|aa J<|aa J<|bD [] ac J dF J J aj J J J J J J<|bl (id := 11) dF J<|aR dF [] J aj J<|ar ?_
  refine ak<|gN (α := At × List (List Int)) (fun ⟨y, ins⟩ => mk [(1, .v (cH b)), (2, .ptr 2 0), (4, .ptr 4 0), (10, .ptr 10 0), (11, .ptr 11 0)] [(2, .box ((eE a).map .v)), (4, .box [.v (.int .i64 0), .nils, .nils]), (10, .box ((eY b y).map .v)), (11, .box [.v (.int .i64 (ez b most).1), .v (gH (ini b a most).1), .v (pm ins)])] 0) (fun ⟨y, ins⟩ => y.p ≤ b.length ∧ ((ez b most).2.bad ≠ 0 → y.bad ≠ 0)) ?_ ?_
  ·refine aw<|cg (fO (bid := 11) (id := 511) (e := 36) (sz := 1) (j := 2) J J J (by decide)) ?_
   refine aZ (α := At × List (List Int)) (fun ⟨y, ins⟩ => mk [(1, .v (cH b)), (2, .ptr 2 0), (4, .ptr 4 0), (10, .ptr 10 0), (11, .ptr 11 0)] [(2, .box ((eE a).map .v)), (4, .box [.v (.int .i64 0), .nils, .nils]), (10, .box ((eY b y).map .v)), (11, .box [.v (.int .i64 (ez b most).1), .v (gH (ini b a most).1), .own 511]), (511, .row 36 1 (ins.map mG))] 0) (fun ⟨y, ins⟩ => y.p ≤ b.length ∧ ((ez b most).2.bad ≠ 0 → y.bad ≠ 0) ∧ ins.length ≤ 200) (fun ⟨y, ins⟩ => 201 - ins.length) ⟨(ini b a most).2, []⟩ ⟨(ms (cE hp)).1, fun h => (ms (cE hp)).2 (fX h), Nat.zero_le _⟩ (aL ⟨J, J, J, J, J, aj⟩ ⟨J, J, J, J, J, aj⟩ J J J J) ?_
   rintro ⟨y, ins⟩ ⟨hj1, hj2, hj3⟩
   refine ae<|ag<|ax aM J<|aC bm J<|bc J J J J J (fun h47 => ?_) (fun h47 => ?_)
   ·refine ab<|ai J<|ao<|ak<|aw<|ag<|aa J<|ax aM J<|aC bm J<|ap [] (CQ b [46, 10] y.p hj1 hb (by decide)) J J J J J J aj (.inl J) J J J ?_
    refine aa J<|aW J<|aW J<|bf (fun h54 => ?_) (fun h54 => ?_)
    ·refine af J<|af J<|ab<|ae<|ag<|aa J<|aa J<|ax dF J<|aC eB J<|dW ac J J J eB J aB J J J<|bW J J J J J (fun h60 => ?_) (fun h60 => ?_)
     ·refine aV J<|ab<|ai J<|ag<|aa J<|ax aM J<|aR bm [] J aj J<|ab<|ag<|a7 aM J<|ap [] (HR b ⟨if eL b y.p [46, 10] then y.p + [46, 10].length else y.p, y.bad⟩) J J J J J J aj (.inl J) J J J<|aR aM [] J aj J ?_
      refine ab<|aO<|ba (ir J (a8 (aP ?_)))
      exact cX ⟨vh b ⟨if eL b y.p [46, 10] then y.p + [46, 10].length else y.p, y.bad⟩, ins⟩ ⟨by rw [EW]; exact zK hj1, fun h => absurd h47 (hj2 h)⟩ (Le.trans (bp (id := 511) rfl) (aL ⟨J, J, J, J, J, aj⟩ ⟨J, J, J, J, aj⟩ J J J J))
     ·refine aV J<|ab<|ah J<|ao<|ak<|ae<|ag<|ax dF J<|aC eB J<|dW ac J J J eB J aB J J J<|bc J J J J J (fun h69 => ?_) (fun h69 => ?_)
      ·refine ab<|ai J<|ag<|ax aM J<|aR bm [] J aj J<|ab<|aO<|ba (ir J (a8 (aP ?_)))
       exact cX ⟨⟨y.p, 3⟩, ins⟩ ⟨hj1, fun h => absurd h47 (hj2 h)⟩ (Le.trans (bp (id := 511) rfl) (aL ⟨J, J, J, J, J, aj⟩ ⟨J, J, J, J, aj⟩ J J J J))
      ·refine ab<|ah J<|ao<|ak<|ag<|a7 aM J<|ax aK J<|aC bm J<|ap [] (za b y hj1 hb a.i [] ha.i1 (.inl J)) J J J J J J aj (.inl J) J J J<|aa J<|aW J<|aW J<|bl (id := 15) aM J<|af J ?_
       refine aR aM [] J aj J<|ab<|ag<|ax dF J<|aC eB J<|aa J<|bZ (es := [(gZ b [] a.i.toNat 0 y []).1].map mG) eB dd [] J aj J ?_
       refine cw 82 [] ac J eB J eB J dd J J J J ⟨J, J, aj⟩ J (elOk.cons rfl rfl elOk.nil) cA (by constructor <;> simp <;> omega) J J J ?_
       refine ax dF J<|gF [(82, _)] ac J eB J J J ⟨J, aj⟩ J J J J J J J J<|ab<|aF<|a7 aM J<|aR aM [] J aj J<|ar<|aH ?_
       exact aT ⟨(gZ b [] a.i.toNat 0 y []).2, ins ++ [(gZ b [] a.i.toNat 0 y []).1]⟩ ⟨(ms hj1).1, fun h => absurd h47 (hj2 h), by simp; omega⟩ (by show 201 - (ins ++ [_]).length < 201 - ins.length; simp; omega) (cd [(511, 82)] ⟨J, J, J, J, J, aj⟩ ⟨J, J, J, J, J, aj⟩ J J J J J)
    ·refine af J<|af J<|ab<|ae<|ag<|aa J<|aa J<|al J<|al J<|al J<|al J<|aJ J<|ab ?_
     refine ah J<|ao<|ak<|ae<|ag<|ax dF J<|aC eB J<|dW ac J J J eB J aB J J J<|bc J J J J J (fun h69 => ?_) (fun h69 => ?_)
     ·refine ab<|ai J<|ag<|ax aM J<|aR bm [] J aj J<|ab<|aO<|ba (ir J (a8 (aP ?_)))
      exact cX ⟨⟨y.p, 3⟩, ins⟩ ⟨hj1, fun h => absurd h47 (hj2 h)⟩ (Le.trans (bp (id := 511) rfl) (aL ⟨J, J, J, J, J, aj⟩ ⟨J, J, J, J, aj⟩ J J J J))
     ·refine ab<|ah J<|ao<|ak<|ag<|a7 aM J<|ax aK J<|aC bm J<|ap [] (za b y hj1 hb a.i [] ha.i1 (.inl J)) J J J J J J aj (.inl J) J J J<|aa J<|aW J<|aW J<|bl (id := 15) aM J<|af J ?_
      refine aR aM [] J aj J<|ab<|ag<|ax dF J<|aC eB J<|aa J<|bZ (es := [(gZ b [] a.i.toNat 0 y []).1].map mG) eB dd [] J aj J ?_
      refine cw 82 [] ac J eB J eB J dd J J J J ⟨J, J, aj⟩ J (elOk.cons rfl rfl elOk.nil) cA (by constructor <;> simp <;> omega) J J J ?_
      refine ax dF J<|gF [(82, _)] ac J eB J J J ⟨J, aj⟩ J J J J J J J J<|ab<|aF<|a7 aM J<|aR aM [] J aj J<|ar<|aH ?_
      exact aT ⟨(gZ b [] a.i.toNat 0 y []).2, ins ++ [(gZ b [] a.i.toNat 0 y []).1]⟩ ⟨(ms hj1).1, fun h => absurd h47 (hj2 h), by simp; omega⟩ (by show 201 - (ins ++ [_]).length < 201 - ins.length; simp; omega) (cd [(511, 82)] ⟨J, J, J, J, J, aj⟩ ⟨J, J, J, J, J, aj⟩ J J J J J)
   ·refine ab<|ah J<|aO<|ba (a8 (aP ?_))
    exact cX ⟨y, ins⟩ ⟨hj1, hj2⟩ (Le.trans (bp (id := 511) J) (aL ⟨J, J, J, J, J, aj⟩ ⟨J, J, J, J, aj⟩ J J J J))
  ·rintro ⟨y, ins⟩ ⟨hy1, hy2⟩
   refine ae<|ag<|ax aM J<|aC bm J<|bt J J J J J (fun h87 => ?_) (fun h87 => ?_)
   ·refine ab<|ai J<|ae<|aS (L := [([], []), ([10], []), ([10], []), ([10], []), ([10], []), ([4], [4]), ([], []), ([], [])]) (by kernel_rfl) mixed (by kernel_rfl)<|bD [] ac J dF J J aj J J J J J J<|ax aM J<|aC bm J<|ax aM J<|aC bm J<|aR dF [] J aj J<|af J<|af J<|ab<|am ?_
    refine au (aD J J ?_)
    exact ⟨⟨0, [], []⟩, _, _, rfl, fun h => absurd h h87⟩
   ·refine ab<|ah J<|ao<|ak<|ae<|aS (L := [([11], []), ([10], []), ([10], []), ([4], [4]), ([], []), ([], [])]) (by kernel_rfl) mixed (by kernel_rfl)<|a7 dF J<|ax aM J<|aC bm J<|aR dF [] J aj J<|af J<|af J<|ab<|am ?_
    refine aD J J ?_
    exact ⟨⟨(ez b most).1, (ini b a most).1, ins⟩, _, 0, rfl, fun _ => xn (Classical.byContradiction fun hh => h87 (hy2 hh))⟩
end Go.Vd
namespace Go.Vd
open Go.Proofs Go.RowKit
theorem BY : ∀ n : Nat, Lib.decDigits n = oF n := by
 intro n
 induction n using Nat.strongRecOn with
 | _ n ih =>
   unfold Lib.decDigits oF
   split
   ·rfl
   ·rw [ih (n / 10) (by omega)]
theorem xz (n : Int) : Lib.itoa n = cy n := by unfold Lib.itoa cy; simp only [BY]
theorem Ci {w : World} (h : Glob w) : Lib.TabIs Tryz.prog w "internal/strconv.uint64pow10" .u64 Lib.pow10Tab := by
 obtain ⟨ty, f, h1⟩ := h.2.2.1
 have hg : Tryz.prog.globalNamed "internal/strconv.uint64pow10" = some 1 := by kernel_rfl
 unfold Lib.TabIs World.var?
 rw [hg]
 show (match w.heap[1]? with | some (.cells cs _ _) => some cs | _ => none) = _
 rw [h1]
theorem lL (n : Int) (h1 : -9223372036854775807 ≤ n) (h2 : n ≤ 9223372036854775807) : dn 113 [.int .i64 n] (.str (bs (cy n))) := by
 refine ⟨cJ (fn := Tryz.f113) (by kernel_rfl) rfl (by kernel_rfl), fun w im us hG hp => ?_⟩
 obtain ⟨u, rfl, hu⟩ := H2 hp
 cases hu.int_inv
 refine (Tryz.strconv_Itoa n (by omega) h2 w (Ci hG)).mono ?_
 rintro e w' ⟨rfl, k, os, rfl⟩
 refine ⟨_, rfl, vN, ?_⟩
 rw [xz]; exact .str _
abbrev vy (s : List UInt8) : List V := [.str (bs s)]
abbrev CV (xs : List (List UInt8)) : V := .sl (xs.map vy)
theorem Fv (s : List UInt8) : dn 103 [CV [s], .str (bs [32])] (.str (bs s)) := by
 refine bC ac (f := 103) (fn := Tryz.f103) (N := 75) (rs := [.tmp 4]) (by kernel_rfl) rfl (by kernel_rfl) rfl rfl [(0, .v (CV [s])), (1, .v (.str (bs [32])))] ⟨rfl, rfl, aj⟩ rfl rfl ?_
 intro B
 refine ag<|af J<|ab<|ae<|ag<|aa J<|aI ac J J uG J aB J J<|ab<|aw<|ag ?_
 refine jr J J J (decide_eq_false (by show ¬ ((1 : Nat) : Int) = 0; decide)) J J ?_
 refine af J<|ab<|ah J<|ag ?_
 refine jr J J J (decide_eq_true (by rfl)) J J ?_
 refine af J<|ab<|ai J<|ag<|aa J<|fZ ac J J J uG J fH (by decide) J J J J ?_
 refine bu fH J<|af J<|ab<|am<|az (au (an J J ?_))
 rfl
def HD (n : Int) (j : Nat) : List (List UInt8) := if j = 0 then [] else [cy n]
theorem CN (n : Int) (h1 : -9223372036854775807 ≤ n) (h2 : n ≤ 9223372036854775807) : dn 93 [cf [n]] (.str (bs (cy n ++ [10]))) := by
 refine bC ac (f := 93) (fn := Tryz.f93) (N := 21) (rs := [.tmp 2]) (by kernel_rfl) rfl (by kernel_rfl) rfl rfl [(0, .v (cf [n]))] ⟨rfl, aj⟩ rfl rfl ?_
 intro B
 refine ag<|af J<|ab<|ag<|af J<|ab<|ae<|ag<|aa J<|aI ac J J br J aB J J<|aa J ?_
 refine ab<|aw<|cg (gJ (t := 3) (id := 3) (e := 9) (sz := 1) J J (by decide)) ?_
 refine aZ (α := Nat) (fun j => mk [(3, .own 3), (6, .v (cf [n])), (7, .v (.int .i64 1)), (8, .v (.int .i64 j))] [(3, .row 9 1 ((HD n j).map vy))] 0) (fun j => j ≤ 1) (fun j => 1 - j) 0 (Nat.zero_le _) (aL ⟨J, J, J, J, aj⟩ ⟨J, aj⟩ J J J J) ?_
 rintro j hinv
 refine ag<|bj J (fun h9 => ?_) (fun h9 => ?_)
 ·refine ab<|ae<|ai J<|ao<|ak<|ae<|aw<|ae ?_
  have hj : j = 0 := by omega
  subst hj
  refine aF<|fZ ac J J J br J bm (by decide) J J J J ?_
  refine bu bm J<|af J<|ab<|aF<|aa J<|aa J<|ap [] (lL n h1 h2) J J J J J J aj (.inl J) J J J<|bZ (es := [cy n].map vy) uG fH [] J aj J ?_
  refine cw 16 [] ac J uG J uG J fH J J J J ⟨J, J, aj⟩ J (elOk.cons rfl rfl elOk.nil) cA (by constructor <;> simp [HD]) J J J ?_
  refine af J<|ar<|aH<|ak<|aF<|bh J (by omega) (by omega) J ?_
  refine aa J<|ar ?_
  exact aT 1 (Nat.le_refl _) (by omega) (cd [(3, 16)] ⟨J, J, J, J, aj⟩ ⟨J, aj⟩ J J J J J)
 ·refine ab<|ae<|ah J<|aO<|ba (a8 (aP ?_))
  refine ak<|ae ?_
  have hj : j = 1 := by omega
  subst hj
  refine aF<|aa J<|ap [(3, _)] (Fv (cy n)) J J J J J J ⟨J, aj⟩ (.inr J) J J J ?_
  refine gx J J J (by have := fP n h1 h2; show _ + 1 ≤ _; omega) J J ?_
  refine af J<|ab<|am ?_
  refine an J J ?_
  rfl
end Go.Vd
namespace Go.Vd
open Go.Proofs Go.RowKit
abbrev RB (b : List UInt8) (p : Nat) : Blk := .box [.v (cH b), .v (.int .i64 p)]
def yJ (b : List UInt8) (p : Nat) (s : List UInt8) : sq := if eL b p s then .ret (.tup []) [(900, RB b (p + s.length))] else .pan 147
def cG (b : List UInt8) (p : Nat) (most : Int) (s : List UInt8) : Option (Int × Nat) :=
 if (bK b p most).2.2 ≠ 0 then none else if eL b (bK b p most).2.1 s then some ((bK b p most).1, (bK b p most).2.1 + s.length) else none
def Cq (b : List UInt8) (x : Option (Int × Nat)) : sq := match x with
 | some (v, q) => .ret (.v (.int .i64 v)) [(900, RB b q)]
 | none => .pan 147
theorem eW {b : List UInt8} {p : Nat} {most : Int} {s : List UInt8} {v : Int} {q : Nat} (hp : p ≤ b.length) (h : cG b p most s = some (v, q)) : p ≤ q ∧ q ≤ b.length ∧ 0 ≤ v ∧ v ≤ 2147483647 ∧ v ≤ most := by
 unfold cG at h
 split at h
 ·cases h
 ·rename_i h0
  have hv := g7 b p most
  have hl := gv (most := most) hp
  split at h
  ·rename_i hw
   cases h
   exact ⟨by omega, c9 hl.2 hw, hv.1, hv.2.1, hv.2.2.1 (Classical.not_not.1 h0)⟩
  ·cases h
def ge (b : List UInt8) (most : Int) : Nat → Nat → List Int → Option (List Int × Nat)
 | 0, p, out => some (out, p)
 | n + 1, p, out => match cG b p most [10] with
   | some (v, q) => ge b most n q (out ++ [v])
   | none => none
def H5 (b : List UInt8) (x : Option (List Int × Nat)) : sq := match x with
 | some (l, q) => .ret (.v (cf l)) [(900, RB b q)]
 | none => .pan 147
theorem AJ (b s : List UInt8) (p : Nat) (h : p ≤ b.length) (hb : b.length ≤ 1000000000000) (hs : s.length ≤ 1000000000000) : dh Tryz.prog 134 [.ptr 900 0, .v (.str (bs s))] [(900, .box [.v (cH b), .v (.int .i64 p)])] (yJ b p s) := by
 refine cY ac (f := 134) (fn := Tryz.f134) (N := 31) (rs := []) (by kernel_rfl) rfl (by kernel_rfl) rfl rfl rfl ?_
 intro B β
 refine cT [(0, .ptr 900 0), (1, .v (.str (bs s)))] [(900, .box [.v (cH b), .v (.int .i64 p)])] ⟨J, J, aj⟩ ⟨J, aj⟩ J J J J<|ae<|aS (L := [([], []), ([900], []), ([900], []), ([900], []), ([], []), ([900], []), ([900], []), ([900], []), ([], []), ([], []), ([], []), ([], []), ([], []), ([], []), ([], [])]) (by kernel_rfl) mixed (by kernel_rfl)<|aa J<|bJ J<|ax fW J<|aC bG J<|aa J<|bJ J<|ax fW J<|aC bm J<|aa J<|ap [] (o5 b s p h hb hs) J J J J J J aj (.inl J) J J J<|aa J<|aW J<|aW J ?_
 refine bf (fun h18 => ?_) (fun h18 => ?_)
 ·refine af J<|af J<|ab<|ae<|ag<|aa J<|bL J<|ab<|ah J<|ao<|ak<|aF<|aa J ?_
  refine aa J<|bJ J<|ax fW J<|aR bm [] J aj J<|ar ?_
  refine me (L' := [(900, _)]) rfl (fa rfl) ⟨rfl, aj⟩ rfl rfl rfl rfl ?_
  unfold yJ
  rw [if_pos (by simp_all)]
  simp_all
  rfl
 ·refine af J<|af J<|ab<|ae<|ag<|aa J<|bL J<|ab<|ai J<|bB 6 (by kernel_rfl) J<|aa J<|bJ J<|ax fW J ?_
  refine aC bm J<|bD [] ac J ie J J aj J J J J J J<|gL ac (by decide) J J ie J J ?_
  refine ar ?_
  refine eH J J J ?_
  refine be (fx (by decide) rfl ?_)
  unfold yJ
  rw [if_neg (by simp_all)]
theorem iK (b s : List UInt8) (p : Nat) (h : p ≤ b.length) (hb : b.length ≤ 1000000000000) (hs : s.length ≤ 1000000000000) (hw : eL b p s = true) : dh Tryz.prog 134 [.ptr 900 0, .v (.str (bs s))] [(900, RB b p)] (.ret (.tup []) [(900, RB b (p + s.length))]) := by
 have := AJ b s p h hb hs
 unfold yJ at this
 rwa [if_pos hw] at this
theorem iP (b s : List UInt8) (p : Nat) (h : p ≤ b.length) (hb : b.length ≤ 1000000000000) (hs : s.length ≤ 1000000000000) (hw : ¬ eL b p s = true) : dh Tryz.prog 134 [.ptr 900 0, .v (.str (bs s))] [(900, RB b p)] (.pan 147) := by
 have := AJ b s p h hb hs
 unfold yJ at this
 rwa [if_neg hw] at this
theorem zq (b s : List UInt8) (p : Nat) (most : Int) (h : p ≤ b.length) (hb : b.length ≤ 1000000000000) (hs : s.length ≤ 1000000000000) (hm : -1 ≤ most) (hm2 : most ≤ 1000000000000) : dh Tryz.prog 135 [.ptr 900 0, .v (.int .i64 most), .v (.str (bs s))] [(900, .box [.v (cH b), .v (.int .i64 p)])] (Cq b (cG b p most s)) := by
 refine cY ac (f := 135) (fn := Tryz.f135) (N := 41) (rs := [.tmp 6]) (by kernel_rfl) rfl (by kernel_rfl) rfl rfl rfl ?_
 intro B β
 refine cT [(0, .ptr 900 0), (1, .v (.int .i64 most)), (2, .v (.str (bs s)))] [(900, .box [.v (cH b), .v (.int .i64 p)])] ⟨J, J, J, aj⟩ ⟨J, aj⟩ J J J J<|ag<|af J<|ab<|ae<|aS (L := [([], []), ([900], []), ([900], []), ([900], []), ([], []), ([900], []), ([900], []), ([900], []), ([], []), ([], []), ([], []), ([], []), ([], []), ([], []), ([], []), ([], []), ([], [])]) (by kernel_rfl) mixed (by kernel_rfl)<|aa J<|bJ J<|ax fW J<|aC bG J<|aa J<|bJ J<|ax fW J<|aC bm J ?_
 refine aa J<|ap [] (mv b p most h hb hm hm2) J J J J J J aj (.inl J) J J J<|aa J<|aW J<|aW J<|aW J<|af J<|af J<|af J<|ab<|ae<|ag<|aa J<|bt J J J J J (fun h25 => ?_) (fun h25 => ?_)
 ·refine ab<|ai J<|bB 7 (by kernel_rfl) J<|aa J<|bJ J<|ax fW J<|aC bm J<|aa J<|bD [] ac J ie J J aj J J J J J J<|gL ac (by decide) J J ie J J ?_
  refine ar ?_
  refine eH J J J ?_
  refine be (fx h25 J ?_)
  unfold Cq cG
  rw [if_pos h25]; done
 ·refine ab<|ah J<|ao<|ak<|ag<|aa J<|aa J<|bJ J<|ax fW J<|aR bm [] J aj J<|ab<|ae ?_
  by_cases hw : eL b (bK b p most).2.1 s = true
  ·refine aF<|aa J<|aa J<|er [(7, .v (.int .i64 (bK b p most).1))] [] (iK b s (bK b p most).2.1 (gv h).2 hb hs hw) J J J J ⟨J, aj⟩ J J J J aj ⟨J, aj⟩ J J J J J J J J<|ab<|ag<|aa J<|af J<|ab<|am ?_
   refine eo (L' := [(900, _)]) J (.inl rfl) ⟨J, aj⟩ J J J J ?_
   unfold Cq cG
   rw [if_neg h25, if_pos hw]
  ·refine bB 2 (by kernel_rfl) J<|aa J<|aa J<|ar ?_
   refine cC [] [] (iP b s (bK b p most).2.1 (gv h).2 hb hs hw) J J J J ⟨J, aj⟩ J J J aj aj J J J J (fun ch hch => ?_)
   refine be (bF hch J ?_)
   unfold Cq cG
   rw [if_neg h25, if_neg hw]; done
theorem dP (b s : List UInt8) (p : Nat) (most : Int) (h : p ≤ b.length) (hb : b.length ≤ 1000000000000) (hs : s.length ≤ 1000000000000) (hm : -1 ≤ most) (hm2 : most ≤ 1000000000000) {v : Int} {q : Nat} (he : cG b p most s = some (v, q)) : dh Tryz.prog 135 [.ptr 900 0, .v (.int .i64 most), .v (.str (bs s))] [(900, RB b p)] (.ret (.v (.int .i64 v)) [(900, RB b q)]) := by
 have := zq b s p most h hb hs hm hm2
 rw [he] at this; exact this
theorem dO (b s : List UInt8) (p : Nat) (most : Int) (h : p ≤ b.length) (hb : b.length ≤ 1000000000000) (hs : s.length ≤ 1000000000000) (hm : -1 ≤ most) (hm2 : most ≤ 1000000000000) (he : cG b p most s = none) : dh Tryz.prog 135 [.ptr 900 0, .v (.int .i64 most), .v (.str (bs s))] [(900, RB b p)] (.pan 147) := by
 have := zq b s p most h hb hs hm hm2
 rw [he] at this; exact this
theorem dD {α : Type} {x : Option α} (h : ¬ x.isSome = true) : x = none := by cases x with | none => rfl | some _ => exact absurd rfl h
theorem AK (b : List UInt8) (p : Nat) (n most : Int) (h : p ≤ b.length) (hb : b.length ≤ 1000000000000) (hn0 : n ≤ 1000000) (hm : -1 ≤ most) (hm2 : most ≤ 1000000000000) : dh Tryz.prog 137 [.ptr 900 0, .v (.int .i64 n), .v (.int .i64 most)] [(900, .box [.v (cH b), .v (.int .i64 p)])] (H5 b (ge b most n.toNat p [])) := by
 refine cY ac (f := 137) (fn := Tryz.f137) (N := 19) (rs := [.tmp 6]) (by kernel_rfl) rfl (by kernel_rfl) rfl rfl rfl ?_
 intro B β
 refine cT [(0, .ptr 900 0), (1, .v (.int .i64 n)), (2, .v (.int .i64 most))] [(900, .box [.v (cH b), .v (.int .i64 p)])] ⟨J, J, J, aj⟩ ⟨J, aj⟩ J J J J<|ag<|af J<|ab<|ag<|af J<|ab<|ae<|ag<|aa J<|aa J ?_
 refine ab<|aw<|cg (gJ (t := 7) (id := 7) (e := 3) (sz := 1) J J (by decide)) ?_
 refine aZ (α := Nat × Nat × List Int) (fun ⟨j, q, out⟩ => mk [(0, .ptr 900 0), (2, .v (.int .i64 most)), (7, .own 7), (8, .v (.int .i64 n)), (9, .v (.int .i64 j))] [(900, .box [.v (cH b), .v (.int .i64 q)]), (7, .row 3 1 (out.map d7))] ⟨0, 0, [(900, β 900)]⟩) (fun ⟨j, q, out⟩ => j ≤ n.toNat ∧ ge b most (n.toNat - j) q out = ge b most n.toNat p [] ∧ q ≤ b.length ∧ out.length ≤ j) (fun ⟨j, q, out⟩ => n.toNat - j) ⟨0, p, []⟩ ⟨Nat.zero_le _, J, h, Nat.le_refl _⟩ (aL ⟨J, J, J, J, J, aj⟩ ⟨J, J, aj⟩ J J J J) ?_
 rintro ⟨j, q, out⟩ ⟨hj1, hj2, hj3, hj4⟩
 refine ag<|bj J (fun h10 => ?_) (fun h10 => ?_)
 ·refine ab<|ae<|ai J<|ao<|ak<|ae<|aw ?_
  by_cases hn : (cG b q most [10]).isSome = true
  ·obtain ⟨⟨v, q2⟩, hn2⟩ := Option.isSome_iff_exists.1 hn
   have hq := eW hj3 hn2
   have hst : ge b most (n.toNat - (j + 1)) q2 (out ++ [v]) = ge b most n.toNat p [] := by (rw [← hj2, show n.toNat - j = (n.toNat - (j + 1)) + 1 by omega]; conv => rhs; unfold ge; (rw [hn2]))
   refine aF<|aa J<|aa J<|aa J<|er [(0, .ptr 900 0), (2, .v (.int .i64 most)), (8, .v (.int .i64 n)), (9, .v (.int .i64 j)), (11, .own 7)] [(7, .row 3 1 (out.map d7))] (dP b [10] q most hj3 hb (by decide) hm hm2 hn2) J J J J ⟨J, aj⟩ J J J J ⟨J, aj⟩ ⟨J, J, J, J, J, aj⟩ J J J J J J J J ?_
   refine bZ (es := [v].map d7) br bm [] J aj J ?_
   refine cw 16 [] ac J br J br J bm J J J J ⟨J, J, aj⟩ J (elOk.cons rfl rfl elOk.nil) cA (by constructor <;> simp <;> omega) J J J ?_
   refine af J<|ar<|aH<|ak<|aF<|bh J (by omega) (by omega) J ?_
   refine aa J<|ar ?_
   exact aT ⟨j + 1, q2, out ++ [v]⟩ ⟨by show j + 1 ≤ _; omega, hst, hq.2.1, by simp; omega⟩ (by show n.toNat - (j + 1) < n.toNat - j; omega) (cd [(7, 16)] ⟨J, J, J, J, J, aj⟩ ⟨J, J, aj⟩ J J J J J)
  ·have hn2 := dD hn
   refine bB 3 (by kernel_rfl) J<|aa J<|aa J<|aa J<|ar ?_
   refine cC [] [] (dO b [10] q most hj3 hb (by decide) hm hm2 hn2) J J J J ⟨J, aj⟩ J J J aj aj J J J J (fun ch hch => ?_)
   refine bx (be (dp (bx (be (bF hch J ?_)))))
   rw [← hj2, show n.toNat - j = (n.toNat - (j + 1)) + 1 by omega]
   unfold ge
   rw [hn2]
   rfl
 ·refine ab<|ae<|ah J<|aO<|ba (a8 (aP ?_))
  refine ak<|ae<|cg (bp (id := 7) J)<|cT [(7, .v (cf out))] [(900, .box [.v (cH b), .v (.int .i64 q)])] ⟨J, aj⟩ ⟨J, aj⟩ J J J J<|aF<|aa J<|af J<|ab<|am ?_
  refine eo (L' := [(900, _)]) J (.inl rfl) ⟨J, aj⟩ J J J J ?_
  rw [← hj2, show n.toNat - j = 0 by omega]
  rfl
end Go.Vd
namespace Go.Vd
open Go.Proofs Go.RowKit
theorem ll {α : Type} {x : Option α} (h : ¬ x.isSome = true) : x = none := by cases x with | none => rfl | some _ => exact absurd rfl h
def uu (b : List UInt8) (p : Nat) (s : List UInt8) : sq := if eL b p s then .ret (.tup []) [(900, RB b (p + s.length))] else .pan 189
def uD (b : List UInt8) (x : Int × Nat × Int) : sq := if x.2.2 ≠ 0 then .pan 189 else .ret (.v (.int .i64 x.1)) [(900, RB b x.2.1)]
theorem yI (b s : List UInt8) (p : Nat) (h : p ≤ b.length) (hb : b.length ≤ 1000000000000) (hs : s.length ≤ 1000000000000) : dh Tryz.prog 159 [.ptr 900 0, .v (.str (bs s))] [(900, .box [.v (cH b), .v (.int .i64 p)])] (uu b p s) := by
 refine cY ac (f := 159) (fn := Tryz.f159) (N := 31) (rs := []) (by kernel_rfl) rfl (by kernel_rfl) rfl rfl rfl ?_
 intro B β
 refine cT [(0, .ptr 900 0), (1, .v (.str (bs s)))] [(900, .box [.v (cH b), .v (.int .i64 p)])] ⟨J, J, aj⟩ ⟨J, aj⟩ J J J J<|ae<|aS (L := [([], []), ([900], []), ([900], []), ([900], []), ([], []), ([900], []), ([900], []), ([900], []), ([], []), ([], []), ([], []), ([], []), ([], []), ([], []), ([], [])]) (by kernel_rfl) mixed (by kernel_rfl)<|aa J<|bJ J<|ax io J<|aC bG J<|aa J<|bJ J<|ax io J<|aC bm J<|aa J<|ap [] (o5 b s p h hb hs) J J J J J J aj (.inl J) J J J<|aa J<|aW J<|aW J ?_
 refine bf (fun h18 => ?_) (fun h18 => ?_)
 ·refine af J<|af J<|ab<|ae<|ag<|aa J<|bL J<|ab<|ah J<|ao<|ak<|aF<|aa J ?_
  refine aa J<|bJ J<|ax io J<|aR bm [] J aj J<|ar ?_
  refine me (L' := [(900, _)]) rfl (fa rfl) ⟨rfl, aj⟩ rfl rfl rfl rfl ?_
  unfold uu
  rw [if_pos (by simp_all)]
  simp_all
  rfl
 ·refine af J<|af J<|ab<|ae<|ag<|aa J<|bL J<|ab<|ai J<|bB 6 (by kernel_rfl) J<|aa J<|bJ J<|ax io J ?_
  refine aC bm J<|bD [] ac J kK J J aj J J J J J J<|gL ac (by decide) J J kK J J ?_
  refine ar ?_
  refine eH J J J ?_
  refine be (fx (by decide) rfl ?_)
  unfold uu
  rw [if_neg (by simp_all)]
theorem fE (b s : List UInt8) (p : Nat) (h : p ≤ b.length) (hb : b.length ≤ 1000000000000) (hs : s.length ≤ 1000000000000) (hw : eL b p s = true) : dh Tryz.prog 159 [.ptr 900 0, .v (.str (bs s))] [(900, RB b p)] (.ret (.tup []) [(900, RB b (p + s.length))]) := by
 have := yI b s p h hb hs
 unfold uu at this
 rwa [if_pos hw] at this
theorem fB (b s : List UInt8) (p : Nat) (h : p ≤ b.length) (hb : b.length ≤ 1000000000000) (hs : s.length ≤ 1000000000000) (hw : ¬ eL b p s = true) : dh Tryz.prog 159 [.ptr 900 0, .v (.str (bs s))] [(900, RB b p)] (.pan 189) := by
 have := yI b s p h hb hs
 unfold uu at this
 rwa [if_neg hw] at this
theorem yN (b : List UInt8) (p : Nat) (most : Int) (F : FuncId) (x : Int × Nat × Int) (hF : dn F [cH b, .int .i64 p, .int .i64 most] (xN x)) : dh Tryz.prog 160 [.ptr 900 0, .v (.fn (.func F) [] []), .v (.int .i64 most)] [(900, .box [.v (cH b), .v (.int .i64 p)])] (uD b x) := by
 refine cY ac (f := 160) (fn := Tryz.f160) (N := 39) (rs := [.tmp 6]) (by kernel_rfl) rfl (by kernel_rfl) rfl rfl rfl ?_
 intro B β
 refine cT [(0, .ptr 900 0), (1, .v (.fn (.func F) [] [])), (2, .v (.int .i64 most))] [(900, .box [.v (cH b), .v (.int .i64 p)])] ⟨J, J, J, aj⟩ ⟨J, aj⟩ J J J J<|ag<|af J<|ab<|ae<|aS (L := [([], []), ([], []), ([900], []), ([900], []), ([900], []), ([], []), ([900], []), ([900], []), ([900], []), ([], []), ([], []), ([], []), ([], []), ([], []), ([], []), ([], []), ([], []), ([], [])]) (by kernel_rfl) mixed (by kernel_rfl)<|aa J<|aa J<|bJ J<|ax io J<|aC bG J<|aa J<|bJ J<|ax io J ?_
 refine aC bm J<|aa J<|ap [] (hF) J J J J J J aj (.inl J) J J J<|aa J<|aW J<|aW J<|aW J<|af J<|af J<|af J<|ab<|ae<|ag<|aa J ?_
 refine bt J J J J J (fun h26 => ?_) (fun h26 => ?_)
 ·refine ab<|ai J<|bB 7 (by kernel_rfl) J<|aa J<|bJ J<|ax io J<|aC bm J<|aa J<|bD [] ac J kK J J aj J J J J J J<|gL ac (by decide) J J kK J J ?_
  refine ar ?_
  refine eH J J J ?_
  refine be (fx h26 J ?_)
  unfold uD
  rw [if_pos h26]
 ·refine ab<|ah J<|ao<|ak<|ag<|aa J<|aa J<|bJ J<|ax io J<|aR bm [] J aj J<|ab<|ag ?_
  refine aa J<|af J<|ab<|am ?_
  refine eo (L' := [(900, _)]) J (.inl rfl) ⟨J, aj⟩ J J J J ?_
  unfold uD
  rw [if_neg h26]
  rfl
theorem nB {b : List UInt8} {p : Nat} {most : Int} {F : FuncId} {x : Int × Nat × Int} (hF : dn F [cH b, .int .i64 p, .int .i64 most] (xN x)) (he : x.2.2 = 0) : dh Tryz.prog 160 [.ptr 900 0, .v (.fn (.func F) [] []), .v (.int .i64 most)] [(900, RB b p)] (.ret (.v (.int .i64 x.1)) [(900, RB b x.2.1)]) := by
 have := yN b p most F x hF
 unfold uD at this
 rwa [if_neg (fun h => h he)] at this
theorem nb {b : List UInt8} {p : Nat} {most : Int} {F : FuncId} {x : Int × Nat × Int} (hF : dn F [cH b, .int .i64 p, .int .i64 most] (xN x)) (he : ¬ x.2.2 = 0) : dh Tryz.prog 160 [.ptr 900 0, .v (.fn (.func F) [] []), .v (.int .i64 most)] [(900, RB b p)] (.pan 189) := by
 have := yN b p most F x hF
 unfold uD at this
 rwa [if_pos he] at this
def eR (b : List UInt8) (n : Int) : Nat → Nat → List Int → Option (List Int × Nat)
 | 0, _, _ => none
 | k + 1, p, out => if (fG b p n).2.2 ≠ 0 then none else if (fG b p n).1 = 0 then (if eL b (fG b p n).2.1 [10] then some (out, (fG b p n).2.1 + 1) else none)
     else if out.length = 1000 then none else if eL b (fG b p n).2.1 [32] then eR b n k ((fG b p n).2.1 + 1) (out ++ [(fG b p n).1]) else none
def oY (b : List UInt8) (p : Nat) : Nat := if eL b p [100, 32] then p + [100, 32].length else p
def gi (b : List UInt8) (n : Int) (p : Nat) : Option (ii × Nat) := (eR b n (b.length + 1 - oY b p) (oY b p) []).map fun x => (⟨eL b p [100, 32], x.1⟩, x.2)
def Gy (b : List UInt8) (x : Option (ii × Nat)) : sq := match x with
 | some (s, q) => .ret (.v (.agg (nQ s))) [(900, RB b q)]
 | none => .pan 189
theorem ru {b : List UInt8} {p : Nat} {most : Int} (h : p ≤ b.length) : p ≤ (fG b p most).2.1 ∧ (fG b p most).2.1 ≤ b.length := by
 have hq : p ≤ (if eL b p [45] then p + 1 else p) ∧ (if eL b p [45] then p + 1 else p) ≤ b.length := ⟨by split <;> omega, zK (s := [45]) h⟩
 unfold fG
 generalize (if eL b p [45] then p + 1 else p) = q at hq
 have hn := gv (most := most) hq.2
 split
 ·exact ⟨by omega, hn.2⟩
 ·split
  ·exact ⟨Nat.le_refl _, h⟩
  ·split
   ·exact ⟨Nat.le_refl _, h⟩
   ·exact ⟨by show p ≤ (bK b q most).2.1; omega, hn.2⟩
theorem wR {b : List UInt8} {p : Nat} (h : p ≤ b.length) : p ≤ oY b p ∧ oY b p ≤ b.length := by
 unfold oY
 split
 ·rename_i hw; exact ⟨by simp, c9 h hw⟩
 ·exact ⟨Nat.le_refl _, h⟩
theorem nO {b : List UInt8} {n : Int} : ∀ (k : Nat) (p : Nat) (out : List Int), p ≤ b.length → b.length + 1 - p ≤ k → eR b n k p out = eR b n (k + 1) p out
 | 0, p, out, h, hk => by omega
 | k + 1, p, out, h, hk => by
   conv => lhs; unfold eR
   conv => rhs; unfold eR
   split
   ·rfl
   ·split
    ·rfl
    ·split
     ·rfl
     ·split
      ·rename_i hw
       have hs := ru (most := n) h
       have hl : (fG b p n).2.1 + 1 ≤ b.length := c9 hs.2 hw
       exact nO k _ _ hl (by omega)
      ·rfl
theorem nK {b : List UInt8} {n : Int} {k k' p : Nat} {out : List Int} (h : p ≤ b.length) (hk : b.length + 1 - p ≤ k ∧ k ≤ k') : eR b n k p out = eR b n k' p out := by
 obtain ⟨d, rfl⟩ := Nat.exists_eq_add_of_le hk.2
 have h1 := hk.1
 clear hk
 induction d with
 | zero => rfl
 | succ m ih => rw [ih]; exact nO (k + m) p out h (by omega)
theorem vu {b : List UInt8} {n : Int} {k k' p : Nat} {out : List Int} (h : p ≤ b.length) (hk : b.length + 1 - p ≤ k ∧ b.length + 1 - p ≤ k') : eR b n k p out = eR b n k' p out := by
 rw [← nK h ⟨Nat.le_refl _, hk.1⟩, nK h ⟨Nat.le_refl _, hk.2⟩]
theorem yW (b : List UInt8) (p : Nat) (n : Int) (h : p ≤ b.length) (hb : b.length ≤ 1000000000000) (hn : 0 ≤ n) (hn2 : n ≤ 1000000000) : dh Tryz.prog 229 [.ptr 900 0, .v (.int .i64 n)] [(900, .box [.v (cH b), .v (.int .i64 p)])] (Gy b (gi b n p)) := by
 refine cY ac (f := 229) (fn := Tryz.f229) (N := 51) (rs := [.cell 4 174]) (by kernel_rfl) rfl (by kernel_rfl) rfl rfl rfl ?_
 intro B β
 refine cT [(0, .ptr 900 0), (1, .v (.int .i64 n))] [(900, .box [.v (cH b), .v (.int .i64 p)])] ⟨J, J, aj⟩ ⟨J, aj⟩ J J J J<|ag<|bl (id := 4) jK J<|ab<|ag<|bl (id := 5) jK J<|ab<|ae<|aS (L := [([], []), ([], []), ([900], []), ([900], []), ([900], []), ([], []), ([900], []), ([900], []), ([900], []), ([], []), ([], []), ([], []), ([], []), ([900], []), ([900], []), ([900], [900]), ([5], []), ([5], [5])]) (by kernel_rfl) mixed (by kernel_rfl)<|aa J<|aa J<|bJ J ?_
 refine ax io J<|aC bG J<|aa J<|bJ J<|ax io J<|aC bm J<|ap [] (o5 b [100, 32] p h hb (by decide)) J J J J J J aj (.inl J) J J J ?_
 refine aa J<|aW J<|aW J<|bJ J<|ax io J<|aR bm [] J aj J<|ax jK J<|aR pK [] J aj J<|ab<|aw<|cg (fO (bid := 5) (id := 77) (e := 3) (sz := 1) (j := 1) J J J (by decide)) ?_
 refine aZ (α := Nat × List Int) (fun ⟨q, out⟩ => mk [(0, .ptr 900 0), (1, .v (.int .i64 n)), (4, .ptr 4 0), (5, .ptr 5 0)] [(900, .box [.v (cH b), .v (.int .i64 q)]), (4, .box [.v (.bool false), .nils]), (5, .box [.v (.bool (eL b p [100, 32])), .own 77]), (77, .row 3 1 (out.map d7))] ⟨0, 0, [(900, β 900)]⟩) (fun ⟨q, out⟩ => q ≤ b.length ∧ oY b p ≤ q ∧ eR b n (b.length + 1 - q) q out = eR b n (b.length + 1 - oY b p) (oY b p) [] ∧ out.length ≤ 1000) (fun ⟨q, out⟩ => b.length + 1 - q) ⟨oY b p, []⟩ ⟨(wR h).2, Nat.le_refl _, J, Nat.zero_le _⟩ (aL ⟨J, J, J, J, aj⟩ ⟨J, J, J, J, aj⟩ J J J J) ?_
 rintro ⟨q, out⟩ ⟨hq, hq0, hinv, hol⟩
 refine aw<|ag<|aa J<|bJ J<|ax io J<|aC bm J<|af J<|ab<|ae ?_
 by_cases he : (fG b q n).2.2 = 0
 ·have hsq := ru (most := n) hq
  refine aF<|aa J<|aa J<|bn (nB (AC b q n hq hb (by omega) (by omega)) he) J J J J J J J J J J J J ?_
  refine af J<|ab<|ae<|ag<|aa J<|bc J J J J J (fun h32 => ?_) (fun h32 => ?_)
  ·refine ab<|ai J<|ae ?_
   by_cases hw10 : eL b (fG b q n).2.1 [10] = true
   ·have hS : gi b n p = some (⟨eL b p [100, 32], out⟩, (fG b q n).2.1 + 1) := by (unfold gi; rw [← hinv, show b.length + 1 - q = (b.length - q) + 1 by omega]; unfold eR; rw [if_neg (fun hh => hh he), if_pos h32, if_pos hw10]; rfl)
    refine aF<|aa J<|bn (fE b [10] (fG b q n).2.1 hsq.2 hb (by decide) hw10) J J J J J J J J J J J J ?_
    refine ab<|ae<|cg (bp (id := 77) J)<|cT [(4, .ptr 4 0), (5, .ptr 5 0)] [(900, .box [.v (cH b), .v (.int .i64 ((fG b q n).2.1 + 1 : Nat))]), (4, .box [.v (.bool false), .nils]), (5, .box [.v (.bool (eL b p [100, 32])), .v (cf out)])] ⟨J, J, aj⟩ ⟨J, J, J, aj⟩ J J J J<|aF<|a7 jK J<|aR jK [] J aj J<|ab<|am<|au (az (bR (az (eo (L' := [(900, _)]) J (.inl J) ⟨J, aj⟩ J J J J ?_))))
    rw [hS]
    rfl
   ·have hN : gi b n p = none := by (unfold gi; rw [← hinv, show b.length + 1 - q = (b.length - q) + 1 by omega]; unfold eR; rw [if_neg (fun hh => hh he), if_pos h32, if_neg hw10]; rfl)
    refine bB 1 (by kernel_rfl) J<|aa J<|ar ?_
    refine cC [] [] (fB b [10] (fG b q n).2.1 hsq.2 hb (by decide) hw10) J J J J ⟨J, aj⟩ J J J aj aj J J J J (fun ch hch => ?_)
    refine be (be (bx (dp (bx (bF hch J ?_)))))
    rw [hN]
    rfl
  ·refine ab<|ah J<|ao<|ak<|ae<|ag<|ax jK J<|aC br J<|dW ac J J J br J aB J J J<|bc J J J J J (fun h39 => ?_) (fun h39 => ?_)
   ·refine ab<|ai J ?_
    have hN : gi b n p = none := by (unfold gi; rw [← hinv, show b.length + 1 - q = (b.length - q) + 1 by omega]; unfold eR; rw [if_neg (fun hh => hh he), if_neg h32, if_pos (by omega)]; rfl)
    refine bB 3 (by kernel_rfl) J<|aa J<|bD [] ac J kK J J aj J J J J J J<|gL ac (by decide) J J kK J J ?_
    refine ar ?_
    refine eH J J J ?_
    refine be (bx (dp (bx (fx (by decide) rfl ?_))))
    rw [hN]
    rfl
   ·refine ab<|ah J<|ao<|ak<|ae ?_
    have hne : ¬ out.length = 1000 := by omega
    refine aF<|ax jK J<|aC br J<|aa J<|bZ (es := [(fG b q n).1].map d7) br bm [] J aj J ?_
    refine cw 47 [] ac J br J br J bm J J J J ⟨J, J, aj⟩ J (elOk.cons rfl rfl elOk.nil) cA (by constructor <;> simp <;> omega) J J J ?_
    refine ax jK J<|gF [(47, _)] ac J br J J J ⟨J, aj⟩ J J J J J J J J<|ab ?_
    by_cases hw32 : eL b (fG b q n).2.1 [32] = true
    ·have hw32l : (fG b q n).2.1 + 1 ≤ b.length := c9 hsq.2 hw32
     have hst : eR b n (b.length + 1 - ((fG b q n).2.1 + 1)) ((fG b q n).2.1 + 1) (out ++ [(fG b q n).1]) = eR b n (b.length + 1 - oY b p) (oY b p) [] := by (rw [← hinv, show b.length + 1 - q = (b.length - q) + 1 by omega]; (conv => rhs; unfold eR); rw [if_neg (fun hh => hh he), if_neg h32, if_neg hne, if_pos hw32]; exact vu (by omega) (by omega))
     refine aF<|aa J<|bn (fE b [32] (fG b q n).2.1 hsq.2 hb (by decide) hw32) J J J J J J J J J J J J ?_
     refine ar<|aH ?_
     exact aT ⟨(fG b q n).2.1 + 1, out ++ [(fG b q n).1]⟩ ⟨hw32l, (by omega), hst, (by simp; omega)⟩ (by show b.length + 1 - ((fG b q n).2.1 + 1) < b.length + 1 - q; omega) (cd [(77, 47)] ⟨J, J, J, J, aj⟩ ⟨J, J, J, J, aj⟩ J J J J J)
    ·have hN : gi b n p = none := by (unfold gi; rw [← hinv, show b.length + 1 - q = (b.length - q) + 1 by omega]; unfold eR; rw [if_neg (fun hh => hh he), if_neg h32, if_neg hne, if_neg hw32]; rfl)
     refine bB 1 (by kernel_rfl) J<|aa J<|ar ?_
     refine cC [] [] (fB b [32] (fG b q n).2.1 hsq.2 hb (by decide) hw32) J J J J ⟨J, aj⟩ J J J aj aj J J J J (fun ch hch => ?_)
     refine bx (dp (bx (bF hch J ?_)))
     rw [hN]
     rfl
 ·have hN : gi b n p = none := by (unfold gi; rw [← hinv, show b.length + 1 - q = (b.length - q) + 1 by omega]; unfold eR; rw [if_pos he]; rfl)
  refine bB 2 (by kernel_rfl) J<|aa J<|aa J<|ar ?_
  refine cC [] [] (nb (AC b q n hq hb (by omega) (by omega)) he) J J J J ⟨J, aj⟩ J J J aj aj J J J J (fun ch hch => ?_)
  refine be (bx (dp (bx (bF hch J ?_))))
  rw [hN]
  rfl
theorem sv {b : List UInt8} {n : Int} : ∀ {k p : Nat} {out c : List Int} {q : Nat}, p ≤ b.length → eR b n k p out = some (c, q) → p ≤ q ∧ q ≤ b.length
 | 0, p, out, c, q, h, he => by cases he
 | k + 1, p, out, c, q, h, he => by
   unfold eR at he
   have hs := ru (most := n) h
   split at he
   ·cases he
   ·split at he
    ·split at he
     ·rename_i hw
      have := c9 hs.2 hw
      cases he
      exact ⟨by omega, this⟩
     ·cases he
    ·split at he
     ·cases he
     ·split at he
      ·rename_i hw
       have hl : (fG b p n).2.1 + 1 ≤ b.length := c9 hs.2 hw
       have := sv hl he
       exact ⟨by omega, this.2⟩
      ·cases he
theorem uo {b : List UInt8} {n : Int} {p q : Nat} {s : ii} (h : p ≤ b.length) (he : gi b n p = some (s, q)) : p ≤ q ∧ q ≤ b.length := by
 unfold gi at he
 have hd := wR h
 obtain ⟨⟨c, r⟩, h1, h2⟩ := Option.map_eq_some_iff.1 he
 cases h2
 have := sv hd.2 h1
 exact ⟨by show p ≤ r; omega, this.2⟩
theorem yg {b : List UInt8} {p : Nat} {n : Int} (h : p ≤ b.length) (hb : b.length ≤ 1000000000000) (hn : 0 ≤ n) (hn2 : n ≤ 1000000000) {s : ii} {q : Nat} (he : gi b n p = some (s, q)) : dh Tryz.prog 229 [.ptr 900 0, .v (.int .i64 n)] [(900, RB b p)] (.ret (.v (.agg (nQ s))) [(900, RB b q)]) := by
 have := yW b p n h hb hn hn2
 rw [he] at this; exact this
theorem xG {b : List UInt8} {p : Nat} {n : Int} (h : p ≤ b.length) (hb : b.length ≤ 1000000000000) (hn : 0 ≤ n) (hn2 : n ≤ 1000000000) (he : gi b n p = none) : dh Tryz.prog 229 [.ptr 900 0, .v (.int .i64 n)] [(900, RB b p)] (.pan 189) := by
 have := yW b p n h hb hn hn2
 rw [he] at this; exact this
def fU (b : List UInt8) (n : Int) : Nat → Nat → List ii → Option (List ii × Nat)
 | 0, p, out => some (out, p)
 | k + 1, p, out => match gi b n p with
   | some (s, q) => fU b n k q (out ++ [s])
   | none => none
abbrev ol : List UInt8 := [112, 114, 111, 111, 102, 32]
def ec (b : List UInt8) (n : Int) (p : Nat) : Option (List ii × Nat) :=
 if eL b p ol then (if (bK b (p + 6) 20000).2.2 = 0 then (if eL b (bK b (p + 6) 20000).2.1 [10] then fU b n (bK b (p + 6) 20000).1.toNat ((bK b (p + 6) 20000).2.1 + 1) [] else none) else none) else none
def Hy (b : List UInt8) (x : Option (List ii × Nat)) : sq := match x with
 | some (s, q) => .ret (.v (lu s)) [(900, RB b q)]
 | none => .pan 189
theorem qP {b : List UInt8} {n : Int} : ∀ {k p : Nat} {out c : List ii} {q : Nat}, p ≤ b.length → fU b n k p out = some (c, q) → p ≤ q ∧ q ≤ b.length
 | 0, p, out, c, q, h, he => by unfold fU at he; cases he; exact ⟨Nat.le_refl _, h⟩
 | k + 1, p, out, c, q, h, he => by
   unfold fU at he
   split at he
   ·rename_i s r hs
    have h1 := uo h hs
    have := qP h1.2 he
    exact ⟨by omega, this.2⟩
   ·cases he
theorem nz {b : List UInt8} {n : Int} {p q : Nat} {c : List ii} (h : p ≤ b.length) (he : ec b n p = some (c, q)) : p ≤ q ∧ q ≤ b.length := by
 unfold ec at he
 split at he
 ·rename_i hw
  have h1 : p + 6 ≤ b.length := c9 h hw
  have hn := gv (most := 20000) h1
  split at he
  ·split at he
   ·rename_i hw2
    have h2 : (bK b (p + 6) 20000).2.1 + 1 ≤ b.length := c9 hn.2 hw2
    have := qP h2 he
    exact ⟨by omega, this.2⟩
   ·cases he
  ·cases he
 ·cases he
theorem Ai (b : List UInt8) (p : Nat) (n : Int) (h : p ≤ b.length) (hb : b.length ≤ 1000000000000) (hn : 0 ≤ n) (hn2 : n ≤ 1000000000) : dh Tryz.prog 163 [.ptr 900 0, .v (.int .i64 n)] [(900, .box [.v (cH b), .v (.int .i64 p)])] (Hy b (ec b n p)) := by
 refine cY ac (f := 163) (fn := Tryz.f163) (N := 24) (rs := [.tmp 4]) (by kernel_rfl) rfl (by kernel_rfl) rfl rfl rfl ?_
 intro B β
 refine cT [(0, .ptr 900 0), (1, .v (.int .i64 n))] [(900, .box [.v (cH b), .v (.int .i64 p)])] ⟨J, J, aj⟩ ⟨J, aj⟩ J J J J<|ag<|af J<|ab<|ae ?_
 by_cases hw0 : eL b p ol = true
 ·have hw0l : p + 6 ≤ b.length := c9 h hw0
  refine aF<|aa J<|bn (fE b ol p h hb (by decide) hw0) J J J J J J J J J J J J ?_
  refine ab<|ae ?_
  by_cases hn0 : (bK b (p + 6) 20000).2.2 = 0
  ·have hng := gv (most := 20000) hw0l
   have hnv := g7 b (p + 6) 20000
   refine aF<|aa J<|bn (nB (mv b (p + 6) 20000 (by omega) hb (by omega) (by omega)) hn0) J J J J J J J J J J J J ?_
   refine af J<|ab<|ae ?_
   by_cases hw2 : eL b (bK b (p + 6) 20000).2.1 [10] = true
   ·have hw2l : (bK b (p + 6) 20000).2.1 + 1 ≤ b.length := c9 hng.2 hw2
    have hPM : ec b n p = fU b n (bK b (p + 6) 20000).1.toNat ((bK b (p + 6) 20000).2.1 + 1) [] := by (unfold ec; rw [if_pos hw0, if_pos hn0, if_pos hw2])
    refine aF<|aa J<|bn (fE b [10] (bK b (p + 6) 20000).2.1 hng.2 hb (by decide) hw2) J J J J J J J J J J J J ?_
    refine ab<|ag<|af J<|ab<|ae<|ag<|aa J<|aa J<|ab<|aw<|cg (gJ (t := 6) (id := 6) (e := 174) (sz := 2) J J (by decide)) ?_
    refine aZ (α := Nat × Nat × List ii) (fun ⟨j, q, out⟩ => mk [(0, .ptr 900 0), (1, .v (.int .i64 n)), (6, .own 6), (13, .v (.int .i64 (bK b (p + 6) 20000).1)), (14, .v (.int .i64 j))] [(900, .box [.v (cH b), .v (.int .i64 q)]), (6, .row 174 2 (out.map nQ))] ⟨0, 0, [(900, β 900)]⟩) (fun ⟨j, q, out⟩ => j ≤ (bK b (p + 6) 20000).1.toNat ∧ q ≤ b.length ∧ fU b n ((bK b (p + 6) 20000).1.toNat - j) q out = fU b n (bK b (p + 6) 20000).1.toNat ((bK b (p + 6) 20000).2.1 + 1) [] ∧ out.length ≤ j) (fun ⟨j, q, out⟩ => (bK b (p + 6) 20000).1.toNat - j) ⟨0, (bK b (p + 6) 20000).2.1 + 1, []⟩ ⟨Nat.zero_le _, hw2l, J, Nat.le_refl _⟩ (aL ⟨J, J, J, J, J, aj⟩ ⟨J, J, aj⟩ J J J J) ?_
    rintro ⟨j, q, out⟩ ⟨hj1, hq, hj3, hj4⟩
    refine ag<|bj J (fun h15 => ?_) (fun h15 => ?_)
    ·refine ab<|ae<|ai J<|ao<|ak<|ae<|aw ?_
     by_cases hst : (gi b n q).isSome = true
     ·obtain ⟨⟨s, q2⟩, hst2⟩ := Option.isSome_iff_exists.1 hst
      have hstq := uo hq hst2
      have hst3 : fU b n ((bK b (p + 6) 20000).1.toNat - (j + 1)) q2 (out ++ [s]) = fU b n (bK b (p + 6) 20000).1.toNat ((bK b (p + 6) 20000).2.1 + 1) [] := by (rw [← hj3, show (bK b (p + 6) 20000).1.toNat - j = ((bK b (p + 6) 20000).1.toNat - (j + 1)) + 1 by omega]; conv => rhs; unfold fU; (rw [hst2]))
      refine aF<|aa J<|aa J<|aa J<|bn (yg hq hb hn hn2 hst2) J J J J J J J J J J J J<|bZ (es := [s].map nQ) eX jK [] J aj J ?_
      refine cw 21 [] ac J eX J eX J jK J J J J ⟨J, J, aj⟩ J (elOk.cons rfl rfl elOk.nil) cA (by constructor <;> simp <;> omega) J J J ?_
      refine af J<|ar<|aH<|ak<|aF<|bh J (by omega) (by omega) J ?_
      refine aa J<|ar ?_
      exact aT ⟨j + 1, q2, out ++ [s]⟩ ⟨by show j + 1 ≤ _; omega, hstq.2, hst3, by simp; omega⟩ (by show (bK b (p + 6) 20000).1.toNat - (j + 1) < (bK b (p + 6) 20000).1.toNat - j; omega) (cd [(6, 21)] ⟨J, J, J, J, J, aj⟩ ⟨J, J, aj⟩ J J J J J)
     ·have hst2 := ll hst
      have hN : ec b n p = none := by (rw [hPM, ← hj3, show (bK b (p + 6) 20000).1.toNat - j = ((bK b (p + 6) 20000).1.toNat - (j + 1)) + 1 by omega]; unfold fU; rw [hst2])
      refine bB 3 (by kernel_rfl) J<|aa J<|aa J<|aa J<|ar ?_
      refine cC [] [] (xG hq hb hn hn2 hst2) J J J J ⟨J, aj⟩ J J J aj aj J J J J (fun ch hch => ?_)
      refine bx (be (dp (bx (be (bF hch J ?_)))))
      rw [hN]
      rfl
    ·refine ab<|ae<|ah J<|aO<|ba (a8 (aP ?_))
     refine ak<|ae<|cg (bp (id := 6) J)<|cT [(6, .v (lu out))] [(900, .box [.v (cH b), .v (.int .i64 q)])] ⟨J, aj⟩ ⟨J, aj⟩ J J J J<|aF<|aa J<|af J<|ab<|am ?_
     refine eo (L' := [(900, _)]) J (.inl rfl) ⟨J, aj⟩ J J J J ?_
     rw [hPM, ← hj3, show (bK b (p + 6) 20000).1.toNat - j = 0 by omega]
     rfl
   ·have hN : ec b n p = none := by (unfold ec; rw [if_pos hw0, if_pos hn0, if_neg hw2])
    refine bB 1 (by kernel_rfl) J<|aa J<|ar ?_
    refine cC [] [] (fB b [10] (bK b (p + 6) 20000).2.1 hng.2 hb (by decide) hw2) J J J J ⟨J, aj⟩ J J J aj aj J J J J (fun ch hch => ?_)
    refine be (bF hch J ?_)
    rw [hN]
    rfl
  ·have hN : ec b n p = none := by (unfold ec; rw [if_pos hw0, if_neg hn0])
   refine bB 1 (by kernel_rfl) J<|aa J<|ar ?_
   refine cC [] [] (nb (mv b (p + 6) 20000 (by omega) hb (by omega) (by omega)) hn0) J J J J ⟨J, aj⟩ J J J aj aj J J J J (fun ch hch => ?_)
   refine be (bF hch J ?_)
   rw [hN]
   rfl
 ·have hN : ec b n p = none := by (unfold ec; rw [if_neg hw0])
  refine bB 1 (by kernel_rfl) J<|aa J<|ar ?_
  refine cC [] [] (fB b ol p h hb (by decide) hw0) J J J J ⟨J, aj⟩ J J J aj aj J J J J (fun ch hch => ?_)
  refine be (bF hch J ?_)
  rw [hN]
  rfl
end Go.Vd
namespace Go.Vd
open Go.Proofs Go.RowKit
theorem u7 {w : World} {im : Nat → Prop} {ι : Nat → Con} {n : Int} {us : Array Value} (h : PW (RepD w im ι) [.nils, .v (.int .i64 n)] us.toList) : us = #[.slice none 0 0, .int .i64 n] := by
 obtain ⟨h1, h2⟩ := h
 have hs : us.size = 2 := by simpa using h1
 have a := h2 0 _ us[0] rfl (by simp [hs])
 have b := h2 1 _ us[1] rfl (by simp [hs])
 have b' := (aA b).int_inv
 refine Array.ext (by simp [hs]) fun i hi hj => ?_
 match i, hj with
 | 0, _ => exact a.nils_inv
 | 1, _ => exact b'
 | i + 2, h => simp at h; omega
set_option maxHeartbeats 1000000 in
theorem ES (n : Nat) (hn : n ≤ 1000000000) : dh Tryz.prog 168 [.nils, .v (.int .i64 n)] [] (.ret (.own 900) [(900, .row 3 1 [])]) := by
 refine sj (by decide) (cJ (fn := Tryz.f168) (by kernel_rfl) rfl (by kernel_rfl)) fun w im ι us hp hsz => ?_
 cases u7 hp
 have hb : IntKind.i64.wrap (n : Int) = n := by rw [IntKind.wrap_i64]; omega
 have hby : Tryz.t3.bytes = 8 := by kernel_rfl
 have hge : ¬ ((n : Int) < 0) := by omega
 by_cases h0 : n = 0
 ·subst h0
  go_enter Tryz.func168, Tryz.ntmps168
  go_wp2
  exact ⟨rfl, _, by simp [results, Tryz.results168, go_sem], .inl ⟨rfl, rfl⟩⟩
 ·have hnx : Builtin.nextslicecap n 0 = n := nextslicecap_zero (by omega)
  go_enter Tryz.func168, Tryz.ntmps168
  go_wp2
  all_goals first
   | (exfalso; simp only [hby, hnx] at *; omega)
   | skip
  have hg := fA (w := w) (e := 3) (need := n) (old := 0) (sz := 1) (z := .int .i64 0) (vs := (Builtin.zeroCells #[.int .i64 0] n).toList) (m0 := 0) (by simp [Builtin.zeroCells]) rfl (by simp [maxLen]; omega)
  exact ⟨rfl, _, by simp [results, Tryz.results168, go_sem], .inr ⟨(Question.appendCap n 0 3).cut (w.tape w.drawn (Question.appendCap n 0 3)), rfl, _, rfl, hg.2.1, by simpa [Value.cells, grownCap] using hg.2.2.1⟩⟩
set_option maxHeartbeats 1000000 in
theorem Eh (n : Nat) (hn : n ≤ 1000000000) : dh Tryz.prog 272 [.nils, .v (.int .i64 n)] [] (.ret (.own 900) [(900, .row 63 2 [])]) := by
 refine sj (by decide) (cJ (fn := Tryz.f272) (by kernel_rfl) rfl (by kernel_rfl)) fun w im ι us hp hsz => ?_
 cases u7 hp
 have hb : IntKind.i64.wrap (n : Int) = n := by rw [IntKind.wrap_i64]; omega
 have hby : Tryz.t63.bytes = 16 := by kernel_rfl
 have hge : ¬ ((n : Int) < 0) := by omega
 by_cases h0 : n = 0
 ·subst h0
  go_enter Tryz.func272, Tryz.ntmps272
  go_wp2
  exact ⟨rfl, _, by simp [results, Tryz.results272, go_sem], .inl ⟨rfl, rfl⟩⟩
 ·have hnx : Builtin.nextslicecap n 0 = n := nextslicecap_zero (by omega)
  go_enter Tryz.func272, Tryz.ntmps272
  go_wp2
  all_goals first
   | (exfalso; simp only [hby, hnx] at *; omega)
   | skip
  have hg := fA (w := w) (e := 63) (need := n) (old := 0) (sz := 2) (z := .agg #[.int .i64 0, .int .i64 0]) (vs := (Builtin.zeroCells #[.int .i64 0, .int .i64 0] n).toList) (m0 := 0) (by simp [Builtin.zeroCells]) rfl (by simp [maxLen]; omega)
  exact ⟨rfl, _, by simp [results, Tryz.results272, go_sem], .inr ⟨(Question.appendCap n 0 63).cut (w.tape w.drawn (Question.appendCap n 0 63)), rfl, _, rfl, hg.2.1, by simpa [Value.cells, grownCap] using hg.2.2.1⟩⟩
set_option maxHeartbeats 1000000 in
theorem DI (n : Nat) (hn : n ≤ 1000000000) : dh Tryz.prog 273 [.nils, .v (.int .i64 n)] [] (.ret (.own 900) [(900, .row 30 1 [])]) := by
 refine sj (by decide) (cJ (fn := Tryz.f273) (by kernel_rfl) rfl (by kernel_rfl)) fun w im ι us hp hsz => ?_
 cases u7 hp
 have hb : IntKind.i64.wrap (n : Int) = n := by rw [IntKind.wrap_i64]; omega
 have hby : Tryz.t30.bytes = 24 := by kernel_rfl
 have hge : ¬ ((n : Int) < 0) := by omega
 by_cases h0 : n = 0
 ·subst h0
  go_enter Tryz.func273, Tryz.ntmps273
  go_wp2
  exact ⟨rfl, _, by simp [results, Tryz.results273, go_sem], .inl ⟨rfl, rfl⟩⟩
 ·have hnx : Builtin.nextslicecap n 0 = n := nextslicecap_zero (by omega)
  go_enter Tryz.func273, Tryz.ntmps273
  go_wp2
  all_goals first
   | (exfalso; simp only [hby, hnx] at *; omega)
   | skip
  have hg := fA (w := w) (e := 30) (need := n) (old := 0) (sz := 1) (z := .slice none 0 0) (vs := (Builtin.zeroCells #[.slice none 0 0] n).toList) (m0 := 0) (by simp [Builtin.zeroCells]) rfl (by simp [maxLen]; omega)
  exact ⟨rfl, _, by simp [results, Tryz.results273, go_sem], .inr ⟨(Question.appendCap n 0 30).cut (w.tape w.drawn (Question.appendCap n 0 30)), rfl, _, rfl, hg.2.1, by simpa [Value.cells, grownCap] using hg.2.2.1⟩⟩
end Go.Vd
