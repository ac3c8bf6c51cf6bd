/- The ground that all texts of this seat share: no program in sight. -/
import Derived.Test.YthfliohfkhnpiaaRows
import Derived.WalkKit
import Derived.WalkSpells
import Derived.WalkSmall
import Derived.StillTactics
import Derived.RegionTactic
import Derived.Deep.RegionHeld3
import Derived.Deep.QuietTactic
import Derived.Deep.AppendLies
import Derived.Deep.DeepCutAuto
import Derived.BigQuiet
import Derived.RowKit3
import Derived.Below
import Derived.Lib.Hide
import Derived.Lib.QuietBelow
import Derived.Lib.SliceRun
import Derived.ProofKit
import Derived.OpenShut
import Derived.ChangeOld
import Derived.Lib.SmallJoins
namespace Go.Proofs.Ythfliohfkhnpiaa
open Go.ChangeShapes Go.WideShapes Go.ChangeAt Go.RowKit Go.Sort

theorem bcell {W w1 : World} (hb : Below W.heap.size W w1) : (∀ b o, b < W.heap.size → w1.cell? ⟨b, o, none⟩ = W.cell? ⟨b, o, none⟩) ∧ (∀ b o, b < W.heap.size → w1.frozen? ⟨b, o, none⟩ = W.frozen? ⟨b, o, none⟩) :=
  ⟨fun b o h => hb.cell (p := ⟨b, o, none⟩) h, fun b o h => hb.frozen (p := ⟨b, o, none⟩) h⟩
theorem wp_world {P : Program} {c : Code} {Q : Exit → Act → World → Prop} {a : Act} {W : World} (h : ∀ w1, Below W.heap.size W w1 → Code.wp P c Q a w1) : Code.wp P c Q a W := h W (Below.refl _ _)
theorem ret_bool {a b : Bool} (h : a = true ↔ b = true) : Ending.returned (.bool a) = .returned (.bool b) := by rw [Bool.eq_iff_iff.2 h]
theorem ret_b {a b : Bool} (h : a = b) : Ending.returned (.bool a) = .returned (.bool b) := by rw [h]
theorem ret_int {k : IntKind} {a b : Int} (h : a = b) : Ending.returned (.int k a) = .returned (.int k b) := by rw [h]
theorem ret_v {a b : Value} (h : a = b) : Ending.returned a = .returned b := by rw [h]
theorem i64_bd {n : Int} (h : (Lit.int .i64 n).wf = true) : -9223372036854775808 ≤ n ∧ n ≤ 9223372036854775807 := by
  simp [Lit.wf, IntKind.min, IntKind.max, IntKind.signed, IntKind.bits] at h; omega
theorem i64_wf {n : Int} (h : -9223372036854775808 ≤ n ∧ n ≤ 9223372036854775807) : (Lit.int .i64 n).wf = true := by
  simp [Lit.wf, IntKind.min, IntKind.max, IntKind.signed, IntKind.bits]; omega
theorem u8_bd {n : Int} (h : (Lit.int .u8 n).wf = true) : 0 ≤ n ∧ n ≤ 255 := by simp [Lit.wf, IntKind.min, IntKind.max, IntKind.signed, IntKind.bits] at h; omega
theorem u16_bd {n : Int} (h : (Lit.int .u16 n).wf = true) : 0 ≤ n ∧ n ≤ 65535 := by simp [Lit.wf, IntKind.min, IntKind.max, IntKind.signed, IntKind.bits] at h; omega
theorem u32_bd {n : Int} (h : (Lit.int .u32 n).wf = true) : 0 ≤ n ∧ n ≤ 4294967295 := by simp [Lit.wf, IntKind.min, IntKind.max, IntKind.signed, IntKind.bits] at h; omega
theorem i16_bd {n : Int} (h : (Lit.int .i16 n).wf = true) : -32768 ≤ n ∧ n ≤ 32767 := by simp [Lit.wf, IntKind.min, IntKind.max, IntKind.signed, IntKind.bits] at h; omega

/-- The value v is a slice that reads as the list l in the world w; each element lies in c cells, told by f. -/
structure RowOf {α : Type} (c : Nat) (f : α → List Value) (w : World) (v : Value) (l : List α) : Prop where
  ex : ∃ (a : Option Addr) (cap : Nat), v = .slice a l.length cap ∧ l.length ≤ cap ∧ cap ≤ maxLen ∧ (l ≠ [] → ∃ b off, a = some ⟨b, off, none⟩ ∧ b < w.heap.size ∧ ∀ i x, l[i]? = some x → ∀ j u, (f x)[j]? = some u → w.cell? ⟨b, off + i * c + j, none⟩ = some u)

theorem RowOf.below {α : Type} {c : Nat} {f : α → List Value} {w w' : World} {v : Value} {l : List α} (h : RowOf c f w v l) (hb : Below w.heap.size w w') : RowOf c f w' v l := by
  obtain ⟨⟨a, cap, h1, h2, h3, h4⟩⟩ := h
  refine ⟨⟨a, cap, h1, h2, h3, fun hl => ?_⟩⟩
  obtain ⟨b, off, h5, h6, h7⟩ := h4 hl
  exact ⟨b, off, h5, Nat.lt_of_lt_of_le h6 hb.size, fun i x hi j u hj => (hb.cell h6).trans (h7 i x hi j u hj)⟩
theorem RowOf.nil {α : Type} {c : Nat} {f : α → List Value} (w : World) : RowOf c f w (.slice none 0 0) [] := ⟨⟨none, 0, rfl, Nat.le_refl _, Nat.zero_le _, fun h => absurd rfl h⟩⟩
theorem RowOf.form {α : Type} {c : Nat} {f : α → List Value} {w : World} {v : Value} {l : List α} (h : RowOf c f w v l) : ∃ a c, v = .slice a l.length c ∧ l.length ≤ c ∧ c ≤ 9223372036854775807 := by
  obtain ⟨⟨a, c, h1, h2, h3, _⟩⟩ := h
  exact ⟨a, c, h1, h2, by unfold maxLen at h3; omega⟩

/-- The value v is a slice that reads as the list l in the world w. -/
structure Row (w : World) (v : Value) (l : List Int) : Prop where
  ex : ∃ (a : Option Addr) (cap : Nat), v = .slice a l.length cap ∧ l.length ≤ cap ∧ cap ≤ maxLen ∧ (l ≠ [] → ∃ b off, a = some ⟨b, off, none⟩ ∧ b < w.heap.size ∧ ∀ i, i < l.length → w.cell? ⟨b, off + i, none⟩ = some (.int .i64 (l.getD i 0)))
  wf : ∀ n ∈ l, (Lit.int .i64 n).wf = true

theorem Row.below {w w' : World} {v : Value} {l : List Int} (h : Row w v l) (hb : Below w.heap.size w w') : Row w' v l := by
  obtain ⟨⟨a, cap, h1, h2, h3, h4⟩, hw⟩ := h
  refine ⟨⟨a, cap, h1, h2, h3, fun hl => ?_⟩, hw⟩
  obtain ⟨b, off, h5, h6, h7⟩ := h4 hl
  exact ⟨b, off, h5, Nat.lt_of_lt_of_le h6 hb.size, fun i hi => (hb.cell h6).trans (h7 i hi)⟩

theorem Row.nil (w : World) : Row w (.slice none 0 0) [] := ⟨⟨none, 0, rfl, Nat.le_refl _, Nat.zero_le _, fun h => absurd rfl h⟩, by simp⟩

theorem Row.of_owns {w : World} {B : Nat} {E : TypeId} {v : Value} {l : List Int} (h : w.ownsRow B E 1 v l.length (l.map (Value.int .i64))) (hw : ∀ n ∈ l, (Lit.int .i64 n).wf = true) : Row w v l := by
  refine ⟨?_, hw⟩
  rcases h.2 with ⟨h1, h2⟩ | ⟨g, cap, cur, h1, h2, h3, h4, h5, h6, h7⟩
  · have : l = [] := List.eq_nil_of_length_eq_zero h2
    subst this
    exact ⟨none, 0, h1, Nat.le_refl _, Nat.zero_le _, fun h => absurd rfl h⟩
  · refine ⟨_, cap, h1, h4, h5, fun _ => ⟨g, 0, rfl, ?_, fun i hi => ?_⟩⟩
    · exact (Array.getElem?_eq_some_iff.1 h3).1
    · rw [Nat.zero_add, cell_of_row w g i cur E (0, 0) h3]
      have e : cur.toList[i]? = some (Value.int .i64 (l.getD i 0)) := by
        have e1 : (cur.toList.take (l.length * 1))[i]? = cur.toList[i]? := by rw [List.getElem?_take]; simp [hi]
        rw [← e1, h7]; simp [List.getElem?_eq_getElem hi]
      simpa using e

theorem Row.form {w : World} {v : Value} {l : List Int} (h : Row w v l) : ∃ a c, v = .slice a l.length c ∧ l.length ≤ c ∧ c ≤ 9223372036854775807 := by
  obtain ⟨⟨a, c, h1, h2, h3, _⟩, _⟩ := h
  exact ⟨a, c, h1, h2, by unfold maxLen at h3; omega⟩

theorem Row.take {w : World} {a : Option Addr} {n c : Nat} {l : List Int} (h : Row w (.slice a n c) l) (k : Nat) (hk : k ≤ l.length) : Row w (.slice a k c) (l.take k) := by
  obtain ⟨⟨a', c', h1, h2, h3, h4⟩, hw⟩ := h
  simp only [Value.slice.injEq] at h1
  obtain ⟨rfl, rfl, rfl⟩ := h1
  have hl : (l.take k).length = k := by rw [List.length_take]; omega
  refine ⟨⟨a, c, by rw [hl], by omega, h3, fun hne => ?_⟩, fun n hn => hw n (List.mem_of_mem_take hn)⟩
  obtain ⟨b, off, h5, h6, h7⟩ := h4 (by intro e; subst e; simp at hne)
  refine ⟨b, off, h5, h6, fun i hi => ?_⟩
  rw [hl] at hi
  rw [h7 i (by omega)]
  simp [hi]

theorem Row.lit {w : World} {cs : Array Value} {T : TypeId} {B n c : Nat} (l : List Int) (h1 : cs = (l.map (Value.int .i64)).toArray) (hB : B = w.heap.size) (h2 : n = l.length) (h3 : c = l.length) (hm : l.length ≤ maxLen) (hw : ∀ n ∈ l, (Lit.int .i64 n).wf = true) :
    Row (w.alloc (.cells cs T)) (.slice (some ⟨B, 0, none⟩) n c) l := by
  subst h1 h2 h3 hB
  refine ⟨⟨_, _, rfl, Nat.le_refl _, hm, fun _ => ⟨_, 0, rfl, by simp, fun i hi => ?_⟩⟩, hw⟩
  rw [World.cell?_alloc_at _ _ _ _ rfl]
  simp [hi]

/-- A store into a row that is owned. -/
theorem owns_set {w : World} {base : Nat} {E : TypeId} {g n c k : Nat} {xs : List Value} (h : w.ownsRow base E 1 (.slice (some ⟨g, 0, none⟩) n c) n xs) (u : Value) :
    (w.setCell ⟨g, k, none⟩ u).ownsRow base E 1 (.slice (some ⟨g, 0, none⟩) n c) n (xs.set k u) := by
  obtain ⟨h1, h2⟩ := h
  refine ⟨by simpa using h1, ?_⟩
  rcases h2 with ⟨h2, _⟩ | ⟨g', cap, cur, h2, h3, h4, h5, h6, h7, h8⟩
  · cases h2
  · simp only [Value.slice.injEq, Option.some.injEq, Addr.mk.injEq, true_and, and_true] at h2
    obtain ⟨rfl, rfl⟩ := h2
    refine .inr ⟨g, c, cur.setIfInBounds k u, rfl, h3, ?_, h5, h6, by simpa using h7, ?_⟩
    · simp [World.setCell, Array.getElem?_modify, h4]
    · rw [Array.toList_setIfInBounds, ← h8, List.take_set]

theorem drop_cons (l : List Int) (k : Nat) (h : k < l.length) : l.drop k = l.getD k 0 :: l.drop (k + 1) := by
  rw [List.drop_eq_getElem_cons h]; simp [List.getElem?_eq_getElem h]

theorem row_open_cs {H : Type} {enc : TypeId × Value → H} {P : Program} {W : World} {t e : TypeId} {n : Nat} {cs : List Value} {x : DataW H × List MemPlace} (ht : P.underlying t = some (.slice e)) (he : P.underlying e = some (.int .i64)) (hc : P.cellsOf e = 1)
    (hf : DataW.trod enc P W 0 (fun _ => true) true n t cs = some x) : ∃ v l, cs = [v] ∧ Row W v l := by
  rcases open_ints ht he hc hf with ⟨hcs, _⟩ | ⟨x, len, cap, zs, hcs, _, hl, hm, hz, _, hcell, hwz⟩
  · exact ⟨_, [], hcs, Row.nil _⟩
  · simp only [if_true] at hz
    have hlen : (zs.take len).length = len := by rw [List.length_take, hz]; omega
    refine ⟨_, zs.take len, hcs, ⟨some x, cap, by rw [hlen], by rw [hlen]; exact hl, hm, fun hne => ?_⟩, fun n hn => hwz n (List.mem_of_mem_take hn)⟩
    have h0 : 0 < len := by
      rcases Nat.eq_zero_or_pos len with h | h
      · subst h; simp at hne
      · exact h
    obtain ⟨b, off, spot⟩ := x
    have c0 := hcell 0 (by omega)
    have hspot : spot = none := by simpa [Addr.add] using World.cell?_spot c0
    subst hspot
    refine ⟨b, off, rfl, World.block_lt_of_cell? _ _ c0, fun i hi => ?_⟩
    rw [hlen] at hi
    have := hcell i (by omega)
    have e : (⟨b, off, none⟩ : Addr).add i = ⟨b, off + i, none⟩ := by unfold Addr.add; split <;> simp_all
    rw [e] at this
    simpa [List.getElem?_take, hi] using this

theorem row_open {H : Type} {enc : TypeId × Value → H} {P : Program} {W : World} {t e : TypeId} {v : Value} {d : DataW H} {p : List MemPlace} (ht : P.underlying t = some (.slice e)) (he : P.underlying e = some (.int .i64)) (hc : P.cellsOf e = 1)
    (hv : ∃ a len cap, v = .slice a len cap) (h : DataW.Trod enc P W 0 (fun _ => true) true t v d p) : ∃ l, Row W v l := by
  obtain ⟨a0, len0, cap0, rfl⟩ := hv
  obtain ⟨fuel, hf⟩ := h
  obtain ⟨v, l, hcs, hr⟩ := row_open_cs ht he hc hf
  simp only [Value.cells, List.cons.injEq, and_true] at hcs
  subst hcs
  exact ⟨l, hr⟩

def SameUpto (l m : List Int) (k : Nat) : Prop := ∀ j, j < k → l.getD j 0 = m.getD j 0
theorem SameUpto.zero (l m : List Int) : SameUpto l m 0 := fun _ h => absurd h (Nat.not_lt_zero _)
theorem SameUpto.succ {l m : List Int} {k : Nat} (h : SameUpto l m k) (hk : l.getD k 0 = m.getD k 0) : SameUpto l m (k + 1) := fun j hj => by
  by_cases e : j = k
  · subst e; exact hk
  · exact h j (by omega)
theorem SameUpto.eq {l m : List Int} (h : SameUpto l m l.length) (he : l.length = m.length) : l = m := by
  apply List.ext_getElem he
  intro i h1 h2
  have := h i h1
  simpa [List.getElem?_eq_getElem h1, List.getElem?_eq_getElem h2] using this

end Go.Proofs.Ythfliohfkhnpiaa
