/- A loop that keeps a state in a block of its own and appends to a slice of its own: what memory holds. No program in sight. -/
import Derived.Test.YtcaadikffaflnaaBase
namespace Go.Proofs.Ytcaadikffaflnaa
open Go.RowKit Go.Sort

/-- A struct that is stored, cell by cell. -/
def setAll (w : World) (F k : Nat) : List Value → World
  | [] => w
  | v :: vs => setAll (w.setCell ⟨F, k, none⟩ v) F (k + 1) vs
def setFrom (c : Array Value) (k : Nat) : List Value → Array Value
  | [] => c
  | v :: vs => setFrom (c.setIfInBounds k v) (k + 1) vs

theorem setAll_heap (vs : List Value) : ∀ (w : World) (F k : Nat) (c : Array Value) (T : TypeId) (fr : Nat × Nat), w.heap[F]? = some (.cells c T fr) → (setAll w F k vs).heap[F]? = some (.cells (setFrom c k vs) T fr) := by
  induction vs with
  | nil => intro w F k c T fr h; exact h
  | cons v vs ih =>
    intro w F k c T fr h
    refine ih _ F (k + 1) _ T fr ?_
    simp [World.setCell, Array.getElem?_modify, h]

theorem setAll_other (vs : List Value) : ∀ (w : World) (F k b : Nat), b ≠ F → (setAll w F k vs).heap[b]? = w.heap[b]? := by
  induction vs with
  | nil => intro w F k b h; rfl
  | cons v vs ih =>
    intro w F k b h
    rw [setAll, ih _ F (k + 1) b h]
    simp only [World.setCell, Array.getElem?_modify]
    rw [if_neg (fun e => h e.symm)]

theorem setAll_keep (vs : List Value) : ∀ (w : World) (F k : Nat), (setAll w F k vs).os = w.os ∧ (setAll w F k vs).tape = w.tape ∧ (setAll w F k vs).output = w.output ∧ (setAll w F k vs).heap.size = w.heap.size := by
  induction vs with
  | nil => intro w F k; exact ⟨rfl, rfl, rfl, rfl⟩
  | cons v vs ih =>
    intro w F k
    obtain ⟨h1, h2, h3, h4⟩ := ih (w.setCell ⟨F, k, none⟩ v) F (k + 1)
    exact ⟨h1, h2, h3, h4.trans (by simp [World.setCell])⟩

theorem setAll_below {B F : Nat} {w wr : World} (vs : List Value) (k : Nat) (h : Below B w wr) (hF : B ≤ F) : Below B w (setAll wr F k vs) := by
  obtain ⟨h1, h2, h3, h4⟩ := setAll_keep vs wr F k
  exact ⟨h1.trans h.os, h2.trans h.tape, h3.trans h.output, by rw [h4]; exact h.size, fun i hi => (setAll_other vs wr F k i (by omega)).trans (h.block i hi)⟩

theorem setAll_new (vs : List Value) (w : World) (F : Nat) (o : Obj) : ((setAll w F 0 vs).alloc o).heap[w.heap.size]? = some o := by
  rw [← (setAll_keep vs w F 0).2.2.2]; exact heap_alloc_new _ _

structure MemG (w : World) (F : Nat) (st : Array Value) (TF : TypeId) (E : TypeId) (sz n : Nat) (xs : List Value) (o : Value) (wr : World) : Prop where
  own : wr.ownsRow (F + 1) E sz o n xs
  blk : wr.heap[F]? = some (.cells st TF (0, 0))
  hF : w.heap.size ≤ F
  bel : Below w.heap.size w wr

section
variable {w : World} {F : Nat} {st : Array Value} {TF E : TypeId} {sz n : Nat} {xs : List Value} {o : Value} {wr : World}

theorem MemG.hlt (h : MemG w F st TF E sz n xs o wr) : F < wr.heap.size := (Array.getElem?_eq_some_iff.1 h.blk).1
theorem MemG.cell (h : MemG w F st TF E sz n xs o wr) (i : Nat) (v : Value) (hv : st[i]? = some v) : wr.cell? ⟨F, i, none⟩ = some v := (cell_of_row wr F i st TF (0, 0) h.blk).trans hv
theorem MemG.free (h : MemG w F st TF E sz n xs o wr) (i : Nat) : wr.frozen? ⟨F, i, none⟩ = false := by simp [World.frozen?, h.blk]
theorem MemG.ne (h : MemG w F st TF E sz n xs o wr) : o.ownBlock ≠ some F := fun e => by have := h.own.lt _ e; omega
theorem MemG.ne2 (h : MemG w F st TF E sz n xs o wr) (j : Nat) (hj : wr.heap.size ≤ j) : o.ownBlock ≠ some j := fun e => by have := h.own.lt _ e; omega

theorem MemG.start {w0 : World} (hb : Below w.heap.size w w0) (c : Array Value) : MemG w w0.heap.size c TF E sz 0 [] (.slice none 0 0) (w0.alloc (.cells c TF)) :=
  ⟨World.ownsRow_nil _ _ _ _, heap_alloc_new w0 _, hb.size, hb.alloc hb.size _⟩

theorem MemG.later {w2 : World} (h : MemG w F st TF E sz n xs o wr) (hb : Below wr.heap.size wr w2) : MemG w F st TF E sz n xs o w2 :=
  ⟨h.own.kept (row := none) ⟨hb.os, hb.tape, hb.output, hb.size, fun k hk _ => hb.block k hk⟩ (by cases o.ownBlock <;> simp), (hb.block F h.hlt).trans h.blk, h.hF, h.bel.trans (hb.mono h.bel.size)⟩

theorem ownsRow_setAll {base : Nat} {v : Value} (vs : List Value) : ∀ (w : World) (F k : Nat), F < base → w.ownsRow base E sz v n xs → (setAll w F k vs).ownsRow base E sz v n xs := by
  induction vs with
  | nil => intro w F k _ h; exact h
  | cons u vs ih => intro w F k hF h; exact ih _ F (k + 1) hF (ownsRow_setCell_below h hF u)

theorem MemG.set (h : MemG w F st TF E sz n xs o wr) (vs : List Value) (st' : Array Value) (hs : setFrom st 0 vs = st') : MemG w F st' TF E sz n xs o (setAll wr F 0 vs) :=
  ⟨ownsRow_setAll vs wr F 0 (Nat.lt_succ_self F) h.own, by rw [← hs]; exact setAll_heap vs wr F 0 st TF (0, 0) h.blk, h.hF, setAll_below vs 0 h.bel h.hF⟩

theorem MemG.append {wx : World} {v : Value} {n' : Nat} {ys : List Value} {o1 : Obj} (h : MemG w F st TF E sz n xs o wr) (hg : (wr.alloc o1).grownBy wx o.ownBlock)
    (hown : wx.ownsRow (F + 1) E sz v n' ys) : MemG w F st TF E sz n' ys v wx := by
  have hs : F < (wr.alloc o1).heap.size := by have := h.hlt; simp; omega
  refine ⟨hown, ?_, h.hF, (h.bel.alloc h.bel.size o1).grown hg (by have := h.bel.size; simp; omega) (fun j hj => by have := (h.own.lt j hj).1; have := h.hF; omega)⟩
  rw [hg.block F hs (Ne.symm h.ne)]
  exact (heap_alloc_old wr o1 h.hlt).trans h.blk
theorem MemG.append2 {wx : World} {v : Value} {n' : Nat} {ys : List Value} {o1 : Obj} (h : MemG w F st TF E sz n xs o wr) (hg : ((wr.alloc o1).drew).grownBy wx o.ownBlock)
    (hown : wx.ownsRow (F + 1) E sz v n' ys) : MemG w F st TF E sz n' ys v wx := by
  refine h.append (wx := wx) (o1 := o1) ⟨hg.os, hg.tape, hg.output, hg.size, hg.block⟩ hown
end

/-- Cells of a list's elements, laid one behind the other. -/
theorem flat_get {α : Type} {c : Nat} {f : α → List Value} (hf : ∀ x, (f x).length = c) (l : List α) : ∀ (i : Nat) (x : α) (j : Nat) (u : Value), l[i]? = some x → (f x)[j]? = some u → (l.flatMap f)[i * c + j]? = some u := by
  induction l with
  | nil => intro i x j u h; simp at h
  | cons y r ih =>
    intro i x j u h hj
    have hjc : j < c := by
      have := (List.getElem?_eq_some_iff.1 hj).1
      rw [hf] at this; exact this
    rw [List.flatMap_cons]
    cases i with
    | zero =>
      simp only [List.getElem?_cons_zero, Option.some.injEq] at h
      subst h
      rw [List.getElem?_append_left (by rw [hf]; omega)]
      simpa using hj
    | succ i =>
      rw [List.getElem?_append_right (by rw [hf, Nat.succ_mul]; omega)]
      have e : (i + 1) * c + j - (f y).length = i * c + j := by rw [hf, Nat.succ_mul]; omega
      rw [e]
      exact ih i x j u (by simpa using h) hj

theorem RowOf.of_owns {α : Type} {c : Nat} {f : α → List Value} {w : World} {B : Nat} {E : TypeId} {v : Value} {l : List α} (hf : ∀ x, (f x).length = c) (h : w.ownsRow B E c v l.length (l.flatMap f)) : RowOf c f w v l := by
  refine ⟨?_⟩
  rcases h.2 with ⟨h1, h2⟩ | ⟨g, cap, cur, h1, h2, h3, h4, h5, h6, h7⟩
  · have : l = [] := List.eq_nil_of_length_eq_zero h2
    subst this
    exact ⟨none, 0, h1, Nat.le_refl _, Nat.zero_le _, fun h => absurd rfl h⟩
  · refine ⟨_, cap, h1, h4, h5, fun _ => ⟨g, 0, rfl, (Array.getElem?_eq_some_iff.1 h3).1, fun i x hi j u hj => ?_⟩⟩
    have hget := flat_get hf l i x j u hi hj
    have hlt : i * c + j < l.length * c := by
      have := (List.getElem?_eq_some_iff.1 hget).1
      rw [h.1] at this; exact this
    rw [Nat.zero_add, cell_of_row w g (i * c + j) cur E (0, 0) h3]
    have e1 : (cur.toList.take (l.length * c))[i * c + j]? = cur.toList[i * c + j]? := by rw [List.getElem?_take]; simp [hlt]
    have e : cur.toList[i * c + j]? = some u := by rw [← e1, h7]; exact hget
    simpa using e

end Go.Proofs.Ytcaadikffaflnaa
