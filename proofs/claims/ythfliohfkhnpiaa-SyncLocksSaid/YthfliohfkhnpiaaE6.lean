/- What becomes of a state where memory is made or written. No program in sight. -/
import Derived.Test.YthfliohfkhnpiaaE5
namespace Go.Proofs.Ythfliohfkhnpiaa
set_option linter.unusedVariables false
set_option linter.unusedSimpArgs false
open Go.RowKit

section
variable {P : Program} {κ : Ctx} {s : St} {a : Act} {w : World}

theorem Rep.blt (h : Rep P κ s a w) {b : Nat} (hb : b ∈ κ.β) : b < w.heap.size := by
  obtain ⟨i, hi⟩ := List.getElem?_of_mem hb
  have hl : i < s.blks.length := by
    rw [← h.blkN]
    exact (List.getElem?_eq_some_iff.1 hi).1
  obtain ⟨xs, T, h1, _⟩ := h.blk i _ b (List.getElem?_eq_getElem hl) hi
  exact (Array.getElem?_eq_some_iff.1 h1).1

theorem owns_lt {w : World} {base : Nat} {E : TypeId} {size : Nat} {v : Value} {n : Nat} {xs : List Value} (h : w.ownsRow base E size v n xs) {g : Nat} (hg : v.ownBlock = some g) : g < w.heap.size ∧ base ≤ g := by
  rcases h.2 with ⟨rfl, _⟩ | ⟨g', cap, cur, rfl, h2, h3, _⟩
  · cases hg
  · simp only [Value.ownBlock, Option.some.injEq] at hg
    subst hg
    exact ⟨(Array.getElem?_eq_some_iff.1 h3).1, h2⟩

theorem RowOk.lt {w : World} {v : Value} {ro : RowA} (h : RowOk w v ro) (hl : 0 < ro.len) {g : Nat} (hg : v.ownBlock = some g) : g < w.heap.size := by
  obtain ⟨a', cap, h1, h2, h3, h4⟩ := h
  obtain ⟨b, off, rfl, h5, _⟩ := h4 hl
  subst h1
  simp only [Value.ownBlock, Option.some.injEq] at hg
  omega

theorem Rep.newBlk (h : Rep P κ s a w) {cs : List CV} {xs : List Value} (T : TypeId) (hd : DenL κ cs xs) :
    Rep P { κ with β := κ.β ++ [w.heap.size] } { s with blks := s.blks ++ [cs] } a (w.alloc (.cells xs.toArray T)) ∧ κ.Le { κ with β := κ.β ++ [w.heap.size] } := by
  have hle : κ.Le { κ with β := κ.β ++ [w.heap.size] } := ⟨rfl, rfl, fun i b hb => by
    show (κ.β ++ [w.heap.size])[i]? = some b
    rw [List.getElem?_append_left (List.getElem?_eq_some_iff.1 hb).1]; exact hb, fun _ _ h => h⟩
  have hnew : w.heap.size ∉ κ.β := fun hm => absurd (h.blt hm) (Nat.lt_irrefl _)
  have hbel : Below w.heap.size w (w.alloc (.cells xs.toArray T)) := (Below.refl _ _).alloc (Nat.le_refl _) _
  have h2 := h.later hbel
  refine ⟨{ size := h.size, defers := h.defers, fr := fun t => AV.Den.mono (CV.Den.le hle) (h.fr t), gts := h.gts, blkN := by simp [h.blkN], blk := ?_, nodup := ?_, big := ?_, rowN := h.rowN, row := ?_, own := ?_, b0lt := h.b0lt, below := h2.below }, hle⟩
  · intro i cs' b h1 h3
    by_cases hi : i < s.blks.length
    · rw [List.getElem?_append_left hi] at h1
      rw [List.getElem?_append_left (by rw [h.blkN]; exact hi)] at h3
      obtain ⟨xs', T', h4, h5⟩ := h2.blk i cs' b h1 h3
      exact ⟨xs', T', h4, h5.mono (CV.Den.le hle)⟩
    · rw [List.getElem?_append_right (by omega)] at h1
      rw [List.getElem?_append_right (by rw [h.blkN]; omega)] at h3
      rw [h.blkN] at h3
      have hz : i - s.blks.length = 0 := by
        have := (List.getElem?_eq_some_iff.1 h1).1
        simp at this; omega
      rw [hz] at h1 h3
      simp at h1 h3
      subst h1 h3
      exact ⟨xs, T, heap_alloc_new w _, hd.mono (CV.Den.le hle)⟩
  · rw [List.nodup_append]
    exact ⟨h.nodup, by simp, fun x hx y hy => by simp at hy; subst hy; intro e; subst e; exact hnew hx⟩
  · intro i b hi hb
    by_cases hl : i < κ.β.length
    · have hb : (κ.β ++ [w.heap.size])[i]? = some b := hb
      rw [List.getElem?_append_left hl] at hb
      exact h.big i b hi hb
    · have hb : (κ.β ++ [w.heap.size])[i]? = some b := hb
      rw [List.getElem?_append_right (by omega)] at hb
      have hz : i - κ.β.length = 0 := by
        have := (List.getElem?_eq_some_iff.1 hb).1
        simp at this; omega
      rw [hz] at hb
      simp at hb
      subst hb
      exact h.below.size
  · intro r ro v h1 h3
    obtain ⟨h4, h5⟩ := h2.row r ro v h1 h3
    refine ⟨h4, fun hl g hg => ?_⟩
    obtain ⟨h6, h7⟩ := h5 hl g hg
    refine ⟨?_, h7⟩
    simp only [List.mem_append, List.mem_singleton, not_or]
    refine ⟨h6, ?_⟩
    have := (h.row r ro v h1 h3).1.lt hl hg
    omega
  · intro r ro v E h1 h3 h4
    obtain ⟨⟨ys, h5, h6⟩, h7⟩ := h2.own r ro v E h1 h3 h4
    refine ⟨⟨ys, h5.mono (CV.Den.le hle), h6⟩, fun g hg => ?_⟩
    obtain ⟨h8, h9⟩ := h7 g hg
    refine ⟨?_, h9⟩
    simp only [List.mem_append, List.mem_singleton, not_or]
    refine ⟨h8, ?_⟩
    obtain ⟨⟨zs, _, hz⟩, _⟩ := h.own r ro v E h1 h3 h4
    have := (owns_lt hz hg).1
    omega

theorem ownsRow_other {w w' : World} {base : Nat} {E : TypeId} {size : Nat} {v : Value} {n : Nat} {xs : List Value} (h : w.ownsRow base E size v n xs) (hk : ∀ g, v.ownBlock = some g → w'.heap[g]? = w.heap[g]?) : w'.ownsRow base E size v n xs := by
  refine ⟨h.1, ?_⟩
  rcases h.2 with hn | ⟨g, cap, cur, rfl, hb, hgg, rest⟩
  · exact .inl hn
  · exact .inr ⟨g, cap, cur, rfl, hb, (hk g rfl).trans hgg, rest⟩

theorem RowOk.other {w w' : World} {v : Value} {ro : RowA} (h : RowOk w v ro) (hs : w.heap.size ≤ w'.heap.size) (hk : 0 < ro.len → ∀ g, v.ownBlock = some g → w'.heap[g]? = w.heap[g]?) : RowOk w' v ro := by
  obtain ⟨a', cap, h1, h2, h3, h4⟩ := h
  refine ⟨a', cap, h1, h2, h3, fun hl => ?_⟩
  obtain ⟨b, off, rfl, h5, h6⟩ := h4 hl
  refine ⟨b, off, rfl, Nat.lt_of_lt_of_le h5 hs, fun i hi j c hc => ?_⟩
  obtain ⟨x, h7, h8⟩ := h6 i hi j c hc
  refine ⟨x, ?_, h8⟩
  rw [← h7]
  exact World.cell?_of_block (w := w) (hk hl b (by rw [h1]; rfl))

/-- A store into an own block. -/
theorem Rep.setBlk (h : Rep P κ s a w) {i b : Nat} {cs' : List CV} {xs' : List Value} {T : TypeId} {w' : World} (hro : s.ro ≤ i) (hi : i < s.blks.length) (hb : κ.β[i]? = some b) (hd : DenL κ cs' xs') (hw : w'.heap[b]? = some (.cells xs'.toArray T (0, 0)))
    (ho : ∀ k, k ≠ b → w'.heap[k]? = w.heap[k]?) (hs : w'.heap.size = w.heap.size) (hos : w'.os = w.os) (ht : w'.tape = w.tape) (hout : w'.output = w.output) :
    Rep P κ { s with blks := s.blks.set i cs' } a w' := by
  have hbm : b ∈ κ.β := List.mem_of_getElem? hb
  refine { h with blkN := by simp [h.blkN], blk := ?_, row := ?_, own := ?_, below := ?_ }
  · intro j cs c h1 h3
    rw [List.getElem?_set] at h1
    by_cases e : i = j
    · subst e
      rw [if_pos rfl, if_pos hi] at h1
      simp only [Option.some.injEq] at h1
      rw [hb] at h3
      simp only [Option.some.injEq] at h3
      subst h1 h3
      exact ⟨xs', T, hw, hd⟩
    · rw [if_neg e] at h1
      obtain ⟨xs, T', h4, h5⟩ := h.blk j cs c h1 h3
      refine ⟨xs, T', ?_, h5⟩
      rw [ho c]
      · exact h4
      · intro e2
        subst e2
        have := (List.getElem?_inj (List.getElem?_eq_some_iff.1 hb).1 h.nodup).1 (hb.trans h3.symm)
        exact e this
  · intro r ro v h1 h3
    obtain ⟨h4, h5⟩ := h.row r ro v h1 h3
    exact ⟨h4.other (by omega) (fun hl g hg => ho g (fun e => (h5 hl g hg).1 (e ▸ hbm))), h5⟩
  · intro r ro v E h1 h3 h4
    obtain ⟨⟨ys, h5, h6⟩, h7⟩ := h.own r ro v E h1 h3 h4
    exact ⟨⟨ys, h5, ownsRow_other h6 (fun g hg => ho g (fun e => (h7 g hg).1 (e ▸ hbm)))⟩, h7⟩
  · have := h.big i b hro hb
    exact ⟨hos.trans h.below.os, ht.trans h.below.tape, hout.trans h.below.output, by rw [hs]; exact h.below.size, fun k hk => (ho k (by omega)).trans (h.below.block k hk)⟩

/-- A row more. -/
theorem Rep.addRow (h : Rep P κ s a w) {v : Value} {ro : RowA} {own : Option TypeId} (hr : RowOk w v ro) (hf : 0 < ro.len → ∀ g, v.ownBlock = some g → g ∉ κ.β ∧ (κ.W0.heap.size ≤ g ∨ g ∈ κ.B0))
    (hown : ∀ E, own = some E → (∃ xs, DenL κ ro.flat xs ∧ w.ownsRow κ.W0.heap.size E ro.width v ro.len xs) ∧ ∀ g, v.ownBlock = some g → g ∉ κ.β ∧ ∀ (r' : Nat) (ro' : RowS) (v' : Value), s.rows[r']? = some ro' → κ.ρ[r']? = some v' → (0 < ro'.ro.len ∨ ro'.own ≠ none) → v'.ownBlock ≠ some g)
    (hoth : ∀ (r' : Nat) (ro' : RowS) (v' : Value) (g : Nat), s.rows[r']? = some ro' → κ.ρ[r']? = some v' → ro'.own ≠ none → v'.ownBlock = some g → (0 < ro.len ∨ own ≠ none) → v.ownBlock ≠ some g) :
    Rep P (κ.with [v]) { s with rows := s.rows ++ [⟨ro, own⟩] } a w ∧ κ.Le (κ.with [v]) := by
  have hle : κ.Le (κ.with [v]) := ⟨rfl, rfl, fun _ _ h => h, fun i u hu => by
    show (κ.ρ ++ [v])[i]? = some u
    rw [List.getElem?_append_left (List.getElem?_eq_some_iff.1 hu).1]; exact hu⟩
  have hcase : ∀ (r : Nat) (ro' : RowS) (v' : Value), (s.rows ++ [⟨ro, own⟩])[r]? = some ro' → (κ.ρ ++ [v])[r]? = some v' → (s.rows[r]? = some ro' ∧ κ.ρ[r]? = some v') ∨ (r = s.rows.length ∧ ro' = ⟨ro, own⟩ ∧ v' = v) := by
    intro r ro' v' h1 h2
    by_cases hi : r < s.rows.length
    · rw [List.getElem?_append_left hi] at h1
      rw [List.getElem?_append_left (by rw [h.rowN]; exact hi)] at h2
      exact .inl ⟨h1, h2⟩
    · rw [List.getElem?_append_right (by omega)] at h1
      rw [List.getElem?_append_right (by rw [h.rowN]; omega), h.rowN] at h2
      have hz : r - s.rows.length = 0 := by
        have := (List.getElem?_eq_some_iff.1 h1).1
        simp at this; omega
      rw [hz] at h1 h2
      simp at h1 h2
      exact .inr ⟨by omega, h1.symm, h2.symm⟩
  refine ⟨{ h with fr := fun t => AV.Den.mono (CV.Den.le hle) (h.fr t), blk := ?_, rowN := by simp [Ctx.with, h.rowN], row := ?_, own := ?_ }, hle⟩
  · intro i cs b h1 h3
    obtain ⟨xs, T, h4, h5⟩ := h.blk i cs b h1 h3
    exact ⟨xs, T, h4, h5.mono (CV.Den.le hle)⟩
  · intro r ro' v' h1 h2
    rcases hcase r ro' v' h1 h2 with ⟨h3, h4⟩ | ⟨rfl, rfl, rfl⟩
    · exact h.row r ro' v' h3 h4
    · exact ⟨hr, hf⟩
  · intro r ro' v' E h1 h2 h3
    rcases hcase r ro' v' h1 h2 with ⟨h4, h5⟩ | ⟨rfl, rfl, rfl⟩
    · obtain ⟨⟨ys, h6, h7⟩, h8⟩ := h.own r ro' v' E h4 h5 h3
      refine ⟨⟨ys, h6.mono (CV.Den.le hle), h7⟩, fun g hg => ⟨(h8 g hg).1, fun r'' ro'' v'' hne h9 h10 h11 => ?_⟩⟩
      rcases hcase r'' ro'' v'' h9 h10 with ⟨h12, h13⟩ | ⟨rfl, rfl, rfl⟩
      · exact (h8 g hg).2 r'' ro'' v'' hne h12 h13 h11
      · exact hoth r ro' v' g h4 h5 (by rw [h3]; simp) hg h11
    · obtain ⟨⟨ys, h6, h7⟩, h8⟩ := hown E h3
      refine ⟨⟨ys, h6.mono (CV.Den.le hle), h7⟩, fun g hg => ⟨(h8 g hg).1, fun r'' ro'' v'' hne h9 h10 h11 => ?_⟩⟩
      rcases hcase r'' ro'' v'' h9 h10 with ⟨h12, h13⟩ | ⟨rfl, rfl, rfl⟩
      · exact (h8 g hg).2 r'' ro'' v'' h12 h13 h11
      · exact absurd rfl hne

def memN (n : Nat) : List Nat → Bool
  | [] => false
  | m :: r => Nat.beq n m || memN n r
theorem memN_iff {n : Nat} : ∀ {l : List Nat}, memN n l = true ↔ n ∈ l
  | [] => by simp [memN]
  | m :: r => by simp [memN, memN_iff (l := r)]
/-- Rows that are no longer the call's own. -/
def demote (ms : List Nat) : Nat → List RowS → List RowS
  | _, [] => []
  | k, ro :: r => (bif memN k ms then ⟨ro.ro, none⟩ else ro) :: demote ms (k + 1) r
theorem demote_get (ms : List Nat) : ∀ (l : List RowS) (k r : Nat), (demote ms k l)[r]? = (l[r]?).map (fun ro => bif memN (k + r) ms then ⟨ro.ro, none⟩ else ro)
  | [], _, _ => by simp [demote]
  | ro :: l, k, 0 => by simp [demote]
  | ro :: l, k, r + 1 => by
    rw [demote, List.getElem?_cons_succ, demote_get ms l (k + 1) r, List.getElem?_cons_succ, show k + 1 + r = k + (r + 1) by omega]
theorem demote_length (ms : List Nat) : ∀ (l : List RowS) (k : Nat), (demote ms k l).length = l.length
  | [], _ => rfl
  | ro :: l, k => by simp [demote, demote_length ms l]
theorem demote_of {ms : List Nat} {l : List RowS} {r : Nat} {ro : RowS} (h : (demote ms 0 l)[r]? = some ro) : ∃ ro0, l[r]? = some ro0 ∧ ro.ro = ro0.ro ∧ (ro.own ≠ none → ro.own = ro0.own ∧ r ∉ ms) := by
  rw [demote_get, Option.map_eq_some_iff] at h
  obtain ⟨ro0, h1, h2⟩ := h
  rw [Nat.zero_add] at h2
  cases hm : memN r ms with
  | true => rw [hm] at h2; subst h2; exact ⟨ro0, h1, rfl, fun h => absurd rfl h⟩
  | false => rw [hm] at h2; subst h2; exact ⟨ro0, h1, rfl, fun _ => ⟨rfl, fun hm2 => by rw [memN_iff.2 hm2] at hm; cases hm⟩⟩
theorem Rep.demote (h : Rep P κ s a w) (ms : List Nat) : Rep P κ { s with rows := demote ms 0 s.rows } a w := by
  refine { h with rowN := by simp [demote_length, h.rowN], row := ?_, own := ?_ }
  · intro r ro v h1 h2
    obtain ⟨ro0, h3, h4, _⟩ := demote_of h1
    rw [h4]
    exact h.row r ro0 v h3 h2
  · intro r ro v E h1 h2 h3
    obtain ⟨ro0, h4, h5, h6⟩ := demote_of h1
    obtain ⟨h7, _⟩ := h6 (by rw [h3]; simp)
    obtain ⟨h8, h9⟩ := h.own r ro0 v E h4 h2 (by rw [← h7]; exact h3)
    rw [h5]
    refine ⟨h8, fun g hg => ⟨(h9 g hg).1, fun r' ro' v' hne h10 h11 h12 => ?_⟩⟩
    obtain ⟨ro0', h13, h14, h15⟩ := demote_of h10
    refine (h9 g hg).2 r' ro0' v' hne h13 h11 ?_
    rcases h12 with h12 | h12
    · exact .inl (by rw [← h14]; exact h12)
    · exact .inr (by rw [← (h15 h12).1]; exact h12)

end
end Go.Proofs.Ythfliohfkhnpiaa
