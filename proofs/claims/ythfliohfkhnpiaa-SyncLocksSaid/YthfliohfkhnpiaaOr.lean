/- Slices that came in, opened: of integers of any kind, and of structs of integers and booleans. No program in sight. -/
import Derived.Test.YthfliohfkhnpiaaLw
import Derived.Deep.Slices
namespace Go.Proofs.Ythfliohfkhnpiaa
set_option linter.unusedVariables false
set_option linter.unusedSimpArgs false
open Go.ChangeShapes Go.WideShapes Go.ChangeAt Go.RowKit Go.Deep

def wfRow : List CK → List Int → Bool
  | [], [] => true
  | .int k :: r, x :: xs => wfI k x && wfRow r xs
  | .bool :: r, x :: xs => (decide (x = 0) || decide (x = 1)) && wfRow r xs
  | _, _ => false
def wfR (ks : List CK) (l : List (List Int)) : Bool := l.all (wfRow ks)

theorem slice_open {H : Type} {enc : TypeId × Value → H} {P : Program} {W : World} {t e : TypeId} {n : Nat} {cs : List Value} {x : DataW H × List MemPlace} {α : Type} [Inhabited α] (dec : α → List CV) (ok : α → Prop) (ht : P.underlying t = some (.slice e))
    (hdec : ∀ (n : Nat) (cs : List Value) (y : DataW H × List MemPlace), DataW.trod enc P W 0 (fun _ => true) true n e cs = some y → ∃ x : α, ok x ∧ ∀ (j : Nat) (c : CV), (dec x)[j]? = some c → ∃ v, cs[j]? = some v ∧ ∀ κ, c.Den κ v)
    (hp : 0 < P.cellsOf e) (hf : DataW.trod enc P W 0 (fun _ => true) true n t cs = some x) :
    ∃ (v : Value) (l : List α), cs = [v] ∧ (∀ x ∈ l, ok x) ∧ ∃ (a : Option Addr) (cap : Nat), v = .slice a l.length cap ∧ l.length ≤ cap ∧ cap ≤ maxLen ∧
      (0 < l.length → ∃ b off, a = some ⟨b, off, none⟩ ∧ b < W.heap.size ∧ ∀ i, i < l.length → ∀ j c, (dec (l.getD i default))[j]? = some c → ∃ x, W.cell? ⟨b, off + i * P.cellsOf e + j, none⟩ = some x ∧ ∀ κ, c.Den κ x) := by
  rcases open_slice ht hf with ⟨hcs, _⟩ | ⟨a, len, cap, m, n', D, Pl, hcs, _, hl, hm, hmm, _, hx⟩
  · exact ⟨_, [], hcs, fun x h => (by cases h), none, 0, rfl, Nat.le_refl _, Nat.zero_le _, fun h => by simp at h⟩
  · simp only [if_true] at hmm
    subst hmm
    obtain ⟨f, hf⟩ := choose_lt (α := α) (p := fun i (x : α) => ok x ∧ ∃ cs', W.cells? 0 (a.add (i * P.cellsOf e)) (P.cellsOf e) = some cs' ∧ ∀ (j : Nat) (c : CV), (dec x)[j]? = some c → ∃ v, cs'[j]? = some v ∧ ∀ κ, c.Den κ v) (n := m) (fun i hi => by
      obtain ⟨cs', h1, h2⟩ := hx i hi
      obtain ⟨x, h3, h4⟩ := hdec _ _ _ h2
      exact ⟨x, h3, cs', h1, h4⟩)
    have hlen : ((List.range len).map f).length = len := by simp
    refine ⟨_, (List.range len).map f, hcs, fun x hx => ?_, some a, m, by rw [hlen], by rw [hlen]; exact hl, hm, fun h0 => ?_⟩
    · obtain ⟨i, hi, rfl⟩ := List.mem_map.1 hx
      exact (hf i (by have := List.mem_range.1 hi; omega)).1
    · rw [hlen] at h0
      obtain ⟨b, off, spot⟩ := a
      have hcell : ∀ i, i < m → ∀ k, k < P.cellsOf e → ∃ cs' : List Value, W.cells? 0 ((⟨b, off, spot⟩ : Addr).add (i * P.cellsOf e)) (P.cellsOf e) = some cs' ∧ W.cell? (((⟨b, off, spot⟩ : Addr).add (i * P.cellsOf e)).add k) = cs'[k]? := fun i hi k hk => by
        obtain ⟨_, cs', h1, _⟩ := hf i hi
        exact ⟨cs', h1, (World.cells?_some h1).2.2 k hk⟩
      have hspot : spot = none ∧ b < W.heap.size := by
        obtain ⟨cs', h1, h2⟩ := hcell 0 (by omega) 0 hp
        obtain ⟨_, h3, _⟩ := World.cells?_some h1
        rw [List.getElem?_eq_getElem (by omega)] at h2
        rw [Nat.zero_mul] at h2
        have e1 : ((⟨b, off, spot⟩ : Addr).add 0).add 0 = ⟨b, off, spot⟩ := by
          unfold Addr.add; cases spot <;> simp_all
        rw [e1] at h2
        have hs : spot = none := by simpa using World.cell?_spot h2
        subst hs
        exact ⟨rfl, World.block_lt_of_cell? _ _ h2⟩
      obtain ⟨rfl, hb⟩ := hspot
      refine ⟨b, off, rfl, hb, fun i hi j c hc => ?_⟩
      rw [hlen] at hi
      obtain ⟨_, cs', h1, h2⟩ := hf i (by omega)
      have e2 : ((List.range len).map f).getD i default = f i := by simp [List.getD_eq_getElem?_getD, hi]
      rw [e2] at hc
      obtain ⟨v, h3, h4⟩ := h2 j c hc
      refine ⟨v, ?_, h4⟩
      obtain ⟨_, h5, h6⟩ := World.cells?_some h1
      have hj : j < P.cellsOf e := by rw [← h5]; exact (List.getElem?_eq_some_iff.1 h3).1
      have h7 := h6 j hj
      have addn : ∀ (o k : Nat), (⟨b, o, none⟩ : Addr).add k = ⟨b, o + k, none⟩ := by intro o k; unfold Addr.add; split <;> simp_all
      have e3 : ((⟨b, off, none⟩ : Addr).add (i * P.cellsOf e)).add j = ⟨b, off + i * P.cellsOf e + j, none⟩ := by rw [addn, addn]
      rw [e3] at h7
      rw [h7]; exact h3

theorem ints_open_cs {k : IntKind} {H : Type} {enc : TypeId × Value → H} {P : Program} {W : World} {t e : TypeId} {n : Nat} {cs : List Value} {x : DataW H × List MemPlace} (ht : P.underlying t = some (.slice e)) (he : P.underlying e = some (.int k)) (hc : P.cellsOf e = 1)
    (hf : DataW.trod enc P W 0 (fun _ => true) true n t cs = some x) : ∃ v l, cs = [v] ∧ (RowOk W v (.ints k l) ∧ wfL k l = true) := by
  obtain ⟨v, l, h1, h2, a, cap, h3, h4, h5, h6⟩ := slice_open (α := Int) (fun x => [CV.int k x]) (fun x => wfI k x = true) ht (fun n cs y hy => by
    obtain ⟨m, rfl, _, hw⟩ := DataW.trod_int he hy
    refine ⟨m, hw, fun j c hj => ?_⟩
    cases j with
    | zero => simp at hj; subst hj; exact ⟨_, rfl, fun κ => rfl⟩
    | succ j => simp at hj) (by omega) hf
  refine ⟨v, l, h1, ⟨a, cap, h3, h4, h5, fun hl => ?_⟩, List.all_eq_true.2 h2⟩
  obtain ⟨b, off, h7, h8, h9⟩ := h6 hl
  refine ⟨b, off, h7, h8, fun i hi j c hj => ?_⟩
  have := h9 i hi j c hj
  rw [hc] at this
  exact this

def fieldsOk (P : Program) : Nat → List Field → List CK → Bool
  | _, [], [] => true
  | o, f :: r, k :: ks => Nat.beq f.offset o && Nat.beq (P.cellsOf f.type) 1 && (match P.underlying f.type, k with
    | some (.int k'), .int k => k' == k
    | some .bool, .bool => true
    | _, _ => false) && fieldsOk P (o + 1) r ks
  | _, _, _ => false
theorem fields_dec {H : Type} {enc : TypeId × Value → H} {P : Program} {W : World} {n : Nat} {cs : List Value} : ∀ (fs : List Field) (ks : List CK) (o : Nat), fieldsOk P o fs ks = true →
    (∀ (i : Nat) (f : Field), fs[i]? = some f → ∃ y, DataW.trod enc P W 0 (fun _ => true) true n f.type ((cs.drop f.offset).take (P.cellsOf f.type)) = some y) →
    ∃ x : List Int, wfRow ks x = true ∧ ∀ (p : List Int) (j : Nat) (c : CV), (encR ks (p ++ x) p.length)[j]? = some c → ∃ v, cs[o + j]? = some v ∧ ∀ κ, c.Den κ v
  | [], [], o, _, _ => ⟨[], rfl, fun p j c h => by simp [encR] at h⟩
  | [], _ :: _, _, h, _ => by cases h
  | _ :: _, [], _, h, _ => by cases h
  | f :: r, k :: ks, o, h, hx => by
    simp only [fieldsOk, Bool.and_eq_true, Nat.beq_eq] at h
    obtain ⟨⟨⟨h1, h2⟩, h3⟩, h4⟩ := h
    obtain ⟨x, h5, h6⟩ := fields_dec r ks (o + 1) h4 (fun i f hi => hx (i + 1) f (by simpa using hi))
    obtain ⟨y, hy⟩ := hx 0 f rfl
    rw [h1, h2] at hy
    have hd : ∀ v : Value, (cs.drop o).take 1 = [v] → cs[o]? = some v := fun v hv => by
      have : ((cs.drop o).take 1)[0]? = some v := by rw [hv]; rfl
      simpa [List.getElem?_take, List.getElem?_drop] using this
    split at h3
    · rename_i k' k2 hu
      have e : k' = k2 := by simpa using h3
      subst e
      obtain ⟨m, hm, _, hw⟩ := DataW.trod_int hu hy
      refine ⟨m :: x, by simp only [wfRow, Bool.and_eq_true]; exact ⟨hw, h5⟩, fun p j c hj => ?_⟩
      cases j with
      | zero =>
        simp [encR] at hj
        subst hj
        exact ⟨_, hd _ hm, fun κ => rfl⟩
      | succ j =>
        simp only [encR, List.getElem?_cons_succ] at hj
        have e2 : p ++ m :: x = (p ++ [m]) ++ x := by simp
        have e3 : p.length + 1 = (p ++ [m]).length := by simp
        rw [e2, e3] at hj
        have := h6 (p ++ [m]) j c hj
        rwa [show o + 1 + j = o + (j + 1) by omega] at this
    · rename_i hu
      obtain ⟨b, hm, _⟩ := DataW.trod_bool hu hy
      refine ⟨(if b then 1 else 0) :: x, by simp only [wfRow, Bool.and_eq_true]; exact ⟨by cases b <;> simp, h5⟩, fun p j c hj => ?_⟩
      cases j with
      | zero =>
        simp [encR] at hj
        subst hj
        refine ⟨_, hd _ hm, fun κ => ?_⟩
        cases b <;> rfl
      | succ j =>
        simp only [encR, List.getElem?_cons_succ] at hj
        have e2 : p ++ (if b = true then (1 : Int) else 0) :: x = (p ++ [if b = true then (1 : Int) else 0]) ++ x := by simp
        have e3 : p.length + 1 = (p ++ [if b = true then (1 : Int) else 0]).length := by simp
        rw [e2, e3] at hj
        have := h6 (p ++ [if b = true then (1 : Int) else 0]) j c hj
        rwa [show o + 1 + j = o + (j + 1) by omega] at this
    · cases h3

theorem recs_open_cs {H : Type} {enc : TypeId × Value → H} {P : Program} {W : World} {t e : TypeId} {fs : Array Field} {n : Nat} {cs : List Value} {x : DataW H × List MemPlace} (ks : List CK) (ht : P.underlying t = some (.slice e)) (he : P.underlying e = some (.struct fs)) (hk : fieldsOk P 0 fs.toList ks = true) (hc : P.cellsOf e = ks.length) (hp : 0 < ks.length)
    (hf : DataW.trod enc P W 0 (fun _ => true) true n t cs = some x) : ∃ v l, cs = [v] ∧ (RowOk W v (.recs ks l) ∧ wfR ks l = true) := by
  obtain ⟨v, l, h1, h2, a, cap, h3, h4, h5, h6⟩ := slice_open (α := List Int) (fun x => encR ks x 0) (fun x => wfRow ks x = true) ht (fun n cs y hy => by
    obtain ⟨xs, m, _, _, hl, hlen, hf⟩ := DataW.trod_struct he hy
    obtain ⟨x, k1, k2⟩ := fields_dec (enc := enc) (W := W) (n := m) (cs := cs) fs.toList ks 0 hk (fun i f hi => by
      have hi : fs[i]? = some f := by simpa using hi
      have h1 := hf i f hi
      have hlt : i < xs.length := by
        have := (Array.getElem?_eq_some_iff.1 hi).1
        omega
      rw [List.getElem?_eq_getElem hlt] at h1
      exact ⟨_, h1⟩)
    refine ⟨x, k1, fun j c hj => ?_⟩
    have := k2 [] j c (by simpa using hj)
    simpa using this) (by omega) hf
  refine ⟨v, l, h1, ⟨a, cap, h3, h4, h5, fun hl => ?_⟩, List.all_eq_true.2 h2⟩
  obtain ⟨b, off, h7, h8, h9⟩ := h6 hl
  refine ⟨b, off, h7, h8, fun i hi j c hj => ?_⟩
  have := h9 i hi j c hj
  rw [hc] at this
  exact this

theorem ints_open {k : IntKind} {H : Type} {enc : TypeId × Value → H} {P : Program} {W : World} {t e : TypeId} {v : Value} {d : DataW H} {p : List MemPlace} (ht : P.underlying t = some (.slice e)) (he : P.underlying e = some (.int k)) (hc : P.cellsOf e = 1)
    (hv : ∃ a len cap, v = .slice a len cap) (h : DataW.Trod enc P W 0 (fun _ => true) true t v d p) : ∃ l, RowOk W v (.ints k l) ∧ wfL k l = true := by
  obtain ⟨a0, len0, cap0, rfl⟩ := hv
  obtain ⟨fuel, hf⟩ := h
  obtain ⟨v, l, hcs, hr⟩ := ints_open_cs ht he hc hf
  simp only [Value.cells, List.cons.injEq, and_true] at hcs
  subst hcs
  exact ⟨l, hr⟩
theorem recs_open {H : Type} {enc : TypeId × Value → H} {P : Program} {W : World} {t e : TypeId} {fs : Array Field} {v : Value} {d : DataW H} {p : List MemPlace} (ks : List CK) (ht : P.underlying t = some (.slice e)) (he : P.underlying e = some (.struct fs)) (hk : fieldsOk P 0 fs.toList ks = true) (hc : P.cellsOf e = ks.length) (hp : 0 < ks.length)
    (hv : ∃ a len cap, v = .slice a len cap) (h : DataW.Trod enc P W 0 (fun _ => true) true t v d p) : ∃ l, RowOk W v (.recs ks l) ∧ wfR ks l = true := by
  obtain ⟨a0, len0, cap0, rfl⟩ := hv
  obtain ⟨fuel, hf⟩ := h
  obtain ⟨v, l, hcs, hr⟩ := recs_open_cs ks ht he hk hc hp hf
  simp only [Value.cells, List.cons.injEq, and_true] at hcs
  subst hcs
  exact ⟨l, hr⟩

end Go.Proofs.Ythfliohfkhnpiaa
