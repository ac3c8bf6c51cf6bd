/- Slices of int as lists; the lists of layer 19: no walk in sight. -/
import Derived.Test.YtnpoofddnmodoaaW2
namespace Go.Proofs.Ytnpoofddnmodoaa
open Go.RowKit Go.Sort

/-- The value v is a slice that reads as the list l in the world w. -/
structure Row (w : World) (v : Value) (l : List Int) : Prop where
  ex : ∃ (a : Option Addr) (cap : Nat), v = .slice a l.length cap ∧ l.length ≤ cap ∧ cap ≤ maxLen ∧ (l ≠ [] → ∃ b off, a = some ⟨b, off, none⟩ ∧ b < w.heap.size ∧ ∀ i, i < l.length → w.cell? ⟨b, off + i, none⟩ = some (.int .i64 (l.getD i 0)))
  wf : ∀ n ∈ l, (Lit.int .i64 n).wf = true

theorem Row.below {w w' : World} {v : Value} {l : List Int} (h : Row w v l) (hb : Below w.heap.size w w') : Row w' v l := by
  obtain ⟨⟨a, cap, h1, h2, h3, h4⟩, hw⟩ := h
  refine ⟨⟨a, cap, h1, h2, h3, fun hl => ?_⟩, hw⟩
  obtain ⟨b, off, h5, h6, h7⟩ := h4 hl
  exact ⟨b, off, h5, Nat.lt_of_lt_of_le h6 hb.size, fun i hi => (hb.cell h6).trans (h7 i hi)⟩

theorem Row.nil (w : World) : Row w (.slice none 0 0) [] := ⟨⟨none, 0, rfl, Nat.le_refl _, Nat.zero_le _, fun h => absurd rfl h⟩, by simp⟩

theorem Row.of_owns {w : World} {B : Nat} {E : TypeId} {v : Value} {l : List Int} (h : w.ownsRow B E 1 v l.length (l.map (Value.int .i64))) (hw : ∀ n ∈ l, (Lit.int .i64 n).wf = true) : Row w v l := by
  refine ⟨?_, hw⟩
  rcases h.2 with ⟨h1, h2⟩ | ⟨g, cap, cur, h1, h2, h3, h4, h5, h6, h7⟩
  · have : l = [] := List.eq_nil_of_length_eq_zero h2
    subst this
    exact ⟨none, 0, h1, Nat.le_refl _, Nat.zero_le _, fun h => absurd rfl h⟩
  · refine ⟨_, cap, h1, h4, h5, fun _ => ⟨g, 0, rfl, ?_, fun i hi => ?_⟩⟩
    · exact (Array.getElem?_eq_some_iff.1 h3).1
    · rw [Nat.zero_add, cell_of_row w g i cur E (0, 0) h3]
      have e : cur.toList[i]? = some (Value.int .i64 (l.getD i 0)) := by
        have e1 : (cur.toList.take (l.length * 1))[i]? = cur.toList[i]? := by rw [List.getElem?_take]; simp [hi]
        rw [← e1, h7]; simp [List.getElem?_eq_getElem hi]
      simpa using e

def edgeAt (l : List Int) (j : Nat) : Bool := isTime (l.getD j 0) && (decide (j = 0) || decide (l.getD (j - 1) 0 < l.getD j 0))
def edgesB (l : List Int) : Bool := decide (l.length ≤ 1000) && (List.range l.length).all (edgeAt l)
def OkUpto (l : List Int) (k : Nat) : Prop := ∀ j, j < k → edgeAt l j = true
theorem OkUpto.zero (l : List Int) : OkUpto l 0 := fun _ h => absurd h (Nat.not_lt_zero _)
theorem OkUpto.succ {l : List Int} {k : Nat} (h : OkUpto l k) (hk : edgeAt l k = true) : OkUpto l (k + 1) := fun j hj => by
  by_cases e : j = k
  · subst e; exact hk
  · exact h j (by omega)
theorem edgesB_iff (l : List Int) : edgesB l = true ↔ l.length ≤ 1000 ∧ OkUpto l l.length := by
  simp [edgesB, OkUpto]
theorem edgesB_false_of (l : List Int) (k : Nat) (hk : k < l.length) (h : edgeAt l k = false) : edgesB l = false := by
  rw [Bool.eq_false_iff]; intro he
  have := ((edgesB_iff l).1 he).2 k hk
  simp [h] at this
theorem edge_time {l : List Int} {k : Nat} (h : edgeAt l k = true) : 0 ≤ l.getD k 0 ∧ l.getD k 0 ≤ 1099511627776 := by
  simp only [edgeAt, isTime, Bool.and_eq_true, decide_eq_true_eq] at h; exact h.1
theorem edge_lt {l : List Int} {k : Nat} (h : edgeAt l (k + 1) = true) : l.getD k 0 < l.getD (k + 1) 0 := by
  simp only [edgeAt, Bool.and_eq_true, Bool.or_eq_true, decide_eq_true_eq] at h
  have := h.2; simpa using this

/-- The accepted edges of a list from a state on. -/
def runF (sn : Bool) (la pe : Int) : List Int → List Int
  | [] => []
  | t :: r => if (stepR sn la pe t).ok then t :: runF (stepR sn la pe t).sn (stepR sn la pe t).la (stepR sn la pe t).pe r else runF sn la pe r
def runL (l : List Int) : List Int := runF false 0 0 l

theorem drop_cons (l : List Int) (k : Nat) (h : k < l.length) : l.drop k = l.getD k 0 :: l.drop (k + 1) := by
  rw [List.drop_eq_getElem_cons h]; simp [List.getElem?_eq_getElem h]

/-- The loop of Run: behind k edges the state and what has been accepted. -/
structure Rel (l : List Int) (k : Nat) (sn : Bool) (la pe : Int) (xs : List Int) : Prop where
  vd : vld sn la pe = true
  bef : sn = true → ∃ j, j < k ∧ la = l.getD j 0
  all : xs ++ runF sn la pe (l.drop k) = runL l
  len : xs.length ≤ k
  sub : ∀ n ∈ xs, n ∈ l

theorem Rel.start (l : List Int) : Rel l 0 false 0 0 [] := ⟨by decide, fun h => (by cases h), by simp [runL], by simp, by simp⟩

theorem mono_lt {l : List Int} {n : Nat} (h : OkUpto l n) : ∀ k, k < n → ∀ j, j < k → l.getD j 0 < l.getD k 0 := by
  intro k
  induction k with
  | zero => intro _ j hj; omega
  | succ k ih =>
    intro hk j hj
    have h1 := edge_lt (h (k + 1) hk)
    by_cases e : j = k
    · subst e; exact h1
    · have := ih (by omega) j (by omega); omega

theorem stepR_err {l : List Int} {k : Nat} {sn : Bool} {la pe : Int} {xs : List Int} (h : Rel l k sn la pe xs) (hk : k < l.length) (hok : OkUpto l l.length) :
    (stepR sn la pe (l.getD k 0)).er = 0 ∧ ((stepR sn la pe (l.getD k 0)).ok = false → (stepR sn la pe (l.getD k 0)).sn = sn ∧ (stepR sn la pe (l.getD k 0)).la = la ∧ (stepR sn la pe (l.getD k 0)).pe = pe) ∧
    ((stepR sn la pe (l.getD k 0)).ok = true → vld (stepR sn la pe (l.getD k 0)).sn (stepR sn la pe (l.getD k 0)).la (stepR sn la pe (l.getD k 0)).pe = true ∧ (stepR sn la pe (l.getD k 0)).la = l.getD k 0) := by
  have ht : isTime (l.getD k 0) = true := by have := edge_time (hok k hk); simp [isTime]; exact ⟨by simpa using this.1, by simpa using this.2⟩
  have ht2 := edge_time (hok k hk)
  have hle : sn = true → la ≤ l.getD k 0 := fun hs => by
    obtain ⟨j, hj, rfl⟩ := h.bef hs
    exact Int.le_of_lt (mono_lt hok k hk j hj)
  have hv := h.vd
  have hb := hv
  simp only [vld, decide_eq_true_eq] at hb
  generalize l.getD k 0 = t at *
  unfold stepR
  rw [if_neg (by simp [hv]), if_neg (by simp [ht])]
  by_cases hs : sn = true
  · rw [if_pos hs, if_neg (by have := hle hs; omega)]
    by_cases hk2 : t - la < blk sn la pe
    · rw [if_pos hk2]; simp
    · rw [if_neg hk2]; simp [vld]; have := hle hs; omega
  · rw [if_neg hs]; simp [vld]; omega

theorem Rel.take {l : List Int} {k : Nat} {sn : Bool} {la pe : Int} {xs : List Int} (h : Rel l k sn la pe xs) (hk : k < l.length) (hok : OkUpto l l.length) (ha : (stepR sn la pe (l.getD k 0)).ok = true) :
    Rel l (k + 1) (stepR sn la pe (l.getD k 0)).sn (stepR sn la pe (l.getD k 0)).la (stepR sn la pe (l.getD k 0)).pe (xs ++ [l.getD k 0]) := by
  obtain ⟨h1, _, h3⟩ := stepR_err h hk hok
  obtain ⟨h3, h4⟩ := h3 ha
  refine ⟨h3, fun _ => ⟨k, by omega, h4⟩, ?_, by have := h.len; simp; omega, ?_⟩
  · rw [← h.all, drop_cons l k hk, runF, if_pos ha]; simp
  · intro n hn
    rcases List.mem_append.1 hn with h5 | h5
    · exact h.sub n h5
    · simp only [List.mem_singleton] at h5; subst h5; simp [List.getElem?_eq_getElem hk]

theorem Rel.skip {l : List Int} {k : Nat} {sn : Bool} {la pe : Int} {xs : List Int} (h : Rel l k sn la pe xs) (hk : k < l.length) (ha : (stepR sn la pe (l.getD k 0)).ok = false) : Rel l (k + 1) sn la pe xs := by
  refine ⟨h.vd, fun hs => ?_, ?_, by have := h.len; omega, h.sub⟩
  · obtain ⟨j, hj, e⟩ := h.bef hs; exact ⟨j, by omega, e⟩
  · rw [← h.all, drop_cons l k hk, runF, if_neg (by rw [ha]; exact Bool.false_ne_true)]

theorem Rel.finish {l : List Int} {sn : Bool} {la pe : Int} {xs : List Int} (h : Rel l l.length sn la pe xs) : xs = runL l := by
  have := h.all; simpa [runF] using this

end Go.Proofs.Ytnpoofddnmodoaa
