/- Filters: the median. -/
import Derived.Test.YtoflhcdhgkbdcaaF2
namespace Go.Proofs.Ytoflhcdhgkbdcaa
set_option linter.unusedVariables false
set_option linter.unusedSimpArgs false
open Go.RowKit

/-! Sorted lists. -/
def ins (y : Int) : List Int → List Int
  | [] => [y]
  | x :: r => if x ≤ y then x :: ins y r else y :: x :: r
def srt : List Int → List Int
  | [] => []
  | y :: r => ins y (srt r)
def srtL (l : List Int) : List Int := srt l.reverse
theorem ins_len (y : Int) : ∀ s, (ins y s).length = s.length + 1
  | [] => rfl
  | x :: r => by unfold ins; split <;> simp [ins_len y r]
theorem ins_mem (y z : Int) : ∀ s, z ∈ ins y s ↔ z = y ∨ z ∈ s
  | [] => by simp [ins]
  | x :: r => by
    unfold ins
    split
    · simp only [List.mem_cons, ins_mem y z r]
      constructor
      · rintro (h | h | h) <;> simp [h]
      · rintro (h | h | h) <;> simp [h]
    · simp
theorem ins_sorted (y : Int) : ∀ {s : List Int}, s.Pairwise (· ≤ ·) → (ins y s).Pairwise (· ≤ ·)
  | [], _ => by simp [ins]
  | x :: r, h => by
    rw [List.pairwise_cons] at h
    unfold ins
    split
    · rename_i hx
      rw [List.pairwise_cons]
      refine ⟨fun z hz => ?_, ins_sorted y h.2⟩
      rcases (ins_mem y z r).1 hz with rfl | hz
      · exact hx
      · exact h.1 z hz
    · rename_i hx
      rw [List.pairwise_cons]
      refine ⟨fun z hz => ?_, List.pairwise_cons.2 h⟩
      rcases List.mem_cons.1 hz with rfl | hz
      · omega
      · have := h.1 z hz
        omega
theorem ins_count (p : Int → Bool) (y : Int) : ∀ s, (ins y s).countP p = (y :: s).countP p
  | [] => rfl
  | x :: r => by
    unfold ins
    split
    · rw [List.countP_cons, ins_count p y r, List.countP_cons, List.countP_cons, List.countP_cons]; omega
    · rfl
theorem srt_len : ∀ l, (srt l).length = l.length
  | [] => rfl
  | y :: r => by simp [srt, ins_len, srt_len r]
theorem srt_sorted : ∀ l, (srt l).Pairwise (· ≤ ·)
  | [] => List.Pairwise.nil
  | y :: r => ins_sorted y (srt_sorted r)
theorem srt_count (p : Int → Bool) : ∀ l, (srt l).countP p = l.countP p
  | [] => rfl
  | y :: r => by rw [srt, ins_count, List.countP_cons, srt_count p r, List.countP_cons]
theorem srt_mem (z : Int) : ∀ l, z ∈ srt l ↔ z ∈ l
  | [] => Iff.rfl
  | y :: r => by rw [srt, ins_mem, srt_mem z r, List.mem_cons]
theorem srtL_len (l : List Int) : (srtL l).length = l.length := by simp [srtL, srt_len]
theorem srtL_snoc (l : List Int) (y : Int) : srtL (l ++ [y]) = ins y (srtL l) := by simp [srtL, srt]
theorem srtL_count (p : Int → Bool) (l : List Int) : (srtL l).countP p = l.countP p := by simp [srtL, srt_count]
theorem srtL_mem (z : Int) (l : List Int) : z ∈ srtL l ↔ z ∈ l := by simp [srtL, srt_mem]
theorem ins_at (y : Int) : ∀ (s : List Int) (k : Nat), k ≤ s.length → (∀ z ∈ s.take k, z ≤ y) → (∀ z ∈ s.drop k, y < z) → ins y s = s.take k ++ y :: s.drop k
  | [], k, _, _, _ => by simp [ins]
  | x :: r, 0, _, _, h => by
    have := h x (by simp)
    simp [ins]
    omega
  | x :: r, k + 1, hk, h1, h2 => by
    have hx := h1 x (by simp)
    unfold ins
    rw [if_pos hx, List.take_succ_cons, List.drop_succ_cons, List.cons_append, ins_at y r k (by simpa using hk) (fun z hz => h1 z (by simp [hz])) (fun z hz => h2 z (by simpa using hz))]
def med (l : List Int) : Int := (srtL l).getD ((l.length - 1) / 2) 0
def isMed (l : List Int) (v : Int) : Prop := v ∈ l ∧ l.countP (fun z => decide (z < v)) ≤ (l.length - 1) / 2 ∧ (l.length - 1) / 2 < l.countP (fun z => decide (z < v)) + l.countP (fun z => decide (z = v))
theorem count_le (l : List Int) (v : Int) : l.countP (fun z => decide (z < v)) + l.countP (fun z => decide (z = v)) = l.countP (fun z => decide (z ≤ v)) := by
  induction l with
  | nil => rfl
  | cons x r ih =>
    simp only [List.countP_cons]
    rw [← ih]
    by_cases h1 : x < v
    · have h2 : ¬ x = v := by omega
      have h3 : x ≤ v := by omega
      simp [h1, h2, h3]; omega
    · by_cases h2 : x = v
      · have h3 : x ≤ v := by omega
        simp [h1, h2, h3]; omega
      · have h3 : ¬ x ≤ v := by omega
        simp [h1, h2, h3]
theorem med_is {l : List Int} (h : 1 ≤ l.length) : isMed l (med l) := by
  obtain ⟨n, hn⟩ : ∃ n, n = (l.length - 1) / 2 := ⟨_, rfl⟩
  have hlt : n < (srtL l).length := by rw [srtL_len]; omega
  have hv : med l = (srtL l)[n] := by
    unfold med
    rw [← hn, List.getD_eq_getElem?_getD, List.getElem?_eq_getElem hlt]; rfl
  have hs := srt_sorted l.reverse
  rw [List.pairwise_iff_getElem] at hs
  have hs : ∀ (i j : Nat) (hi : i < (srtL l).length) (hj : j < (srtL l).length), i < j → (srtL l)[i] ≤ (srtL l)[j] := hs
  unfold isMed
  have hmem : med l ∈ l := (srtL_mem _ _).1 (hv ▸ List.getElem_mem hlt)
  rw [count_le, ← srtL_count, ← srtL_count (fun z => decide (z ≤ med l)), ← hn]
  obtain ⟨v, hvv⟩ : ∃ v, v = med l := ⟨_, rfl⟩
  rw [← hvv] at hv hmem ⊢
  refine ⟨hmem, ?_, ?_⟩
  · conv => lhs; rw [← List.take_append_drop n (srtL l)]
    rw [List.countP_append]
    have h0 : ((srtL l).drop n).countP (fun z => decide (z < v)) = 0 := by
      rw [List.countP_eq_zero]
      intro z hz
      obtain ⟨j, hj, rfl⟩ := List.getElem_of_mem hz
      rw [List.getElem_drop]
      simp only [decide_eq_true_eq]
      rw [hv]
      rcases Nat.eq_zero_or_pos j with rfl | hp
      · simp
      · have := hs n (n + j) hlt (by simp at hj; omega) (by omega)
        omega
    have h1 := List.countP_le_length (p := fun z => decide (z < v)) (l := (srtL l).take n)
    rw [List.length_take] at h1
    omega
  · conv => rhs; rw [← List.take_append_drop (n + 1) (srtL l)]
    rw [List.countP_append]
    have h0 : ((srtL l).take (n + 1)).countP (fun z => decide (z ≤ v)) = n + 1 := by
      have e : ((srtL l).take (n + 1)).length = n + 1 := by rw [List.length_take]; omega
      have h1 : ((srtL l).take (n + 1)).countP (fun z => decide (z ≤ v)) = ((srtL l).take (n + 1)).length := by
        rw [List.countP_eq_length]
        intro z hz
        obtain ⟨j, hj, rfl⟩ := List.getElem_of_mem hz
        rw [List.getElem_take]
        simp only [decide_eq_true_eq]
        rw [e] at hj
        rw [hv]
        rcases Nat.lt_or_ge j n with hjn | hjn
        · exact hs j n (by omega) hlt hjn
        · have : j = n := by omega
          subst this
          exact Int.le_refl _
      rw [h1, e]
    rw [h0]
    omega
theorem cnt_mono (l : List Int) {v w : Int} (h : v < w) : l.countP (fun z => decide (z ≤ v)) ≤ l.countP (fun z => decide (z < w)) := by
  apply List.countP_mono_left
  intro x _ hx
  simp only [decide_eq_true_eq] at hx ⊢
  omega
theorem isMed_uniq {l : List Int} {v w : Int} (hv : isMed l v) (hw : isMed l w) : v = w := by
  obtain ⟨_, a1, a2⟩ := hv
  obtain ⟨_, b1, b2⟩ := hw
  rw [count_le] at a2 b2
  rcases Int.lt_trichotomy v w with h | h | h
  · have := cnt_mono l h
    omega
  · exact h
  · have := cnt_mono l h
    omega
theorem getD_set (l : List Int) (k j : Nat) (v : Int) : (l.set k v).getD j 0 = if j = k ∧ k < l.length then v else l.getD j 0 := by
  simp only [List.getD_eq_getElem?_getD, List.getElem?_set]
  by_cases h : k = j
  · subst h
    by_cases h2 : k < l.length
    · simp [h2]
    · simp [h2, List.getElem?_eq_none (show l.length ≤ k by omega)]
  · have : ¬ j = k := fun e => h e.symm
    simp [h, this]
theorem getD_mem_take {s : List Int} {k : Nat} {z : Int} (h : z ∈ s.take k) : ∃ j, j < k ∧ j < s.length ∧ s.getD j 0 = z := by
  obtain ⟨j, hj, rfl⟩ := List.getElem_of_mem h
  rw [List.length_take] at hj
  refine ⟨j, by omega, by omega, ?_⟩
  rw [List.getElem_take, List.getD_eq_getElem?_getD, List.getElem?_eq_getElem (by omega)]; rfl
theorem getD_mem_drop {s : List Int} {k : Nat} {z : Int} (h : z ∈ s.drop k) : ∃ j, k ≤ j ∧ j < s.length ∧ s.getD j 0 = z := by
  obtain ⟨j, hj, rfl⟩ := List.getElem_of_mem h
  rw [List.length_drop] at hj
  refine ⟨k + j, by omega, by omega, ?_⟩
  rw [List.getElem_drop, List.getD_eq_getElem?_getD, List.getElem?_eq_getElem (by omega)]; rfl
theorem sorted_getD {s : List Int} (h : s.Pairwise (· ≤ ·)) {i j : Nat} (hij : i ≤ j) (hj : j < s.length) : s.getD i 0 ≤ s.getD j 0 := by
  rw [List.pairwise_iff_getElem] at h
  simp only [List.getD_eq_getElem?_getD, List.getElem?_eq_getElem hj, List.getElem?_eq_getElem (show i < s.length by omega), Option.getD_some]
  rcases Nat.lt_or_ge i j with hl | hl
  · exact h i j (by omega) hj hl
  · have : i = j := by omega
    subst this
    exact Int.le_refl _
theorem ins_getD {y : Int} {s : List Int} {k : Nat} (hs : s.Pairwise (· ≤ ·)) (hk : k ≤ s.length) (h1 : 0 < k → s.getD (k - 1) 0 ≤ y) (h2 : ∀ j, k ≤ j → j < s.length → y < s.getD j 0) (j : Nat) :
    (ins y s).getD j 0 = if j < k then s.getD j 0 else if j = k then y else s.getD (j - 1) 0 := by
  rw [ins_at y s k hk (fun z hz => by
    obtain ⟨i, hi, hi2, rfl⟩ := getD_mem_take hz
    have := sorted_getD hs (show i ≤ k - 1 by omega) (by omega)
    have := h1 (by omega)
    omega) (fun z hz => by
    obtain ⟨i, hi, hi2, rfl⟩ := getD_mem_drop hz
    exact h2 i hi hi2)]
  have hl : (s.take k).length = k := by rw [List.length_take]; omega
  simp only [List.getD_eq_getElem?_getD]
  by_cases hj : j < k
  · rw [if_pos hj, List.getElem?_append_left (by omega), List.getElem?_take, if_pos hj]
  · rw [if_neg hj, List.getElem?_append_right (by omega), hl]
    by_cases hjk : j = k
    · subst hjk; simp
    · rw [if_neg hjk]
      obtain ⟨m, hm⟩ : ∃ m, j - k = m + 1 := ⟨j - k - 1, by omega⟩
      rw [hm, List.getElem?_cons_succ, List.getElem?_drop]
      congr 2
      omega
def medV (n : Int) (l : List Int) (x : Int) : Int := if addE n l x = 0 then med (addL n l x) else 0

def fmedian_res (n : Int) (l : List Int) (x : Int) : CRes := ⟨[], .tup [.agg [.int .i64 (addN n l x), .row 1], .cel (.int .i64 (medV n l x)), .cel (.int .i64 (addE n l x))], [.ints .i64 (addL n l x)]⟩
def fmedian_go : List TV → List RowA → Option CRes := fun args rows =>
  match args, rows with
  | [.agg [.int .i64 n, .row 0], .cel (.int .i64 x)], [.ints .i64 l] => some (fmedian_res n l x)
  | _, _ => none
def fmedian_e : Ent := ⟨31, [.ints .i64 []], fmedian_go⟩
def fmedian_L1_F (n : Int) (l : List Int) (x : Int) (i : Int) (a : List Int) : St := ⟨61, [], [(25, (.one (.cel (.int .i64 i)))), (24, (.one (.cel (.int .i64 (((List.length (addL n l x)) : Nat) : Int))))), (23, (.one (.cel (.row 1)))), (8, (.one (.cel (.elt 2 (0 : Int) 1 0)))), (6, (.one (.cel (.int .i64 (0 : Int))))), (5, (.one (.cel (.int .i64 (0 : Int))))), (4, (.one (.cel (.ptr 1 0)))), (2, (.one (.cel (.ptr 0 0))))], [[(.int .i64 (addN n l x)), (.row 1)], [(.int .i64 (0 : Int)), .nilS]], [⟨(.ints .i64 l), none⟩, ⟨(.ints .i64 (addL n l x)), none⟩, ⟨(.ints .i64 a), some 78⟩]⟩
def fmedian_L1_I (n : Int) (l : List Int) (x : Int) (i : Int) (a : List Int) : Prop := (0 ≤ i ∧ i ≤ (addL n l x).length ∧ addE n l x = 0 ∧ a.length = 16) ∧ (∀ j : Nat, (j : Int) < i → a.getD j 0 = (srtL ((addL n l x).take i.toNat)).getD j 0)
def fmedian_L1_m (n : Int) (l : List Int) (x : Int) (i : Int) (a : List Int) : Nat := ((addL n l x).length - i).toNat
def fmedian_L1_N (n : Int) (l : List Int) (x : Int) (i' : Int) (a' : List Int) (st_ : St) : Prop := getI st_ 25 fun i => getWR st_ 2 fun a => fmedian_L1_I n l x i a ∧ fmedian_L1_m n l x i a < fmedian_L1_m n l x i' a' ∧ SubA st_ (fmedian_L1_F n l x i a)
def fmedian_L1_E (n : Int) (l : List Int) (x : Int) (st_ : St) : Prop := getI st_ 25 fun i => getWR st_ 2 fun a => fmedian_L1_I n l x i a ∧ SubA st_ (fmedian_L1_F n l x i a)
def fmedian_L1_S1 (n : Int) (l : List Int) (x : Int) : St := ⟨61, [], [(25, (.one (.cel (.int .i64 (0 : Int))))), (24, (.one (.cel (.int .i64 (((List.length (addL n l x)) : Nat) : Int))))), (23, (.one (.cel (.row 1)))), (22, (.one (.cel (.ptr 0 1)))), (8, (.one (.cel (.elt 2 (0 : Int) 1 0)))), (19, (.one (.cel (.bool (!(decide ((addE n l x) = (0 : Int)))))))), (18, (.one (.cel (.int .i64 (addE n l x))))), (7, (.one (.cel (.int .i64 (addE n l x))))), (17, (.one (.cel (.int .i64 (addE n l x))))), (16, (.one (.agg [(.int .i64 (addN n l x)), (.row 1)]))), (12, (.tup [(.agg [(.int .i64 (addN n l x)), (.row 1)]), (.cel (.int .i64 (addE n l x)))])), (15, (.tup [(.agg [(.int .i64 (addN n l x)), (.row 1)]), (.cel (.int .i64 (addE n l x)))])), (14, (.one (.cel (.int .i64 x)))), (13, (.one (.agg [(.int .i64 n), (.row 0)]))), (6, (.one (.cel (.int .i64 (0 : Int))))), (5, (.one (.cel (.int .i64 (0 : Int))))), (4, (.one (.cel (.ptr 1 0)))), (2, (.one (.cel (.ptr 0 0)))), (0, (.one (.agg [(.int .i64 n), (.row 0)]))), (1, (.one (.cel (.int .i64 x))))], [[(.int .i64 (addN n l x)), (.row 1)], [(.int .i64 (0 : Int)), .nilS]], [⟨(.ints .i64 l), none⟩, ⟨(.ints .i64 (addL n l x)), none⟩, ⟨(.ints .i64 (List.replicate 16 (0 : Int))), some 78⟩]⟩
def fmedian_L2_F (n : Int) (l : List Int) (x : Int) (i : Int) (a : List Int) (k : Int) (b : List Int) : St := ⟨61, [], [(11, (.one (.cel (.int .i64 k)))), (30, (.one (.cel (.int .i64 i)))), (10, (.one (.cel (.int .i64 (List.getD (addL n l x) (Int.toNat i) (0 : Int)))))), (9, (.one (.cel (.int .i64 i)))), (29, (.one (.cel (.int .i64 (List.getD (addL n l x) (Int.toNat i) (0 : Int)))))), (28, (.one (.cel (.elt 1 i 1 0)))), (27, (.one (.cel (.int .i64 i)))), (26, (.one (.cel (.bool (decide (i < (((List.length (addL n l x)) : Nat) : Int))))))), (25, (.one (.cel (.int .i64 i)))), (24, (.one (.cel (.int .i64 (((List.length (addL n l x)) : Nat) : Int))))), (23, (.one (.cel (.row 1)))), (8, (.one (.cel (.elt 2 (0 : Int) 1 0)))), (6, (.one (.cel (.int .i64 (0 : Int))))), (5, (.one (.cel (.int .i64 (0 : Int))))), (4, (.one (.cel (.ptr 1 0)))), (2, (.one (.cel (.ptr 0 0))))], [[(.int .i64 (addN n l x)), (.row 1)], [(.int .i64 (0 : Int)), .nilS]], [⟨(.ints .i64 l), none⟩, ⟨(.ints .i64 (addL n l x)), none⟩, ⟨(.ints .i64 b), some 78⟩]⟩
def fmedian_L2_I (n : Int) (l : List Int) (x : Int) (i : Int) (a : List Int) (k : Int) (b : List Int) : Prop := (0 ≤ k ∧ k ≤ i ∧ i < (addL n l x).length ∧ b.length = 16) ∧ ((∀ j : Nat, (j : Int) < k → b.getD j 0 = (srtL ((addL n l x).take i.toNat)).getD j 0) ∧ (∀ j : Nat, k ≤ j → (j : Int) < i → b.getD (j + 1) 0 = (srtL ((addL n l x).take i.toNat)).getD j 0 ∧ (addL n l x).getD i.toNat 0 < (srtL ((addL n l x).take i.toNat)).getD j 0))
def fmedian_L2_m (n : Int) (l : List Int) (x : Int) (i : Int) (a : List Int) (k : Int) (b : List Int) : Nat := k.toNat
def fmedian_L2_N (n : Int) (l : List Int) (x : Int) (i : Int) (a : List Int) (k' : Int) (b' : List Int) (st_ : St) : Prop := getI st_ 11 fun k => getWR st_ 2 fun b => fmedian_L2_I n l x i a k b ∧ fmedian_L2_m n l x i a k b < fmedian_L2_m n l x i a k' b' ∧ SubA st_ (fmedian_L2_F n l x i a k b)
def fmedian_L2_E (n : Int) (l : List Int) (x : Int) (i : Int) (a : List Int) (st_ : St) : Prop := getI st_ 11 fun k => getWR st_ 2 fun b => fmedian_L2_I n l x i a k b ∧ SubA st_ (fmedian_L2_F n l x i a k b)
def fmedian_L2_S1 (n : Int) (l : List Int) (x : Int) (i : Int) (a : List Int) : St := ⟨61, [], [(11, (.one (.cel (.int .i64 i)))), (30, (.one (.cel (.int .i64 i)))), (10, (.one (.cel (.int .i64 (List.getD (addL n l x) (Int.toNat i) (0 : Int)))))), (9, (.one (.cel (.int .i64 i)))), (29, (.one (.cel (.int .i64 (List.getD (addL n l x) (Int.toNat i) (0 : Int)))))), (28, (.one (.cel (.elt 1 i 1 0)))), (27, (.one (.cel (.int .i64 i)))), (26, (.one (.cel (.bool (decide (i < (((List.length (addL n l x)) : Nat) : Int))))))), (25, (.one (.cel (.int .i64 i)))), (24, (.one (.cel (.int .i64 (((List.length (addL n l x)) : Nat) : Int))))), (23, (.one (.cel (.row 1)))), (8, (.one (.cel (.elt 2 (0 : Int) 1 0)))), (6, (.one (.cel (.int .i64 (0 : Int))))), (5, (.one (.cel (.int .i64 (0 : Int))))), (4, (.one (.cel (.ptr 1 0)))), (2, (.one (.cel (.ptr 0 0))))], [[(.int .i64 (addN n l x)), (.row 1)], [(.int .i64 (0 : Int)), .nilS]], [⟨(.ints .i64 l), none⟩, ⟨(.ints .i64 (addL n l x)), none⟩, ⟨(.ints .i64 a), some 78⟩]⟩
def fmedian_L2_T (n : Int) (l : List Int) (x : Int) (i : Int) (a : List Int) (k : Int) (b : List Int) : Prop := (cnd ((!((decide ((0 : Int) < k)) == Bool.true)) || (Nat.beq (List.length b) 16))
  (cnd ((!((decide ((0 : Int) < k)) == Bool.true)) || (decide ((0 : Int) ≤ (Go.IntKind.wrap Go.IntKind.i64 (k - (1 : Int))))))
    (cnd ((!((decide ((0 : Int) < k)) == Bool.true)) || (decide ((Go.IntKind.wrap Go.IntKind.i64 (k - (1 : Int))) < ((16 : Nat) : Int))))
      (cnd ((decide ((0 : Int) < k)) && (decide ((List.getD (addL n l x) (Int.toNat i) (0 : Int)) < (List.getD b (Int.toNat (Go.IntKind.wrap Go.IntKind.i64 (k - (1 : Int)))) (0 : Int)))))
        (cnd (Nat.beq (List.length b) 16)
          (cnd (decide ((0 : Int) ≤ (Go.IntKind.wrap Go.IntKind.i64 (k - (1 : Int)))))
            (cnd (decide ((Go.IntKind.wrap Go.IntKind.i64 (k - (1 : Int))) < ((16 : Nat) : Int)))
              (cnd (Nat.beq (List.length b) 16)
                (cnd (decide ((0 : Int) ≤ k))
                  (cnd (decide (k < ((16 : Nat) : Int)))
                    ((fmedian_L2_I n l x i a (Go.IntKind.wrap Go.IntKind.i64 (k - (1 : Int))) (List.set b (Int.toNat k) (List.getD b (Int.toNat (Go.IntKind.wrap Go.IntKind.i64 (k - (1 : Int)))) (0 : Int)))) ∧ (((fmedian_L2_m n l x i a (Go.IntKind.wrap Go.IntKind.i64 (k - (1 : Int))) (List.set b (Int.toNat k) (List.getD b (Int.toNat (Go.IntKind.wrap Go.IntKind.i64 (k - (1 : Int)))) (0 : Int)))) < (fmedian_L2_m n l x i a k b)) ∧ (((Go.IntKind.wrap Go.IntKind.i64 (k - (1 : Int))) = (Go.IntKind.wrap Go.IntKind.i64 (k - (1 : Int)))) ∧ ((i = i) ∧ (((List.getD (addL n l x) (Int.toNat i) (0 : Int)) = (List.getD (addL n l x) (Int.toNat i) (0 : Int))) ∧ ((i = i) ∧ (((List.getD (addL n l x) (Int.toNat i) (0 : Int)) = (List.getD (addL n l x) (Int.toNat i) (0 : Int))) ∧ ((i = i) ∧ ((i = i) ∧ (((decide (i < (((List.length (addL n l x)) : Nat) : Int))) = (decide (i < (((List.length (addL n l x)) : Nat) : Int)))) ∧ ((i = i) ∧ (((((List.length (addL n l x)) : Nat) : Int) = (((List.length (addL n l x)) : Nat) : Int)) ∧ (True ∧ (((0 : Int) = (0 : Int)) ∧ (((0 : Int) = (0 : Int)) ∧ (((0 : Int) = (0 : Int)) ∧ (True ∧ (True ∧ ((((addN n l x) = (addN n l x)) ∧ True) ∧ ((((0 : Int) = (0 : Int)) ∧ True) ∧ ((l = l) ∧ (((addL n l x) = (addL n l x)) ∧ (((List.set b (Int.toNat k) (List.getD b (Int.toNat (Go.IntKind.wrap Go.IntKind.i64 (k - (1 : Int)))) (0 : Int))) = (List.set b (Int.toNat k) (List.getD b (Int.toNat (Go.IntKind.wrap Go.IntKind.i64 (k - (1 : Int)))) (0 : Int)))) ∧ True)))))))))))))))))))))))
                    False)
                  False)
                False)
              False)
            False)
          False)
        (cnd (Nat.beq (List.length b) 16)
          (cnd (decide ((0 : Int) ≤ k))
            (cnd (decide (k < ((16 : Nat) : Int)))
              ((fmedian_L1_I n l x (Go.IntKind.wrap Go.IntKind.i64 (i + (1 : Int))) (List.set b (Int.toNat k) (List.getD (addL n l x) (Int.toNat i) (0 : Int)))) ∧ (((fmedian_L1_m n l x (Go.IntKind.wrap Go.IntKind.i64 (i + (1 : Int))) (List.set b (Int.toNat k) (List.getD (addL n l x) (Int.toNat i) (0 : Int)))) < (fmedian_L1_m n l x i a)) ∧ (((Go.IntKind.wrap Go.IntKind.i64 (i + (1 : Int))) = (Go.IntKind.wrap Go.IntKind.i64 (i + (1 : Int)))) ∧ (((((List.length (addL n l x)) : Nat) : Int) = (((List.length (addL n l x)) : Nat) : Int)) ∧ (True ∧ (((0 : Int) = (0 : Int)) ∧ (((0 : Int) = (0 : Int)) ∧ (((0 : Int) = (0 : Int)) ∧ (True ∧ (True ∧ ((((addN n l x) = (addN n l x)) ∧ True) ∧ ((((0 : Int) = (0 : Int)) ∧ True) ∧ ((l = l) ∧ (((addL n l x) = (addL n l x)) ∧ (((List.set b (Int.toNat k) (List.getD (addL n l x) (Int.toNat i) (0 : Int))) = (List.set b (Int.toNat k) (List.getD (addL n l x) (Int.toNat i) (0 : Int)))) ∧ True)))))))))))))))
              False)
            False)
          False))
      False)
    False)
  False)
set_option maxRecDepth 100000 in
theorem fmedian_L2_tree (n : Int) (l : List Int) (x : Int) (i : Int) (a : List Int) (k : Int) (b : List Int) : fmedian_L2_T n l x i a k b = ex Try.prog (conOf [fadd_e]) (subC (subC (bodyOf Try.f31) [1, 1, 1, 1, 0, 1, 0, 0]) [1, 1, 0, 0, 1, 1, 0, 0, 0]) (nextE (fmedian_L2_N n l x i a k b) (kont Try.prog (conOf [fadd_e]) (subC (bodyOf Try.f31) [1, 1, 1, 1, 0, 1, 0, 0]) [1, 1, 0, 0, 1, 1, 0, 0] (nextE (fmedian_L1_N n l x i a) (kont Try.prog (conOf [fadd_e]) (bodyOf Try.f31) [1, 1, 1, 1, 0, 1, 0] (retPost Try.prog Try.f31 1 (fmedian_res n l x)))))) (fmedian_L2_F n l x i a k b) := by kernel_rfl
set_option maxRecDepth 100000 in
theorem fmedian_L2_round (n : Int) (l : List Int) (x : Int) (i : Int) (a : List Int) (k : Int) (b : List Int) (hI_L1 : fmedian_L1_I n l x i a) (hI_L2 : fmedian_L2_I n l x i a k b) : fmedian_L2_T n l x i a k b := by
  obtain ⟨⟨a1, a2, a3, a4⟩, a5⟩ := hI_L1
  obtain ⟨b1, b2, b3⟩ := addL_len a3
  have b4 := (addE_zero.1 a3).1
  obtain ⟨⟨c1, c2, c3, c4⟩, c5, c6⟩ := hI_L2
  unfold fmedian_L2_T
  have j3 : Nat.beq b.length 16 = true := by rw [c4]; rfl
  have j4 : decide (k < ((16 : Nat) : Int)) = true := by rw [decide_eq_true_eq]; omega
  have j5 : decide (0 ≤ k) = true := by simpa using c1
  have j6 : decide (k - 1 < ((16 : Nat) : Int)) = true := by rw [decide_eq_true_eq]; omega
  have e1 : (k - 1).toNat = k.toNat - 1 := by omega
  obtain ⟨S, hS⟩ : ∃ S, S = srtL ((addL n l x).take i.toNat) := ⟨_, rfl⟩
  obtain ⟨y, hy⟩ : ∃ y, y = (addL n l x).getD i.toNat 0 := ⟨_, rfl⟩
  have hSl : S.length = i.toNat := by rw [hS, srtL_len, List.length_take]; omega
  rw [← hS] at c5 c6
  rw [← hy] at c6 ⊢
  rw [w64 (n := k - 1) (by omega) (by omega), w64 (n := i + 1) (by omega) (by omega)]
  simp only [j3, j4, j5, j6, Bool.or_true, cnd]
  by_cases hc : 0 < k ∧ y < b.getD (k.toNat - 1) 0
  · have j7 : decide (0 ≤ k - 1) = true := by rw [decide_eq_true_eq]; omega
    have j8 : (decide (0 < k) && decide (y < b.getD (k - 1).toNat 0)) = true := by rw [e1, decide_eq_true hc.1, decide_eq_true hc.2]; rfl
    simp only [j7, j8, Bool.or_true]
    refine ⟨⟨⟨by omega, by omega, c3, by simpa using c4⟩, ?_⟩, ?_, by simp⟩
    · rw [← hS, ← hy, e1]
      refine ⟨fun j hj => ?_, fun j h1 h2 => ?_⟩
      · rw [getD_set, if_neg (by omega)]
        exact c5 j (by omega)
      · rw [getD_set]
        by_cases hj : j + 1 = k.toNat
        · have hj2 : j = k.toNat - 1 := by omega
          subst hj2
          rw [if_pos ⟨by omega, by omega⟩]
          have := c5 (k.toNat - 1) (by omega)
          exact ⟨this, by rw [← this]; exact hc.2⟩
        · rw [if_neg (by omega)]
          exact c6 j (by omega) h2
    · unfold fmedian_L2_m
      omega
  · have j8 : (decide (0 < k) && decide (y < b.getD (k - 1).toNat 0)) = false := by
      rw [e1]
      by_cases hk : 0 < k
      · have : ¬ y < b.getD (k.toNat - 1) 0 := fun h => hc ⟨hk, h⟩
        simp only [this, decide_false, Bool.and_false]
      · simp [hk]
    have j9 : ((!(decide (0 < k) == true)) || decide (0 ≤ k - 1)) = true := by
      by_cases hk : 0 < k
      · rw [decide_eq_true (show 0 ≤ k - 1 by omega), Bool.or_true]
      · simp [hk]
    simp only [j8, j9]
    refine ⟨⟨⟨by omega, by omega, a3, by simpa using c4⟩, ?_⟩, ?_, by simp⟩
    · intro j hj
      have hsn : srtL ((addL n l x).take (i + 1).toNat) = ins y S := by
        rw [show (i + 1).toNat = i.toNat + 1 by omega, take_succ_getD _ _ (by omega), srtL_snoc, ← hS, ← hy]
      rw [hsn, ins_getD (k := k.toNat) (by rw [hS]; exact srt_sorted _) (by omega) (fun h => by
        have h1 := c5 (k.toNat - 1) (by omega)
        rw [← h1]
        rcases Int.lt_or_le y (b.getD (k.toNat - 1) 0) with h2 | h2
        · exact absurd ⟨by omega, h2⟩ hc
        · exact h2) (fun j h1 h2 => (c6 j (by omega) (by omega)).2), getD_set]
      by_cases h1 : j < k.toNat
      · rw [if_neg (by omega), if_pos h1]
        exact c5 j (by omega)
      · by_cases h2 : j = k.toNat
        · have hk2 : k.toNat < b.length := by omega
          subst h2
          simp [hk2]
        · rw [if_neg (by omega), if_neg h1, if_neg h2]
          have := (c6 (j - 1) (by omega) (by omega)).1
          rwa [show j - 1 + 1 = j by omega] at this
    · unfold fmedian_L1_m
      omega
set_option maxRecDepth 100000 in
theorem fmedian_L2_entry1 (n : Int) (l : List Int) (x : Int) (i : Int) (a : List Int) : (((fmedian_L2_I n l x i a i a) ∧ ((i = i) ∧ ((i = i) ∧ (((List.getD (addL n l x) (Int.toNat i) (0 : Int)) = (List.getD (addL n l x) (Int.toNat i) (0 : Int))) ∧ ((i = i) ∧ (((List.getD (addL n l x) (Int.toNat i) (0 : Int)) = (List.getD (addL n l x) (Int.toNat i) (0 : Int))) ∧ ((i = i) ∧ ((i = i) ∧ (((decide (i < (((List.length (addL n l x)) : Nat) : Int))) = (decide (i < (((List.length (addL n l x)) : Nat) : Int)))) ∧ ((i = i) ∧ (((((List.length (addL n l x)) : Nat) : Int) = (((List.length (addL n l x)) : Nat) : Int)) ∧ (True ∧ (((0 : Int) = (0 : Int)) ∧ (((0 : Int) = (0 : Int)) ∧ (((0 : Int) = (0 : Int)) ∧ (True ∧ (True ∧ ((((addN n l x) = (addN n l x)) ∧ True) ∧ ((((0 : Int) = (0 : Int)) ∧ True) ∧ ((l = l) ∧ (((addL n l x) = (addL n l x)) ∧ ((a = a) ∧ True))))))))))))))))))))))) = fmedian_L2_E n l x i a (fmedian_L2_S1 n l x i a) := by kernel_rfl
theorem fmedian_L2_1 (n : Int) (l : List Int) (x : Int) (i : Int) (a : List Int) (hI_L1 : fmedian_L1_I n l x i a) (h : ((fmedian_L2_I n l x i a i a) ∧ ((i = i) ∧ ((i = i) ∧ (((List.getD (addL n l x) (Int.toNat i) (0 : Int)) = (List.getD (addL n l x) (Int.toNat i) (0 : Int))) ∧ ((i = i) ∧ (((List.getD (addL n l x) (Int.toNat i) (0 : Int)) = (List.getD (addL n l x) (Int.toNat i) (0 : Int))) ∧ ((i = i) ∧ ((i = i) ∧ (((decide (i < (((List.length (addL n l x)) : Nat) : Int))) = (decide (i < (((List.length (addL n l x)) : Nat) : Int)))) ∧ ((i = i) ∧ (((((List.length (addL n l x)) : Nat) : Int) = (((List.length (addL n l x)) : Nat) : Int)) ∧ (True ∧ (((0 : Int) = (0 : Int)) ∧ (((0 : Int) = (0 : Int)) ∧ (((0 : Int) = (0 : Int)) ∧ (True ∧ (True ∧ ((((addN n l x) = (addN n l x)) ∧ True) ∧ ((((0 : Int) = (0 : Int)) ∧ True) ∧ ((l = l) ∧ (((addL n l x) = (addL n l x)) ∧ ((a = a) ∧ True))))))))))))))))))))))) : LoopP (ex Try.prog (conOf [fadd_e]) (subC (subC (bodyOf Try.f31) [1, 1, 1, 1, 0, 1, 0, 0]) [1, 1, 0, 0, 1, 1, 0, 0, 0])) (kont Try.prog (conOf [fadd_e]) (subC (bodyOf Try.f31) [1, 1, 1, 1, 0, 1, 0, 0]) [1, 1, 0, 0, 1, 1, 0, 0] (nextE (fmedian_L1_N n l x i a) (kont Try.prog (conOf [fadd_e]) (bodyOf Try.f31) [1, 1, 1, 1, 0, 1, 0] (retPost Try.prog Try.f31 1 (fmedian_res n l x))))) (fmedian_L2_S1 n l x i a) := by
  have hE : fmedian_L2_E n l x i a (fmedian_L2_S1 n l x i a) := Eq.mp (fmedian_L2_entry1 n l x i a) h
  unfold fmedian_L2_E at hE
  obtain ⟨k, hE⟩ := getI_of hE
  obtain ⟨b, hE⟩ := getWR_of hE
  refine loop_of (α := (Int) × (List Int)) (fun xx_ => fmedian_L2_F n l x i a xx_.1 xx_.2) (fun xx_ => fmedian_L2_I n l x i a xx_.1 xx_.2) (fun xx_ => fmedian_L2_m n l x i a xx_.1 xx_.2) (fun xx_ => fmedian_L2_N n l x i a xx_.1 xx_.2) (fun xx_ => fmedian_L2_T n l x i a xx_.1 xx_.2) (fun xx_ s_ h => ?_) ⟨⟨k, b⟩, hE⟩ (fun xx_ => fmedian_L2_tree n l x i a xx_.1 xx_.2) (fun xx_ hI => fmedian_L2_round n l x i a xx_.1 xx_.2 hI_L1 hI)
  unfold fmedian_L2_N at h
  obtain ⟨k, h⟩ := getI_of h
  obtain ⟨b, h⟩ := getWR_of h
  exact ⟨⟨k, b⟩, h⟩
def fmedian_L1_T (n : Int) (l : List Int) (x : Int) (i : Int) (a : List Int) : Prop := (cnd (decide (i < (((List.length (addL n l x)) : Nat) : Int)))
  (cnd (decide ((0 : Int) ≤ i))
    (cnd (decide (i < (((List.length (addL n l x)) : Nat) : Int)))
      (LoopP (ex Try.prog (conOf [fadd_e]) (subC (subC (bodyOf Try.f31) [1, 1, 1, 1, 0, 1, 0, 0]) [1, 1, 0, 0, 1, 1, 0, 0, 0])) (kont Try.prog (conOf [fadd_e]) (subC (bodyOf Try.f31) [1, 1, 1, 1, 0, 1, 0, 0]) [1, 1, 0, 0, 1, 1, 0, 0] (nextE (fmedian_L1_N n l x i a) (kont Try.prog (conOf [fadd_e]) (bodyOf Try.f31) [1, 1, 1, 1, 0, 1, 0] (retPost Try.prog Try.f31 1 (fmedian_res n l x))))) (fmedian_L2_S1 n l x i a))
      False)
    False)
  ((((cnd (Nat.beq (List.length a) 16)
    (cnd (decide ((0 : Int) ≤ (Go.IntKind.wrap Go.IntKind.i64 (Int.tdiv (Go.IntKind.wrap Go.IntKind.i64 ((((List.length (addL n l x)) : Nat) : Int) - (1 : Int))) (2 : Int)))))
      (cnd (decide ((Go.IntKind.wrap Go.IntKind.i64 (Int.tdiv (Go.IntKind.wrap Go.IntKind.i64 ((((List.length (addL n l x)) : Nat) : Int) - (1 : Int))) (2 : Int))) < ((16 : Nat) : Int)))
        ((((((addN n l x) = (addN n l x)) ∧ True) ∧ (((List.getD a (Int.toNat (Go.IntKind.wrap Go.IntKind.i64 (Int.tdiv (Go.IntKind.wrap Go.IntKind.i64 ((((List.length (addL n l x)) : Nat) : Int) - (1 : Int))) (2 : Int)))) (0 : Int)) = (medV n l x)) ∧ ((0 : Int) = (addE n l x)))) ∧ (((addL n l x) = (addL n l x)) ∧ True)) ∧ (((((addN n l x) = (addN n l x)) ∧ True) ∧ (((List.getD a (Int.toNat (Go.IntKind.wrap Go.IntKind.i64 (Int.tdiv (Go.IntKind.wrap Go.IntKind.i64 ((((List.length (addL n l x)) : Nat) : Int) - (1 : Int))) (2 : Int)))) (0 : Int)) = (medV n l x)) ∧ ((0 : Int) = (addE n l x)))) ∧ (((addL n l x) = (addL n l x)) ∧ True)))
        False)
      False)
    False) ∧ (cnd (Nat.beq (List.length a) 16)
    (cnd (decide ((0 : Int) ≤ (Go.IntKind.wrap Go.IntKind.i64 (Int.tdiv (Go.IntKind.wrap Go.IntKind.i64 ((((List.length (addL n l x)) : Nat) : Int) - (1 : Int))) (2 : Int)))))
      (cnd (decide ((Go.IntKind.wrap Go.IntKind.i64 (Int.tdiv (Go.IntKind.wrap Go.IntKind.i64 ((((List.length (addL n l x)) : Nat) : Int) - (1 : Int))) (2 : Int))) < ((16 : Nat) : Int)))
        (((((addN n l x) = (addN n l x)) ∧ True) ∧ (((List.getD a (Int.toNat (Go.IntKind.wrap Go.IntKind.i64 (Int.tdiv (Go.IntKind.wrap Go.IntKind.i64 ((((List.length (addL n l x)) : Nat) : Int) - (1 : Int))) (2 : Int)))) (0 : Int)) = (medV n l x)) ∧ ((0 : Int) = (addE n l x)))) ∧ (((addL n l x) = (addL n l x)) ∧ True))
        False)
      False)
    False)) ∧ (cnd (Nat.beq (List.length a) 16)
    (cnd (decide ((0 : Int) ≤ (Go.IntKind.wrap Go.IntKind.i64 (Int.tdiv (Go.IntKind.wrap Go.IntKind.i64 ((((List.length (addL n l x)) : Nat) : Int) - (1 : Int))) (2 : Int)))))
      (cnd (decide ((Go.IntKind.wrap Go.IntKind.i64 (Int.tdiv (Go.IntKind.wrap Go.IntKind.i64 ((((List.length (addL n l x)) : Nat) : Int) - (1 : Int))) (2 : Int))) < ((16 : Nat) : Int)))
        (((((addN n l x) = (addN n l x)) ∧ True) ∧ (((List.getD a (Int.toNat (Go.IntKind.wrap Go.IntKind.i64 (Int.tdiv (Go.IntKind.wrap Go.IntKind.i64 ((((List.length (addL n l x)) : Nat) : Int) - (1 : Int))) (2 : Int)))) (0 : Int)) = (medV n l x)) ∧ ((0 : Int) = (addE n l x)))) ∧ (((addL n l x) = (addL n l x)) ∧ True))
        False)
      False)
    False)) ∧ (cnd (Nat.beq (List.length a) 16)
    (cnd (decide ((0 : Int) ≤ (Go.IntKind.wrap Go.IntKind.i64 (Int.tdiv (Go.IntKind.wrap Go.IntKind.i64 ((((List.length (addL n l x)) : Nat) : Int) - (1 : Int))) (2 : Int)))))
      (cnd (decide ((Go.IntKind.wrap Go.IntKind.i64 (Int.tdiv (Go.IntKind.wrap Go.IntKind.i64 ((((List.length (addL n l x)) : Nat) : Int) - (1 : Int))) (2 : Int))) < ((16 : Nat) : Int)))
        (((((addN n l x) = (addN n l x)) ∧ True) ∧ (((List.getD a (Int.toNat (Go.IntKind.wrap Go.IntKind.i64 (Int.tdiv (Go.IntKind.wrap Go.IntKind.i64 ((((List.length (addL n l x)) : Nat) : Int) - (1 : Int))) (2 : Int)))) (0 : Int)) = (medV n l x)) ∧ ((0 : Int) = (addE n l x)))) ∧ (((addL n l x) = (addL n l x)) ∧ True))
        False)
      False)
    False)))
set_option maxRecDepth 100000 in
theorem fmedian_L1_tree (n : Int) (l : List Int) (x : Int) (i : Int) (a : List Int) : fmedian_L1_T n l x i a = ex Try.prog (conOf [fadd_e]) (subC (bodyOf Try.f31) [1, 1, 1, 1, 0, 1, 0, 0]) (nextE (fmedian_L1_N n l x i a) (kont Try.prog (conOf [fadd_e]) (bodyOf Try.f31) [1, 1, 1, 1, 0, 1, 0] (retPost Try.prog Try.f31 1 (fmedian_res n l x)))) (fmedian_L1_F n l x i a) := by kernel_rfl
set_option maxRecDepth 100000 in
theorem fmedian_L1_round (n : Int) (l : List Int) (x : Int) (i : Int) (a : List Int)  (hI_L1 : fmedian_L1_I n l x i a) : fmedian_L1_T n l x i a := by
  have hI := hI_L1
  obtain ⟨⟨a1, a2, a3, a4⟩, a5⟩ := hI_L1
  obtain ⟨b1, b2, b3⟩ := addL_len a3
  have b4 := (addE_zero.1 a3).1
  unfold fmedian_L1_T
  by_cases hl : i < (addL n l x).length
  · have j1 : decide (0 ≤ i) = true := by simpa using a1
    simp only [hl, decide_true, j1, cnd]
    refine fmedian_L2_1 n l x i a hI ⟨⟨⟨by omega, by omega, hl, a4⟩, ⟨fun j hj => a5 j hj, fun j h1 h2 => by omega⟩⟩, by simp⟩
  · have he : i = (addL n l x).length := by omega
    have hq : Int.tdiv (((addL n l x).length : Int) - 1) 2 = (((addL n l x).length - 1) / 2 : Nat) := by
      rw [tdiv_pos (by omega)]
      omega
    rw [w64 (n := ((addL n l x).length : Int) - 1) (by omega) (by omega), hq, w64 (n := ((((addL n l x).length - 1) / 2 : Nat) : Int)) (by omega) (by omega)]
    have j1 : decide ((0 : Int) ≤ ((((addL n l x).length - 1) / 2 : Nat) : Int)) = true := by rw [decide_eq_true_eq]; omega
    have j2 : decide (((((addL n l x).length - 1) / 2 : Nat) : Int) < ((16 : Nat) : Int)) = true := by rw [decide_eq_true_eq]; omega
    have j3 : Nat.beq a.length 16 = true := by rw [a4]; rfl
    have hv : a.getD (((addL n l x).length - 1) / 2) 0 = medV n l x := by
      rw [a5 _ (by omega), he]
      unfold medV med
      rw [if_pos a3]
      simp
    simp only [hl, decide_false, j1, j2, j3, cnd, Int.toNat_natCast, hv, a3]
    simp
set_option maxRecDepth 100000 in
theorem fmedian_L1_entry1 (n : Int) (l : List Int) (x : Int) : (((fmedian_L1_I n l x (0 : Int) (List.replicate 16 (0 : Int))) ∧ (((0 : Int) = (0 : Int)) ∧ (((((List.length (addL n l x)) : Nat) : Int) = (((List.length (addL n l x)) : Nat) : Int)) ∧ (True ∧ (((0 : Int) = (0 : Int)) ∧ (((0 : Int) = (0 : Int)) ∧ (((0 : Int) = (0 : Int)) ∧ (True ∧ (True ∧ ((((addN n l x) = (addN n l x)) ∧ True) ∧ ((((0 : Int) = (0 : Int)) ∧ True) ∧ ((l = l) ∧ (((addL n l x) = (addL n l x)) ∧ (((List.replicate 16 (0 : Int)) = (List.replicate 16 (0 : Int))) ∧ True))))))))))))))) = fmedian_L1_E n l x (fmedian_L1_S1 n l x) := by kernel_rfl
theorem fmedian_L1_1 (n : Int) (l : List Int) (x : Int)  (h : ((fmedian_L1_I n l x (0 : Int) (List.replicate 16 (0 : Int))) ∧ (((0 : Int) = (0 : Int)) ∧ (((((List.length (addL n l x)) : Nat) : Int) = (((List.length (addL n l x)) : Nat) : Int)) ∧ (True ∧ (((0 : Int) = (0 : Int)) ∧ (((0 : Int) = (0 : Int)) ∧ (((0 : Int) = (0 : Int)) ∧ (True ∧ (True ∧ ((((addN n l x) = (addN n l x)) ∧ True) ∧ ((((0 : Int) = (0 : Int)) ∧ True) ∧ ((l = l) ∧ (((addL n l x) = (addL n l x)) ∧ (((List.replicate 16 (0 : Int)) = (List.replicate 16 (0 : Int))) ∧ True))))))))))))))) : LoopP (ex Try.prog (conOf [fadd_e]) (subC (bodyOf Try.f31) [1, 1, 1, 1, 0, 1, 0, 0])) (kont Try.prog (conOf [fadd_e]) (bodyOf Try.f31) [1, 1, 1, 1, 0, 1, 0] (retPost Try.prog Try.f31 1 (fmedian_res n l x))) (fmedian_L1_S1 n l x) := by
  have hE : fmedian_L1_E n l x (fmedian_L1_S1 n l x) := Eq.mp (fmedian_L1_entry1 n l x) h
  unfold fmedian_L1_E at hE
  obtain ⟨i, hE⟩ := getI_of hE
  obtain ⟨a, hE⟩ := getWR_of hE
  refine loop_of (α := (Int) × (List Int)) (fun xx_ => fmedian_L1_F n l x xx_.1 xx_.2) (fun xx_ => fmedian_L1_I n l x xx_.1 xx_.2) (fun xx_ => fmedian_L1_m n l x xx_.1 xx_.2) (fun xx_ => fmedian_L1_N n l x xx_.1 xx_.2) (fun xx_ => fmedian_L1_T n l x xx_.1 xx_.2) (fun xx_ s_ h => ?_) ⟨⟨i, a⟩, hE⟩ (fun xx_ => fmedian_L1_tree n l x xx_.1 xx_.2) (fun xx_ hI => fmedian_L1_round n l x xx_.1 xx_.2  hI)
  unfold fmedian_L1_N at h
  obtain ⟨i, h⟩ := getI_of h
  obtain ⟨a, h⟩ := getWR_of h
  exact ⟨⟨i, a⟩, h⟩
set_option maxRecDepth 100000 in
theorem fmedian_tree (n : Int) (l : List Int) (x : Int) : ((cnd (!(decide ((addE n l x) = (0 : Int))))
  (((((0 : Int) = (addN n l x)) ∧ True) ∧ (((0 : Int) = (medV n l x)) ∧ ((addE n l x) = (addE n l x)))) ∧ (((addL n l x) = ([] : List Int)) ∧ True))
  (LoopP (ex Try.prog (conOf [fadd_e]) (subC (bodyOf Try.f31) [1, 1, 1, 1, 0, 1, 0, 0])) (kont Try.prog (conOf [fadd_e]) (bodyOf Try.f31) [1, 1, 1, 1, 0, 1, 0] (retPost Try.prog Try.f31 1 (fmedian_res n l x))) (fmedian_L1_S1 n l x)))) = EXD Try.prog (conOf [fadd_e]) Try.f31 [.agg [.int .i64 n, .row 0], .cel (.int .i64 x)] [.ints .i64 l] (fmedian_res n l x) := by kernel_rfl
theorem fmedian_holds (n : Int) (l : List Int) (x : Int)  : (cnd (!(decide ((addE n l x) = (0 : Int))))
  (((((0 : Int) = (addN n l x)) ∧ True) ∧ (((0 : Int) = (medV n l x)) ∧ ((addE n l x) = (addE n l x)))) ∧ (((addL n l x) = ([] : List Int)) ∧ True))
  (LoopP (ex Try.prog (conOf [fadd_e]) (subC (bodyOf Try.f31) [1, 1, 1, 1, 0, 1, 0, 0])) (kont Try.prog (conOf [fadd_e]) (bodyOf Try.f31) [1, 1, 1, 1, 0, 1, 0] (retPost Try.prog Try.f31 1 (fmedian_res n l x))) (fmedian_L1_S1 n l x))) := by
  by_cases he : addE n l x = 0
  · have j : (!decide (addE n l x = 0)) = false := by simp [he]
    simp only [j, cnd]
    exact fmedian_L1_1 n l x ⟨⟨⟨by omega, by omega, he, by simp⟩, fun j hj => by omega⟩, by simp⟩
  · have j : (!decide (addE n l x = 0)) = true := by simp [he]
    simp [j, cnd, addN, addL, medV, he]
set_option maxHeartbeats 2000000 in
theorem fmedian_ok : SoundEnt Try.prog fmedian_e := by
  refine ent_of_ex (Γ := (conOf [fadd_e])) (conOf_sound (scons fadd_ok snil)) (by kernel_rfl) Try.func31 (by kernel_rfl) (by kernel_rfl) (fun args rows res h ho => ?_)
  change fmedian_go args rows = some res at h
  unfold fmedian_go at h
  split at h
  · simp only [Option.some.injEq] at h
    subst h
    rename_i q0_ q2_ q1_
    skip
    exact EX.of (fmedian_tree q0_ q1_ q2_) (fmedian_holds q0_ q1_ q2_)
  · cases h
end Go.Proofs.Ytoflhcdhgkbdcaa

