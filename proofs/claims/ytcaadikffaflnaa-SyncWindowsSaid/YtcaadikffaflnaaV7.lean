/- Lists of edges; searching in a list. -/
import Derived.Test.YtcaadikffaflnaaV1
namespace Go.Proofs.Ytcaadikffaflnaa
open Go.RowKit Go.Sort

def edgeAt (l : List Int) (j : Nat) : Bool := isTime (l.getD j 0) && (decide (j = 0) || decide (l.getD (j - 1) 0 < l.getD j 0))
def edgesB (l : List Int) : Bool := decide (l.length ≤ 1000) && (List.range l.length).all (edgeAt l)
def OkUpto (l : List Int) (k : Nat) : Prop := ∀ j, j < k → edgeAt l j = true
theorem OkUpto.zero (l : List Int) : OkUpto l 0 := fun _ h => absurd h (Nat.not_lt_zero _)
theorem OkUpto.succ {l : List Int} {k : Nat} (h : OkUpto l k) (hk : edgeAt l k = true) : OkUpto l (k + 1) := fun j hj => by
  by_cases e : j = k
  · subst e; exact hk
  · exact h j (by omega)
theorem edgesB_iff (l : List Int) : edgesB l = true ↔ l.length ≤ 1000 ∧ OkUpto l l.length := by
  simp [edgesB, OkUpto]
theorem edgesB_false_of (l : List Int) (k : Nat) (hk : k < l.length) (h : edgeAt l k = false) : edgesB l = false := by
  rw [Bool.eq_false_iff]; intro he
  have := ((edgesB_iff l).1 he).2 k hk
  simp [h] at this
theorem edge_time {l : List Int} {k : Nat} (h : edgeAt l k = true) : 0 ≤ l.getD k 0 ∧ l.getD k 0 ≤ 1099511627776 := by
  simp only [edgeAt, isTime, Bool.and_eq_true, decide_eq_true_eq] at h; exact h.1
theorem edge_lt {l : List Int} {k : Nat} (h : edgeAt l (k + 1) = true) : l.getD k 0 < l.getD (k + 1) 0 := by
  simp only [edgeAt, Bool.and_eq_true, Bool.or_eq_true, decide_eq_true_eq] at h
  have := h.2; simpa using this
theorem mono_lt {l : List Int} {n : Nat} (h : OkUpto l n) : ∀ k, k < n → ∀ j, j < k → l.getD j 0 < l.getD k 0 := by
  intro k
  induction k with
  | zero => intro _ j hj; omega
  | succ k ih =>
    intro hk j hj
    have h1 := edge_lt (h (k + 1) hk)
    by_cases e : j = k
    · subst e; exact h1
    · have := ih (by omega) j (by omega); omega

/-- What a search in a list by p comes to: a number that is not negative just if an element meets p. -/
def IdxPost (p : Int → Bool) (l : List Int) (w : World) (e : Ending) (w' : World) : Prop := ∃ r : Int, e = .returned (.int .i64 r) ∧ decide (0 ≤ r) = l.any p ∧ -1 ≤ r ∧ r ≤ l.length ∧ Below w.heap.size w w'
def NoneUpto (p : Int → Bool) (l : List Int) (k : Nat) : Prop := ∀ j, j < k → p (l.getD j 0) = false
theorem NoneUpto.zero (p : Int → Bool) (l : List Int) : NoneUpto p l 0 := fun _ h => absurd h (Nat.not_lt_zero _)
theorem NoneUpto.succ {p : Int → Bool} {l : List Int} {k : Nat} (h : NoneUpto p l k) (hk : p (l.getD k 0) = false) : NoneUpto p l (k + 1) := fun j hj => by
  by_cases e : j = k
  · subst e; exact hk
  · exact h j (by omega)
theorem NoneUpto.any {p : Int → Bool} {l : List Int} (h : NoneUpto p l l.length) : l.any p = false := by
  rw [List.any_eq_false]
  intro x hx
  obtain ⟨i, hi, rfl⟩ := List.getElem_of_mem hx
  have := h i hi
  simpa [List.getElem?_eq_getElem hi] using this
theorem any_of {p : Int → Bool} {l : List Int} {k : Nat} (hk : k < l.length) (h : p (l.getD k 0) = true) : l.any p = true := by
  rw [List.any_eq_true]
  exact ⟨l[k], List.getElem_mem hk, by simpa [List.getElem?_eq_getElem hk] using h⟩

theorem runf_any (t : Int) (w : World) : Calls Try.prog 30 #[.int .i64 t] w fun e w' => e = .returned (.bool (!isTime t)) ∧ w = w' := by
  go_enter Try.func30, Try.ntmps30
  go_wp2_with (go_at_call 31; refine (time_any _ _).mono ?_; rintro e w1 ⟨rfl, rfl⟩)
  go_ret
  exact ⟨rfl, rfl⟩

def early (t : Int) : Bool := decide (t < 0 ∨ 274877906944 < t)
theorem shiftf_any (t : Int) (w : World) : Calls Try.prog 11 #[.int .i64 t] w fun e w' => e = .returned (.bool (early t)) ∧ w = w' := by
  go_enter Try.func11, Try.ntmps11
  go_wp2
  all_goals (go_ret; exact ⟨ret_bool (by simp [early] <;> omega), rfl⟩)

theorem idx_run (v : Value) (l : List Int) (w : World) (hr : Row w v l) : Calls Try.prog 28 #[v, .func (.func 30) #[] #[]] w (IdxPost (fun t => !isTime t) l w) := by
  obtain ⟨⟨a, cap, rfl, hlc, hcm, hcell⟩, hwf⟩ := hr
  unfold maxLen at hcm
  go_enter Try.func28, Try.ntmps28
  go_wp2
  go_loopw [8] (fun i wr => ∃ k : Nat, k ≤ l.length ∧ i = .int .i64 k ∧ NoneUpto (fun t => !isTime t) l k ∧ Below w.heap.size w wr) (fun i _ => l.length - (intOf i).toNat)
  case atStart => exact ⟨0, Nat.zero_le _, rfl, NoneUpto.zero _ _, Below.refl _ _⟩
  case round =>
    obtain ⟨k, hk, rfl, hN, hb⟩ := hrel
    by_cases hlt : k < l.length
    · obtain ⟨b, off, rfl, hbs, hc⟩ := hcell (by intro h; subst h; simp at hlt)
      have ct := (hb.cell hbs).trans (hc k hlt)
      obtain ⟨t, ht⟩ : ∃ t, t = l.getD k 0 := ⟨_, rfl⟩
      rw [← ht] at ct
      have HT := Lib.hid ht
      have j0 : (0 : Int) ≤ (k : Int) := by omega
      have j1 : (k : Int) < (l.length : Int) := by omega
      clear ht hc hcell
      by_cases hp : (fun t => !isTime t) t = true
      · have HA := Lib.hid (any_of (p := (fun t => !isTime t)) hlt (HT.out ▸ hp))
        (try simp only [] at hp)
        clear hN
        go_wp2_with (go_at_call 30; refine (runf_any _ _).mono ?_; rintro e w1 ⟨rfl, rfl⟩)
        go_ret
        exact ⟨k, rfl, by rw [HA.out]; exact decide_eq_true (by omega), by omega, by omega, hb⟩
      · have hp' : (fun t => !isTime t) t = false := by simpa using hp
        have hN1 := hN.succ (HT.out ▸ hp')
        clear hN hp
        go_wp2_with (go_at_call 30; refine (runf_any _ _).mono ?_; rintro e w1 ⟨rfl, rfl⟩)
        go_round
        case rel => exact ⟨k + 1, by omega, by go_num, hN1, hb⟩
        case measure => simp [intOf]; omega
    · obtain rfl : k = l.length := by omega
      have HA := Lib.hid hN.any
      clear hN
      go_wp2
      go_ret
      exact ⟨-1, rfl, by rw [HA.out]; rfl, by omega, by omega, hb⟩

theorem idx_run_c (v : Value) (l : List Int) (w : World) (hr : Row w v l) : Calls Try.prog 10 #[v, .func (.func 30) #[] #[]] w fun e w' => e = .returned (.bool (l.any (fun t => !isTime t))) ∧ Below w.heap.size w w' := by
  go_enter Try.func10, Try.ntmps10
  go_wp2_with fail
  refine (idx_run _ _ _ hr).mono ?_
  rintro e w1 ⟨r, rfl, hr1, hr2, hr3, hb⟩
  have HR := Lib.hid hr1
  clear hr1
  go_wp2
  go_ret
  exact ⟨ret_b HR.out, hb⟩

theorem idx_shift (v : Value) (l : List Int) (w : World) (hr : Row w v l) : Calls Try.prog 28 #[v, .func (.func 11) #[] #[]] w (IdxPost early l w) := by
  obtain ⟨⟨a, cap, rfl, hlc, hcm, hcell⟩, hwf⟩ := hr
  unfold maxLen at hcm
  go_enter Try.func28, Try.ntmps28
  go_wp2
  go_loopw [8] (fun i wr => ∃ k : Nat, k ≤ l.length ∧ i = .int .i64 k ∧ NoneUpto early l k ∧ Below w.heap.size w wr) (fun i _ => l.length - (intOf i).toNat)
  case atStart => exact ⟨0, Nat.zero_le _, rfl, NoneUpto.zero _ _, Below.refl _ _⟩
  case round =>
    obtain ⟨k, hk, rfl, hN, hb⟩ := hrel
    by_cases hlt : k < l.length
    · obtain ⟨b, off, rfl, hbs, hc⟩ := hcell (by intro h; subst h; simp at hlt)
      have ct := (hb.cell hbs).trans (hc k hlt)
      obtain ⟨t, ht⟩ : ∃ t, t = l.getD k 0 := ⟨_, rfl⟩
      rw [← ht] at ct
      have HT := Lib.hid ht
      have j0 : (0 : Int) ≤ (k : Int) := by omega
      have j1 : (k : Int) < (l.length : Int) := by omega
      clear ht hc hcell
      by_cases hp : early t = true
      · have HA := Lib.hid (any_of (p := early) hlt (HT.out ▸ hp))
        (try simp only [] at hp)
        clear hN
        go_wp2_with (go_at_call 11; refine (shiftf_any _ _).mono ?_; rintro e w1 ⟨rfl, rfl⟩)
        go_ret
        exact ⟨k, rfl, by rw [HA.out]; exact decide_eq_true (by omega), by omega, by omega, hb⟩
      · have hp' : early t = false := by simpa using hp
        have hN1 := hN.succ (HT.out ▸ hp')
        clear hN hp
        go_wp2_with (go_at_call 11; refine (shiftf_any _ _).mono ?_; rintro e w1 ⟨rfl, rfl⟩)
        go_round
        case rel => exact ⟨k + 1, by omega, by go_num, hN1, hb⟩
        case measure => simp [intOf]; omega
    · obtain rfl : k = l.length := by omega
      have HA := Lib.hid hN.any
      clear hN
      go_wp2
      go_ret
      exact ⟨-1, rfl, by rw [HA.out]; rfl, by omega, by omega, hb⟩

theorem idx_shift_c (v : Value) (l : List Int) (w : World) (hr : Row w v l) : Calls Try.prog 10 #[v, .func (.func 11) #[] #[]] w fun e w' => e = .returned (.bool (l.any early)) ∧ Below w.heap.size w w' := by
  go_enter Try.func10, Try.ntmps10
  go_wp2_with fail
  refine (idx_shift _ _ _ hr).mono ?_
  rintro e w1 ⟨r, rfl, hr1, hr2, hr3, hb⟩
  have HR := Lib.hid hr1
  clear hr1
  go_wp2
  go_ret
  exact ⟨ret_b HR.out, hb⟩

end Go.Proofs.Ytcaadikffaflnaa
