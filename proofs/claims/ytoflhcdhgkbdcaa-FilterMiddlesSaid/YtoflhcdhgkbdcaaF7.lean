/- Filters: the middles of windows. -/
import Derived.Test.YtoflhcdhgkbdcaaF6
import Derived.Test.YtoflhcdhgkbdcaaSi
namespace Go.Proofs.Ytoflhcdhgkbdcaa
set_option linter.unusedVariables false
set_option linter.unusedSimpArgs false
open Go.RowKit

def lowL (l : List Int) : Int := l.foldl min (l.getD 0 0)
def highL (l : List Int) : Int := l.foldl max (l.getD 0 0)
theorem foldl_min_le : ∀ (l : List Int) (a : Int), l.foldl min a ≤ a ∧ ∀ x ∈ l, l.foldl min a ≤ x
  | [], a => by simp
  | y :: l, a => by
    obtain ⟨h1, h2⟩ := foldl_min_le l (min a y)
    simp only [List.foldl_cons]
    refine ⟨by omega, fun x hx => ?_⟩
    rcases List.mem_cons.1 hx with rfl | hx
    · omega
    · exact h2 x hx
theorem foldl_max_ge : ∀ (l : List Int) (a : Int), a ≤ l.foldl max a ∧ ∀ x ∈ l, x ≤ l.foldl max a
  | [], a => by simp
  | y :: l, a => by
    obtain ⟨h1, h2⟩ := foldl_max_ge l (max a y)
    simp only [List.foldl_cons]
    refine ⟨by omega, fun x hx => ?_⟩
    rcases List.mem_cons.1 hx with rfl | hx
    · omega
    · exact h2 x hx
theorem lsum_lo {lo : Int} : ∀ {l : List Int}, (∀ x ∈ l, lo ≤ x) → lo * (l.length : Int) ≤ lsum l
  | [], _ => by simp [lsum]
  | y :: l, h => by
    have h1 := h y (by simp)
    have h2 := lsum_lo (l := l) (fun x hx => h x (by simp [hx]))
    have e : lsum (y :: l) = y + lsum l := by simp [lsum]
    rw [e, List.length_cons, Int.natCast_add, Int.mul_add]
    omega
theorem lsum_hi {hi : Int} : ∀ {l : List Int}, (∀ x ∈ l, x ≤ hi) → lsum l ≤ hi * (l.length : Int)
  | [], _ => by simp [lsum]
  | y :: l, h => by
    have h1 := h y (by simp)
    have h2 := lsum_hi (l := l) (fun x hx => h x (by simp [hx]))
    have e : lsum (y :: l) = y + lsum l := by simp [lsum]
    rw [e, List.length_cons, Int.natCast_add, Int.mul_add]
    omega
theorem avg_mid {l : List Int} (h : 1 ≤ l.length) : lowL l ≤ lsum l / (l.length : Int) ∧ lsum l / (l.length : Int) ≤ highL l := by
  constructor
  · refine Int.le_ediv_of_mul_le (by omega) (lsum_lo (fun x hx => (foldl_min_le l _).2 x hx))
  · refine Int.ediv_le_of_le_mul (by omega) (lsum_hi (fun x hx => (foldl_max_ge l _).2 x hx))
theorem count_more (l : List Int) (v : Int) : l.countP (fun z => decide (v < z)) + l.countP (fun z => decide (z ≤ v)) = l.length := by
  induction l with
  | nil => rfl
  | cons x r ih =>
    simp only [List.countP_cons, List.length_cons]
    by_cases h1 : x ≤ v
    · have h2 : ¬ v < x := by omega
      simp [h1, h2]; omega
    · have h2 : v < x := by omega
      simp [h1, h2]; omega
theorem med_half {l : List Int} (h : 1 ≤ l.length) : 2 * l.countP (fun z => decide (z < med l)) ≤ l.length ∧ 2 * l.countP (fun z => decide (med l < z)) ≤ l.length := by
  obtain ⟨_, h2, h3⟩ := med_is h
  rw [count_le] at h3
  have := count_more l (med l)
  omega
theorem mid_add {n i : Int} {l lw : List Int} (hi : 0 ≤ i) (hl : i < l.length) (h1 : 1 ≤ n) (hw : lw = (l.take i.toNat).drop (i - n).toNat) (he : addE n lw (l.getD i.toNat 0) = 0) :
    addL n lw (l.getD i.toNat 0) = (l.take (i + 1).toNat).drop (i + 1 - n).toNat := by
  have hlen : (l.take i.toNat).length = i.toNat := by rw [List.length_take]; omega
  have e : lw ++ [l.getD i.toNat 0] = (l.take (i + 1).toNat).drop (i - n).toNat := by
    rw [show (i + 1).toNat = i.toNat + 1 by omega, take_succ_getD _ _ (by omega), hw, List.drop_append_of_le_length (by omega)]
  have hlw : lw.length = i.toNat - (i - n).toNat := by rw [hw, List.length_drop, hlen]
  unfold addL
  rw [if_pos he, e]
  by_cases hc : n ≤ (lw.length : Int)
  · rw [if_pos hc, List.drop_drop]
    congr 1
    omega
  · rw [if_neg hc]
    congr 1
    omega
def smin_res (l : List Int) : CRes := ⟨[decide (1 ≤ l.length), decide (l.length ≤ 1000000)], .one (.cel (.int .i64 (lowL l))), []⟩
def smin_go : List TV → List RowA → Option CRes := fun args rows =>
  match args, rows with
  | [.cel (.row 0)], [.ints .i64 l] => some (smin_res l)
  | _, _ => none
def smin_e : Ent := ⟨38, [.ints .i64 []], smin_go⟩
def smin_L1_F (l : List Int) (i : Int) (m : Int) : St := ⟨25, [], [(4, (.one (.cel (.int .i64 i)))), (3, (.one (.cel (.int .i64 m)))), (2, (.one (.cel (.int .i64 (0 : Int))))), (0, (.one (.cel (.row 0))))], [], [⟨(.ints .i64 l), none⟩]⟩
def smin_L1_I (l : List Int) (i : Int) (m : Int) : Prop := (1 ≤ i ∧ i ≤ l.length ∧ (l.length : Int) ≤ 1000000) ∧ (m = (l.take i.toNat).foldl min (l.getD 0 0))
def smin_L1_m (l : List Int) (i : Int) (m : Int) : Nat := (l.length - i).toNat
def smin_L1_N (l : List Int) (i' : Int) (m' : Int) (st_ : St) : Prop := getI st_ 4 fun i => getI st_ 3 fun m => smin_L1_I l i m ∧ smin_L1_m l i m < smin_L1_m l i' m' ∧ SubA st_ (smin_L1_F l i m)
def smin_L1_E (l : List Int) (st_ : St) : Prop := getI st_ 4 fun i => getI st_ 3 fun m => smin_L1_I l i m ∧ SubA st_ (smin_L1_F l i m)
def smin_L1_S1 (l : List Int) : St := ⟨25, [], [(4, (.one (.cel (.int .i64 (1 : Int))))), (3, (.one (.cel (.int .i64 (List.getD l (Int.toNat (0 : Int)) (0 : Int)))))), (11, (.one (.cel (.int .i64 (List.getD l (Int.toNat (0 : Int)) (0 : Int)))))), (10, (.one (.cel (.elt 0 (0 : Int) 1 0)))), (9, (.one (.cel (.row 0)))), (7, (.one (.cel (.bool (decide ((((List.length l) : Nat) : Int) < (1 : Int))))))), (6, (.one (.cel (.int .i64 (((List.length l) : Nat) : Int))))), (5, (.one (.cel (.row 0)))), (2, (.one (.cel (.int .i64 (0 : Int))))), (0, (.one (.cel (.row 0))))], [], [⟨(.ints .i64 l), none⟩]⟩
def smin_L1_T (l : List Int) (i : Int) (m : Int) : Prop := (cnd (decide (i < (((List.length l) : Nat) : Int)))
  (cnd (decide ((0 : Int) ≤ i))
    (cnd (decide (i < (((List.length l) : Nat) : Int)))
      ((smin_L1_I l (Go.IntKind.wrap Go.IntKind.i64 (i + (1 : Int))) (gmin m (List.getD l (Int.toNat i) (0 : Int)))) ∧ (((smin_L1_m l (Go.IntKind.wrap Go.IntKind.i64 (i + (1 : Int))) (gmin m (List.getD l (Int.toNat i) (0 : Int)))) < (smin_L1_m l i m)) ∧ (((Go.IntKind.wrap Go.IntKind.i64 (i + (1 : Int))) = (Go.IntKind.wrap Go.IntKind.i64 (i + (1 : Int)))) ∧ (((gmin m (List.getD l (Int.toNat i) (0 : Int))) = (gmin m (List.getD l (Int.toNat i) (0 : Int)))) ∧ (((0 : Int) = (0 : Int)) ∧ (True ∧ ((l = l) ∧ True)))))))
      False)
    False)
  (m = (lowL l)))
set_option maxRecDepth 100000 in
theorem smin_L1_tree (l : List Int) (i : Int) (m : Int) : smin_L1_T l i m = ex Try.prog (conOf []) (subC (bodyOf Try.f38) [1, 1, 1, 0, 1, 0, 0]) (nextE (smin_L1_N l i m) (kont Try.prog (conOf []) (bodyOf Try.f38) [1, 1, 1, 0, 1, 0] (retPost Try.prog Try.f38 1 (smin_res l)))) (smin_L1_F l i m) := by kernel_rfl
set_option maxRecDepth 100000 in
theorem smin_L1_round (l : List Int) (i : Int) (m : Int) (p0 : decide (1 ≤ l.length) = true) (p1 : decide (l.length ≤ 1000000) = true) (hI_L1 : smin_L1_I l i m) : smin_L1_T l i m := by
  obtain ⟨⟨a1, a2, a3⟩, a4⟩ := hI_L1
  unfold smin_L1_T
  rw [w64 (n := i + 1) (by omega) (by omega)]
  by_cases hl : i < l.length
  · have j1 : decide (0 ≤ i) = true := by rw [decide_eq_true_eq]; omega
    simp only [hl, decide_true, j1, cnd]
    refine ⟨⟨⟨by omega, by omega, a3⟩, ?_⟩, ?_, by simp⟩
    · rw [show (i + 1).toNat = i.toNat + 1 by omega, take_succ_getD _ _ (by omega), List.foldl_append, ← a4, gmin_eq]
      rfl
    · unfold smin_L1_m
      omega
  · rw [List.take_of_length_le (by omega)] at a4
    simp only [hl, decide_false, cnd]
    exact a4
set_option maxRecDepth 100000 in
theorem smin_L1_entry1 (l : List Int) : (((smin_L1_I l (1 : Int) (List.getD l (Int.toNat (0 : Int)) (0 : Int))) ∧ (((1 : Int) = (1 : Int)) ∧ (((List.getD l (Int.toNat (0 : Int)) (0 : Int)) = (List.getD l (Int.toNat (0 : Int)) (0 : Int))) ∧ (((0 : Int) = (0 : Int)) ∧ (True ∧ ((l = l) ∧ True))))))) = smin_L1_E l (smin_L1_S1 l) := by kernel_rfl
theorem smin_L1_1 (l : List Int) (p0 : decide (1 ≤ l.length) = true) (p1 : decide (l.length ≤ 1000000) = true) (h : ((smin_L1_I l (1 : Int) (List.getD l (Int.toNat (0 : Int)) (0 : Int))) ∧ (((1 : Int) = (1 : Int)) ∧ (((List.getD l (Int.toNat (0 : Int)) (0 : Int)) = (List.getD l (Int.toNat (0 : Int)) (0 : Int))) ∧ (((0 : Int) = (0 : Int)) ∧ (True ∧ ((l = l) ∧ True))))))) : LoopP (ex Try.prog (conOf []) (subC (bodyOf Try.f38) [1, 1, 1, 0, 1, 0, 0])) (kont Try.prog (conOf []) (bodyOf Try.f38) [1, 1, 1, 0, 1, 0] (retPost Try.prog Try.f38 1 (smin_res l))) (smin_L1_S1 l) := by
  have hE : smin_L1_E l (smin_L1_S1 l) := Eq.mp (smin_L1_entry1 l) h
  unfold smin_L1_E at hE
  obtain ⟨i, hE⟩ := getI_of hE
  obtain ⟨m, hE⟩ := getI_of hE
  refine loop_of (α := (Int) × (Int)) (fun xx_ => smin_L1_F l xx_.1 xx_.2) (fun xx_ => smin_L1_I l xx_.1 xx_.2) (fun xx_ => smin_L1_m l xx_.1 xx_.2) (fun xx_ => smin_L1_N l xx_.1 xx_.2) (fun xx_ => smin_L1_T l xx_.1 xx_.2) (fun xx_ s_ h => ?_) ⟨⟨i, m⟩, hE⟩ (fun xx_ => smin_L1_tree l xx_.1 xx_.2) (fun xx_ hI => smin_L1_round l xx_.1 xx_.2 p0 p1 hI)
  unfold smin_L1_N at h
  obtain ⟨i, h⟩ := getI_of h
  obtain ⟨m, h⟩ := getI_of h
  exact ⟨⟨i, m⟩, h⟩
set_option maxRecDepth 100000 in
theorem smin_tree (l : List Int) : ((cnd (decide ((((List.length l) : Nat) : Int) < (1 : Int)))
  False
  (cnd (decide ((0 : Int) < (((List.length l) : Nat) : Int)))
    (LoopP (ex Try.prog (conOf []) (subC (bodyOf Try.f38) [1, 1, 1, 0, 1, 0, 0])) (kont Try.prog (conOf []) (bodyOf Try.f38) [1, 1, 1, 0, 1, 0] (retPost Try.prog Try.f38 1 (smin_res l))) (smin_L1_S1 l))
    False))) = EXD Try.prog (conOf []) Try.f38 [.cel (.row 0)] [.ints .i64 l] (smin_res l) := by kernel_rfl
theorem smin_holds (l : List Int) (p0 : decide (1 ≤ l.length) = true) (p1 : decide (l.length ≤ 1000000) = true) : (cnd (decide ((((List.length l) : Nat) : Int) < (1 : Int)))
  False
  (cnd (decide ((0 : Int) < (((List.length l) : Nat) : Int)))
    (LoopP (ex Try.prog (conOf []) (subC (bodyOf Try.f38) [1, 1, 1, 0, 1, 0, 0])) (kont Try.prog (conOf []) (bodyOf Try.f38) [1, 1, 1, 0, 1, 0] (retPost Try.prog Try.f38 1 (smin_res l))) (smin_L1_S1 l))
    False)) := by
  have q0 := p0
  have q1 := p1
  simp only [decide_eq_true_eq] at p0 p1
  have j1 : decide (((l.length : Nat) : Int) < 1) = false := by rw [decide_eq_false_iff_not]; omega
  have j2 : decide ((0 : Int) < ((l.length : Nat) : Int)) = true := by rw [decide_eq_true_eq]; omega
  rw [j1, j2]
  refine smin_L1_1 l q0 q1 ⟨⟨⟨by omega, by omega, by omega⟩, ?_⟩, by simp⟩
  rw [show (1 : Int).toNat = 0 + 1 from rfl, take_succ_getD _ _ (by omega)]
  simp
set_option maxHeartbeats 2000000 in
theorem smin_ok : SoundEnt Try.prog smin_e := by
  refine ent_of_ex (Γ := (conOf [])) (conOf_sound snil) (by kernel_rfl) Try.func38 (by kernel_rfl) (by kernel_rfl) (fun args rows res h ho => ?_)
  change smin_go args rows = some res at h
  unfold smin_go at h
  split at h
  · simp only [Option.some.injEq] at h
    subst h
    rename_i q0_
    obtain ⟨p0, p1, _⟩ := ho
    exact EX.of (smin_tree q0_) (smin_holds q0_ p0 p1)
  · cases h
def smax_res (l : List Int) : CRes := ⟨[decide (1 ≤ l.length), decide (l.length ≤ 1000000)], .one (.cel (.int .i64 (highL l))), []⟩
def smax_go : List TV → List RowA → Option CRes := fun args rows =>
  match args, rows with
  | [.cel (.row 0)], [.ints .i64 l] => some (smax_res l)
  | _, _ => none
def smax_e : Ent := ⟨39, [.ints .i64 []], smax_go⟩
def smax_L1_F (l : List Int) (i : Int) (m : Int) : St := ⟨25, [], [(4, (.one (.cel (.int .i64 i)))), (3, (.one (.cel (.int .i64 m)))), (2, (.one (.cel (.int .i64 (0 : Int))))), (0, (.one (.cel (.row 0))))], [], [⟨(.ints .i64 l), none⟩]⟩
def smax_L1_I (l : List Int) (i : Int) (m : Int) : Prop := (1 ≤ i ∧ i ≤ l.length ∧ (l.length : Int) ≤ 1000000) ∧ (m = (l.take i.toNat).foldl max (l.getD 0 0))
def smax_L1_m (l : List Int) (i : Int) (m : Int) : Nat := (l.length - i).toNat
def smax_L1_N (l : List Int) (i' : Int) (m' : Int) (st_ : St) : Prop := getI st_ 4 fun i => getI st_ 3 fun m => smax_L1_I l i m ∧ smax_L1_m l i m < smax_L1_m l i' m' ∧ SubA st_ (smax_L1_F l i m)
def smax_L1_E (l : List Int) (st_ : St) : Prop := getI st_ 4 fun i => getI st_ 3 fun m => smax_L1_I l i m ∧ SubA st_ (smax_L1_F l i m)
def smax_L1_S1 (l : List Int) : St := ⟨25, [], [(4, (.one (.cel (.int .i64 (1 : Int))))), (3, (.one (.cel (.int .i64 (List.getD l (Int.toNat (0 : Int)) (0 : Int)))))), (11, (.one (.cel (.int .i64 (List.getD l (Int.toNat (0 : Int)) (0 : Int)))))), (10, (.one (.cel (.elt 0 (0 : Int) 1 0)))), (9, (.one (.cel (.row 0)))), (7, (.one (.cel (.bool (decide ((((List.length l) : Nat) : Int) < (1 : Int))))))), (6, (.one (.cel (.int .i64 (((List.length l) : Nat) : Int))))), (5, (.one (.cel (.row 0)))), (2, (.one (.cel (.int .i64 (0 : Int))))), (0, (.one (.cel (.row 0))))], [], [⟨(.ints .i64 l), none⟩]⟩
def smax_L1_T (l : List Int) (i : Int) (m : Int) : Prop := (cnd (decide (i < (((List.length l) : Nat) : Int)))
  (cnd (decide ((0 : Int) ≤ i))
    (cnd (decide (i < (((List.length l) : Nat) : Int)))
      ((smax_L1_I l (Go.IntKind.wrap Go.IntKind.i64 (i + (1 : Int))) (gmax m (List.getD l (Int.toNat i) (0 : Int)))) ∧ (((smax_L1_m l (Go.IntKind.wrap Go.IntKind.i64 (i + (1 : Int))) (gmax m (List.getD l (Int.toNat i) (0 : Int)))) < (smax_L1_m l i m)) ∧ (((Go.IntKind.wrap Go.IntKind.i64 (i + (1 : Int))) = (Go.IntKind.wrap Go.IntKind.i64 (i + (1 : Int)))) ∧ (((gmax m (List.getD l (Int.toNat i) (0 : Int))) = (gmax m (List.getD l (Int.toNat i) (0 : Int)))) ∧ (((0 : Int) = (0 : Int)) ∧ (True ∧ ((l = l) ∧ True)))))))
      False)
    False)
  (m = (highL l)))
set_option maxRecDepth 100000 in
theorem smax_L1_tree (l : List Int) (i : Int) (m : Int) : smax_L1_T l i m = ex Try.prog (conOf []) (subC (bodyOf Try.f39) [1, 1, 1, 0, 1, 0, 0]) (nextE (smax_L1_N l i m) (kont Try.prog (conOf []) (bodyOf Try.f39) [1, 1, 1, 0, 1, 0] (retPost Try.prog Try.f39 1 (smax_res l)))) (smax_L1_F l i m) := by kernel_rfl
set_option maxRecDepth 100000 in
theorem smax_L1_round (l : List Int) (i : Int) (m : Int) (p0 : decide (1 ≤ l.length) = true) (p1 : decide (l.length ≤ 1000000) = true) (hI_L1 : smax_L1_I l i m) : smax_L1_T l i m := by
  obtain ⟨⟨a1, a2, a3⟩, a4⟩ := hI_L1
  unfold smax_L1_T
  rw [w64 (n := i + 1) (by omega) (by omega)]
  by_cases hl : i < l.length
  · have j1 : decide (0 ≤ i) = true := by rw [decide_eq_true_eq]; omega
    simp only [hl, decide_true, j1, cnd]
    refine ⟨⟨⟨by omega, by omega, a3⟩, ?_⟩, ?_, by simp⟩
    · rw [show (i + 1).toNat = i.toNat + 1 by omega, take_succ_getD _ _ (by omega), List.foldl_append, ← a4, gmax_eq]
      rfl
    · unfold smax_L1_m
      omega
  · rw [List.take_of_length_le (by omega)] at a4
    simp only [hl, decide_false, cnd]
    exact a4
set_option maxRecDepth 100000 in
theorem smax_L1_entry1 (l : List Int) : (((smax_L1_I l (1 : Int) (List.getD l (Int.toNat (0 : Int)) (0 : Int))) ∧ (((1 : Int) = (1 : Int)) ∧ (((List.getD l (Int.toNat (0 : Int)) (0 : Int)) = (List.getD l (Int.toNat (0 : Int)) (0 : Int))) ∧ (((0 : Int) = (0 : Int)) ∧ (True ∧ ((l = l) ∧ True))))))) = smax_L1_E l (smax_L1_S1 l) := by kernel_rfl
theorem smax_L1_1 (l : List Int) (p0 : decide (1 ≤ l.length) = true) (p1 : decide (l.length ≤ 1000000) = true) (h : ((smax_L1_I l (1 : Int) (List.getD l (Int.toNat (0 : Int)) (0 : Int))) ∧ (((1 : Int) = (1 : Int)) ∧ (((List.getD l (Int.toNat (0 : Int)) (0 : Int)) = (List.getD l (Int.toNat (0 : Int)) (0 : Int))) ∧ (((0 : Int) = (0 : Int)) ∧ (True ∧ ((l = l) ∧ True))))))) : LoopP (ex Try.prog (conOf []) (subC (bodyOf Try.f39) [1, 1, 1, 0, 1, 0, 0])) (kont Try.prog (conOf []) (bodyOf Try.f39) [1, 1, 1, 0, 1, 0] (retPost Try.prog Try.f39 1 (smax_res l))) (smax_L1_S1 l) := by
  have hE : smax_L1_E l (smax_L1_S1 l) := Eq.mp (smax_L1_entry1 l) h
  unfold smax_L1_E at hE
  obtain ⟨i, hE⟩ := getI_of hE
  obtain ⟨m, hE⟩ := getI_of hE
  refine loop_of (α := (Int) × (Int)) (fun xx_ => smax_L1_F l xx_.1 xx_.2) (fun xx_ => smax_L1_I l xx_.1 xx_.2) (fun xx_ => smax_L1_m l xx_.1 xx_.2) (fun xx_ => smax_L1_N l xx_.1 xx_.2) (fun xx_ => smax_L1_T l xx_.1 xx_.2) (fun xx_ s_ h => ?_) ⟨⟨i, m⟩, hE⟩ (fun xx_ => smax_L1_tree l xx_.1 xx_.2) (fun xx_ hI => smax_L1_round l xx_.1 xx_.2 p0 p1 hI)
  unfold smax_L1_N at h
  obtain ⟨i, h⟩ := getI_of h
  obtain ⟨m, h⟩ := getI_of h
  exact ⟨⟨i, m⟩, h⟩
set_option maxRecDepth 100000 in
theorem smax_tree (l : List Int) : ((cnd (decide ((((List.length l) : Nat) : Int) < (1 : Int)))
  False
  (cnd (decide ((0 : Int) < (((List.length l) : Nat) : Int)))
    (LoopP (ex Try.prog (conOf []) (subC (bodyOf Try.f39) [1, 1, 1, 0, 1, 0, 0])) (kont Try.prog (conOf []) (bodyOf Try.f39) [1, 1, 1, 0, 1, 0] (retPost Try.prog Try.f39 1 (smax_res l))) (smax_L1_S1 l))
    False))) = EXD Try.prog (conOf []) Try.f39 [.cel (.row 0)] [.ints .i64 l] (smax_res l) := by kernel_rfl
theorem smax_holds (l : List Int) (p0 : decide (1 ≤ l.length) = true) (p1 : decide (l.length ≤ 1000000) = true) : (cnd (decide ((((List.length l) : Nat) : Int) < (1 : Int)))
  False
  (cnd (decide ((0 : Int) < (((List.length l) : Nat) : Int)))
    (LoopP (ex Try.prog (conOf []) (subC (bodyOf Try.f39) [1, 1, 1, 0, 1, 0, 0])) (kont Try.prog (conOf []) (bodyOf Try.f39) [1, 1, 1, 0, 1, 0] (retPost Try.prog Try.f39 1 (smax_res l))) (smax_L1_S1 l))
    False)) := by
  have q0 := p0
  have q1 := p1
  simp only [decide_eq_true_eq] at p0 p1
  have j1 : decide (((l.length : Nat) : Int) < 1) = false := by rw [decide_eq_false_iff_not]; omega
  have j2 : decide ((0 : Int) < ((l.length : Nat) : Int)) = true := by rw [decide_eq_true_eq]; omega
  rw [j1, j2]
  refine smax_L1_1 l q0 q1 ⟨⟨⟨by omega, by omega, by omega⟩, ?_⟩, by simp⟩
  rw [show (1 : Int).toNat = 0 + 1 from rfl, take_succ_getD _ _ (by omega)]
  simp
set_option maxHeartbeats 2000000 in
theorem smax_ok : SoundEnt Try.prog smax_e := by
  refine ent_of_ex (Γ := (conOf [])) (conOf_sound snil) (by kernel_rfl) Try.func39 (by kernel_rfl) (by kernel_rfl) (fun args rows res h ho => ?_)
  change smax_go args rows = some res at h
  unfold smax_go at h
  split at h
  · simp only [Option.some.injEq] at h
    subst h
    rename_i q0_
    obtain ⟨p0, p1, _⟩ := ho
    exact EX.of (smax_tree q0_) (smax_holds q0_ p0 p1)
  · cases h
def middles_res (n : Int) (l : List Int) : CRes := ⟨[wfI .u8 n, wfL .i64 l], .one (.cel (.bool (true))), []⟩
def middles_go : List TV → List RowA → Option CRes := fun args rows =>
  match args, rows with
  | [.cel (.int .u8 n), .cel (.row 0)], [.ints .i64 l] => some (middles_res n l)
  | _, _ => none
def middles_e : Ent := ⟨12, [.ints .i64 []], middles_go⟩
def middles_L1_F (n : Int) (l : List Int) (i : Int) (nw : Int) (nv : Int) (lw : List Int) (lv : List Int) : St := ⟨127, [], [(33, (.one (.cel (.int .i64 i)))), (32, (.one (.cel (.int .i64 (((List.length l) : Nat) : Int))))), (31, (.one (.cel (.row 0)))), (6, (.one (.cel (.ptr 1 0)))), (5, (.one (.cel (.ptr 0 0)))), (4, (.one (.cel (.bool Bool.false)))), (1, (.one (.cel (.row 0))))], [[(.int .i64 nw), (.row 1)], [(.int .i64 nv), (.row 2)]], [⟨(.ints .i64 l), none⟩, ⟨(.ints .i64 lw), none⟩, ⟨(.ints .i64 lv), none⟩]⟩
def middles_L1_I (n : Int) (l : List Int) (i : Int) (nw : Int) (nv : Int) (lw : List Int) (lv : List Int) : Prop := (0 ≤ i ∧ i ≤ l.length ∧ (l.length : Int) ≤ 40) ∧ (nw = nv ∧ lw = lv ∧ 1 ≤ nw ∧ nw ≤ 15) ∧ (lw = (l.take i.toNat).drop (i - nw).toNat)
def middles_L1_m (n : Int) (l : List Int) (i : Int) (nw : Int) (nv : Int) (lw : List Int) (lv : List Int) : Nat := (l.length - i).toNat
def middles_L1_N (n : Int) (l : List Int) (i' : Int) (nw' : Int) (nv' : Int) (lw' : List Int) (lv' : List Int) (st_ : St) : Prop := getI st_ 33 fun i => getCI st_ 0 0 fun nw => getCI st_ 1 0 fun nv => getCR st_ 0 1 fun lw => getCR st_ 1 1 fun lv => middles_L1_I n l i nw nv lw lv ∧ middles_L1_m n l i nw nv lw lv < middles_L1_m n l i' nw' nv' lw' lv' ∧ SubA st_ (middles_L1_F n l i nw nv lw lv)
def middles_L1_E (n : Int) (l : List Int) (st_ : St) : Prop := getI st_ 33 fun i => getCI st_ 0 0 fun nw => getCI st_ 1 0 fun nv => getCR st_ 0 1 fun lw => getCR st_ 1 1 fun lv => middles_L1_I n l i nw nv lw lv ∧ SubA st_ (middles_L1_F n l i nw nv lw lv)
def middles_L1_S1 (n : Int) (l : List Int) : St := ⟨127, [], [(33, (.one (.cel (.int .i64 (0 : Int))))), (32, (.one (.cel (.int .i64 (((List.length l) : Nat) : Int))))), (31, (.one (.cel (.row 0)))), (6, (.one (.cel (.ptr 1 0)))), (30, (.one (.agg [(.int .i64 (Go.IntKind.wrap Go.IntKind.i64 ((Int.tmod (Go.IntKind.wrap Go.IntKind.i64 n) (15 : Int)) + (1 : Int)))), .nilS]))), (5, (.one (.cel (.ptr 0 0)))), (29, (.one (.agg [(.int .i64 (Go.IntKind.wrap Go.IntKind.i64 ((Int.tmod (Go.IntKind.wrap Go.IntKind.i64 n) (15 : Int)) + (1 : Int)))), .nilS]))), (28, (.one (.cel (.int .i64 (Go.IntKind.wrap Go.IntKind.i64 ((Int.tmod (Go.IntKind.wrap Go.IntKind.i64 n) (15 : Int)) + (1 : Int))))))), (27, (.one (.cel (.int .i64 (Int.tmod (Go.IntKind.wrap Go.IntKind.i64 n) (15 : Int)))))), (26, (.one (.cel (.int .i64 (Go.IntKind.wrap Go.IntKind.i64 n))))), (25, (.one (.cel (.int .u8 n)))), (24, (.one (.cel (.bool (decide ((40 : Int) < (((List.length l) : Nat) : Int))))))), (23, (.one (.cel (.int .i64 (((List.length l) : Nat) : Int))))), (22, (.one (.cel (.row 0)))), (21, (.one (.cel (.bool (!Bool.true))))), (20, (.one (.cel (.bool Bool.true)))), (4, (.one (.cel (.bool Bool.false)))), (0, (.one (.cel (.int .u8 n)))), (1, (.one (.cel (.row 0))))], [[(.int .i64 (Go.IntKind.wrap Go.IntKind.i64 ((Int.tmod (Go.IntKind.wrap Go.IntKind.i64 n) (15 : Int)) + (1 : Int)))), .nilS], [(.int .i64 (Go.IntKind.wrap Go.IntKind.i64 ((Int.tmod (Go.IntKind.wrap Go.IntKind.i64 n) (15 : Int)) + (1 : Int)))), .nilS]], [⟨(.ints .i64 l), none⟩]⟩
def middles_L2_F (n : Int) (l : List Int) (i : Int) (nw : Int) (nv : Int) (lw : List Int) (lv : List Int) (k : Int) (ls : Int) (mr : Int) : St := ⟨127, [], [(99, (.one (.cel (.int .i64 k)))), (98, (.one (.cel (.int .i64 (((List.length (List.drop (Int.toNat (gmax (0 : Int) (Go.IntKind.wrap Go.IntKind.i64 ((Go.IntKind.wrap Go.IntKind.i64 (i + (1 : Int))) - (addN nw lw (List.getD l (Int.toNat i) (0 : Int))))))) (List.take (Int.toNat (Go.IntKind.wrap Go.IntKind.i64 (i + (1 : Int)))) l))) : Nat) : Int))))), (97, (.one (.cel (.row 5)))), (17, (.one (.cel (.int .i64 mr)))), (16, (.one (.cel (.int .i64 ls)))), (13, (.one (.cel (.row 5)))), (10, (.one (.cel (.int .i64 (medV nv lv (List.getD l (Int.toNat i) (0 : Int))))))), (45, (.tup [(.agg [(.int .i64 (addN nv lv (List.getD l (Int.toNat i) (0 : Int)))), (.row 4)]), (.cel (.int .i64 (medV nv lv (List.getD l (Int.toNat i) (0 : Int))))), (.cel (.int .i64 (addE nv lv (List.getD l (Int.toNat i) (0 : Int)))))])), (48, (.tup [(.agg [(.int .i64 (addN nv lv (List.getD l (Int.toNat i) (0 : Int)))), (.row 4)]), (.cel (.int .i64 (medV nv lv (List.getD l (Int.toNat i) (0 : Int))))), (.cel (.int .i64 (addE nv lv (List.getD l (Int.toNat i) (0 : Int)))))])), (38, (.tup [(.agg [(.int .i64 (addN nw lw (List.getD l (Int.toNat i) (0 : Int)))), (.row 3)]), (.cel (.int .i64 (avg nw lw (List.getD l (Int.toNat i) (0 : Int))))), (.cel (.int .i64 (addE nw lw (List.getD l (Int.toNat i) (0 : Int)))))])), (41, (.tup [(.agg [(.int .i64 (addN nw lw (List.getD l (Int.toNat i) (0 : Int)))), (.row 3)]), (.cel (.int .i64 (avg nw lw (List.getD l (Int.toNat i) (0 : Int))))), (.cel (.int .i64 (addE nw lw (List.getD l (Int.toNat i) (0 : Int)))))])), (33, (.one (.cel (.int .i64 i)))), (32, (.one (.cel (.int .i64 (((List.length l) : Nat) : Int))))), (31, (.one (.cel (.row 0)))), (6, (.one (.cel (.ptr 1 0)))), (5, (.one (.cel (.ptr 0 0)))), (4, (.one (.cel (.bool Bool.false)))), (1, (.one (.cel (.row 0))))], [[(.int .i64 (addN nw lw (List.getD l (Int.toNat i) (0 : Int)))), (.row 3)], [(.int .i64 (addN nv lv (List.getD l (Int.toNat i) (0 : Int)))), (.row 4)]], [⟨(.ints .i64 l), none⟩, ⟨(.ints .i64 lw), none⟩, ⟨(.ints .i64 lv), none⟩, ⟨(.ints .i64 (addL nw lw (List.getD l (Int.toNat i) (0 : Int)))), none⟩, ⟨(.ints .i64 (addL nv lv (List.getD l (Int.toNat i) (0 : Int)))), none⟩, ⟨(.ints .i64 (List.drop (Int.toNat (gmax (0 : Int) (Go.IntKind.wrap Go.IntKind.i64 ((Go.IntKind.wrap Go.IntKind.i64 (i + (1 : Int))) - (addN nw lw (List.getD l (Int.toNat i) (0 : Int))))))) (List.take (Int.toNat (Go.IntKind.wrap Go.IntKind.i64 (i + (1 : Int)))) l))), none⟩]⟩
def middles_L2_I (n : Int) (l : List Int) (i : Int) (nw : Int) (nv : Int) (lw : List Int) (lv : List Int) (k : Int) (ls : Int) (mr : Int) : Prop := (0 ≤ k ∧ k ≤ (addL nw lw (l.getD i.toNat 0)).length) ∧ (ls = ((addL nw lw (l.getD i.toNat 0)).take k.toNat).countP (fun z => decide (z < med (addL nw lw (l.getD i.toNat 0)))) ∧ mr = ((addL nw lw (l.getD i.toNat 0)).take k.toNat).countP (fun z => decide (med (addL nw lw (l.getD i.toNat 0)) < z))) ∧ (addE nw lw (l.getD i.toNat 0) = 0 ∧ i < l.length)
def middles_L2_m (n : Int) (l : List Int) (i : Int) (nw : Int) (nv : Int) (lw : List Int) (lv : List Int) (k : Int) (ls : Int) (mr : Int) : Nat := ((addL nw lw (l.getD i.toNat 0)).length - k).toNat
def middles_L2_N (n : Int) (l : List Int) (i : Int) (nw : Int) (nv : Int) (lw : List Int) (lv : List Int) (k' : Int) (ls' : Int) (mr' : Int) (st_ : St) : Prop := getI st_ 99 fun k => getI st_ 16 fun ls => getI st_ 17 fun mr => middles_L2_I n l i nw nv lw lv k ls mr ∧ middles_L2_m n l i nw nv lw lv k ls mr < middles_L2_m n l i nw nv lw lv k' ls' mr' ∧ SubA st_ (middles_L2_F n l i nw nv lw lv k ls mr)
def middles_L2_E (n : Int) (l : List Int) (i : Int) (nw : Int) (nv : Int) (lw : List Int) (lv : List Int) (st_ : St) : Prop := getI st_ 99 fun k => getI st_ 16 fun ls => getI st_ 17 fun mr => middles_L2_I n l i nw nv lw lv k ls mr ∧ SubA st_ (middles_L2_F n l i nw nv lw lv k ls mr)
def middles_L2_S1 (n : Int) (l : List Int) (i : Int) (nw : Int) (nv : Int) (lw : List Int) (lv : List Int) : St := ⟨127, [91, 86, 72], [(99, (.one (.cel (.int .i64 (0 : Int))))), (98, (.one (.cel (.int .i64 (((List.length (List.drop (Int.toNat (gmax (0 : Int) (Go.IntKind.wrap Go.IntKind.i64 ((Go.IntKind.wrap Go.IntKind.i64 (i + (1 : Int))) - (addN nw lw (List.getD l (Int.toNat i) (0 : Int))))))) (List.take (Int.toNat (Go.IntKind.wrap Go.IntKind.i64 (i + (1 : Int)))) l))) : Nat) : Int))))), (97, (.one (.cel (.row 5)))), (17, (.one (.cel (.int .i64 (0 : Int))))), (16, (.one (.cel (.int .i64 (0 : Int))))), (96, (.one (.cel (.bool (((decide ((avg nw lw (List.getD l (Int.toNat i) (0 : Int))) < (lowL (List.drop (Int.toNat (gmax (0 : Int) (Go.IntKind.wrap Go.IntKind.i64 ((Go.IntKind.wrap Go.IntKind.i64 (i + (1 : Int))) - (addN nw lw (List.getD l (Int.toNat i) (0 : Int))))))) (List.take (Int.toNat (Go.IntKind.wrap Go.IntKind.i64 (i + (1 : Int)))) l))))) || (decide ((highL (List.drop (Int.toNat (gmax (0 : Int) (Go.IntKind.wrap Go.IntKind.i64 ((Go.IntKind.wrap Go.IntKind.i64 (i + (1 : Int))) - (addN nw lw (List.getD l (Int.toNat i) (0 : Int))))))) (List.take (Int.toNat (Go.IntKind.wrap Go.IntKind.i64 (i + (1 : Int)))) l))) < (avg nw lw (List.getD l (Int.toNat i) (0 : Int)))))) || (!(hasV (medV nv lv (List.getD l (Int.toNat i) (0 : Int))) (List.drop (Int.toNat (gmax (0 : Int) (Go.IntKind.wrap Go.IntKind.i64 ((Go.IntKind.wrap Go.IntKind.i64 (i + (1 : Int))) - (addN nw lw (List.getD l (Int.toNat i) (0 : Int))))))) (List.take (Int.toNat (Go.IntKind.wrap Go.IntKind.i64 (i + (1 : Int)))) l))))))))), (95, (.spec 91 Bool.false (.cel (.bool (!(hasV (medV nv lv (List.getD l (Int.toNat i) (0 : Int))) (List.drop (Int.toNat (gmax (0 : Int) (Go.IntKind.wrap Go.IntKind.i64 ((Go.IntKind.wrap Go.IntKind.i64 (i + (1 : Int))) - (addN nw lw (List.getD l (Int.toNat i) (0 : Int))))))) (List.take (Int.toNat (Go.IntKind.wrap Go.IntKind.i64 (i + (1 : Int)))) l)))))))), (94, (.spec 91 Bool.false (.cel (.bool (hasV (medV nv lv (List.getD l (Int.toNat i) (0 : Int))) (List.drop (Int.toNat (gmax (0 : Int) (Go.IntKind.wrap Go.IntKind.i64 ((Go.IntKind.wrap Go.IntKind.i64 (i + (1 : Int))) - (addN nw lw (List.getD l (Int.toNat i) (0 : Int))))))) (List.take (Int.toNat (Go.IntKind.wrap Go.IntKind.i64 (i + (1 : Int)))) l))))))), (93, (.spec 91 Bool.false (.cel (.int .i64 (medV nv lv (List.getD l (Int.toNat i) (0 : Int))))))), (92, (.spec 91 Bool.false (.cel (.row 5)))), (91, (.one (.cel (.bool ((decide ((avg nw lw (List.getD l (Int.toNat i) (0 : Int))) < (lowL (List.drop (Int.toNat (gmax (0 : Int) (Go.IntKind.wrap Go.IntKind.i64 ((Go.IntKind.wrap Go.IntKind.i64 (i + (1 : Int))) - (addN nw lw (List.getD l (Int.toNat i) (0 : Int))))))) (List.take (Int.toNat (Go.IntKind.wrap Go.IntKind.i64 (i + (1 : Int)))) l))))) || (decide ((highL (List.drop (Int.toNat (gmax (0 : Int) (Go.IntKind.wrap Go.IntKind.i64 ((Go.IntKind.wrap Go.IntKind.i64 (i + (1 : Int))) - (addN nw lw (List.getD l (Int.toNat i) (0 : Int))))))) (List.take (Int.toNat (Go.IntKind.wrap Go.IntKind.i64 (i + (1 : Int)))) l))) < (avg nw lw (List.getD l (Int.toNat i) (0 : Int)))))))))), (90, (.one (.cel (.bool ((decide ((avg nw lw (List.getD l (Int.toNat i) (0 : Int))) < (lowL (List.drop (Int.toNat (gmax (0 : Int) (Go.IntKind.wrap Go.IntKind.i64 ((Go.IntKind.wrap Go.IntKind.i64 (i + (1 : Int))) - (addN nw lw (List.getD l (Int.toNat i) (0 : Int))))))) (List.take (Int.toNat (Go.IntKind.wrap Go.IntKind.i64 (i + (1 : Int)))) l))))) || (decide ((highL (List.drop (Int.toNat (gmax (0 : Int) (Go.IntKind.wrap Go.IntKind.i64 ((Go.IntKind.wrap Go.IntKind.i64 (i + (1 : Int))) - (addN nw lw (List.getD l (Int.toNat i) (0 : Int))))))) (List.take (Int.toNat (Go.IntKind.wrap Go.IntKind.i64 (i + (1 : Int)))) l))) < (avg nw lw (List.getD l (Int.toNat i) (0 : Int)))))))))), (89, (.spec 86 Bool.false (.cel (.bool (decide ((highL (List.drop (Int.toNat (gmax (0 : Int) (Go.IntKind.wrap Go.IntKind.i64 ((Go.IntKind.wrap Go.IntKind.i64 (i + (1 : Int))) - (addN nw lw (List.getD l (Int.toNat i) (0 : Int))))))) (List.take (Int.toNat (Go.IntKind.wrap Go.IntKind.i64 (i + (1 : Int)))) l))) < (avg nw lw (List.getD l (Int.toNat i) (0 : Int))))))))), (88, (.spec 86 Bool.false (.cel (.int .i64 (highL (List.drop (Int.toNat (gmax (0 : Int) (Go.IntKind.wrap Go.IntKind.i64 ((Go.IntKind.wrap Go.IntKind.i64 (i + (1 : Int))) - (addN nw lw (List.getD l (Int.toNat i) (0 : Int))))))) (List.take (Int.toNat (Go.IntKind.wrap Go.IntKind.i64 (i + (1 : Int)))) l))))))), (87, (.spec 86 Bool.false (.cel (.int .i64 (avg nw lw (List.getD l (Int.toNat i) (0 : Int))))))), (86, (.one (.cel (.bool (decide ((avg nw lw (List.getD l (Int.toNat i) (0 : Int))) < (lowL (List.drop (Int.toNat (gmax (0 : Int) (Go.IntKind.wrap Go.IntKind.i64 ((Go.IntKind.wrap Go.IntKind.i64 (i + (1 : Int))) - (addN nw lw (List.getD l (Int.toNat i) (0 : Int))))))) (List.take (Int.toNat (Go.IntKind.wrap Go.IntKind.i64 (i + (1 : Int)))) l))))))))), (85, (.one (.cel (.bool (decide ((avg nw lw (List.getD l (Int.toNat i) (0 : Int))) < (lowL (List.drop (Int.toNat (gmax (0 : Int) (Go.IntKind.wrap Go.IntKind.i64 ((Go.IntKind.wrap Go.IntKind.i64 (i + (1 : Int))) - (addN nw lw (List.getD l (Int.toNat i) (0 : Int))))))) (List.take (Int.toNat (Go.IntKind.wrap Go.IntKind.i64 (i + (1 : Int)))) l))))))))), (84, (.one (.cel (.int .i64 (lowL (List.drop (Int.toNat (gmax (0 : Int) (Go.IntKind.wrap Go.IntKind.i64 ((Go.IntKind.wrap Go.IntKind.i64 (i + (1 : Int))) - (addN nw lw (List.getD l (Int.toNat i) (0 : Int))))))) (List.take (Int.toNat (Go.IntKind.wrap Go.IntKind.i64 (i + (1 : Int)))) l))))))), (83, (.one (.cel (.int .i64 (avg nw lw (List.getD l (Int.toNat i) (0 : Int))))))), (15, (.one (.cel (.int .i64 (highL (List.drop (Int.toNat (gmax (0 : Int) (Go.IntKind.wrap Go.IntKind.i64 ((Go.IntKind.wrap Go.IntKind.i64 (i + (1 : Int))) - (addN nw lw (List.getD l (Int.toNat i) (0 : Int))))))) (List.take (Int.toNat (Go.IntKind.wrap Go.IntKind.i64 (i + (1 : Int)))) l))))))), (14, (.one (.cel (.int .i64 (lowL (List.drop (Int.toNat (gmax (0 : Int) (Go.IntKind.wrap Go.IntKind.i64 ((Go.IntKind.wrap Go.IntKind.i64 (i + (1 : Int))) - (addN nw lw (List.getD l (Int.toNat i) (0 : Int))))))) (List.take (Int.toNat (Go.IntKind.wrap Go.IntKind.i64 (i + (1 : Int)))) l))))))), (82, (.one (.cel (.int .i64 (highL (List.drop (Int.toNat (gmax (0 : Int) (Go.IntKind.wrap Go.IntKind.i64 ((Go.IntKind.wrap Go.IntKind.i64 (i + (1 : Int))) - (addN nw lw (List.getD l (Int.toNat i) (0 : Int))))))) (List.take (Int.toNat (Go.IntKind.wrap Go.IntKind.i64 (i + (1 : Int)))) l))))))), (81, (.one (.cel (.row 5)))), (80, (.one (.cel (.int .i64 (lowL (List.drop (Int.toNat (gmax (0 : Int) (Go.IntKind.wrap Go.IntKind.i64 ((Go.IntKind.wrap Go.IntKind.i64 (i + (1 : Int))) - (addN nw lw (List.getD l (Int.toNat i) (0 : Int))))))) (List.take (Int.toNat (Go.IntKind.wrap Go.IntKind.i64 (i + (1 : Int)))) l))))))), (79, (.one (.cel (.row 5)))), (78, (.one (.cel (.bool ((!(decide ((addL nw lw (List.getD l (Int.toNat i) (0 : Int))) = (List.drop (Int.toNat (gmax (0 : Int) (Go.IntKind.wrap Go.IntKind.i64 ((Go.IntKind.wrap Go.IntKind.i64 (i + (1 : Int))) - (addN nw lw (List.getD l (Int.toNat i) (0 : Int))))))) (List.take (Int.toNat (Go.IntKind.wrap Go.IntKind.i64 (i + (1 : Int)))) l))))) || (!(decide ((addL nv lv (List.getD l (Int.toNat i) (0 : Int))) = (List.drop (Int.toNat (gmax (0 : Int) (Go.IntKind.wrap Go.IntKind.i64 ((Go.IntKind.wrap Go.IntKind.i64 (i + (1 : Int))) - (addN nw lw (List.getD l (Int.toNat i) (0 : Int))))))) (List.take (Int.toNat (Go.IntKind.wrap Go.IntKind.i64 (i + (1 : Int)))) l)))))))))), (77, (.spec 72 Bool.false (.cel (.bool (!(decide ((addL nv lv (List.getD l (Int.toNat i) (0 : Int))) = (List.drop (Int.toNat (gmax (0 : Int) (Go.IntKind.wrap Go.IntKind.i64 ((Go.IntKind.wrap Go.IntKind.i64 (i + (1 : Int))) - (addN nw lw (List.getD l (Int.toNat i) (0 : Int))))))) (List.take (Int.toNat (Go.IntKind.wrap Go.IntKind.i64 (i + (1 : Int)))) l))))))))), (76, (.spec 72 Bool.false (.cel (.bool (decide ((addL nv lv (List.getD l (Int.toNat i) (0 : Int))) = (List.drop (Int.toNat (gmax (0 : Int) (Go.IntKind.wrap Go.IntKind.i64 ((Go.IntKind.wrap Go.IntKind.i64 (i + (1 : Int))) - (addN nw lw (List.getD l (Int.toNat i) (0 : Int))))))) (List.take (Int.toNat (Go.IntKind.wrap Go.IntKind.i64 (i + (1 : Int)))) l)))))))), (75, (.spec 72 Bool.false (.cel (.row 5)))), (74, (.spec 72 Bool.false (.cel (.row 4)))), (73, (.spec 72 Bool.false (.cel (.ptr 1 1)))), (72, (.one (.cel (.bool (!(decide ((addL nw lw (List.getD l (Int.toNat i) (0 : Int))) = (List.drop (Int.toNat (gmax (0 : Int) (Go.IntKind.wrap Go.IntKind.i64 ((Go.IntKind.wrap Go.IntKind.i64 (i + (1 : Int))) - (addN nw lw (List.getD l (Int.toNat i) (0 : Int))))))) (List.take (Int.toNat (Go.IntKind.wrap Go.IntKind.i64 (i + (1 : Int)))) l))))))))), (71, (.one (.cel (.bool (!(decide ((addL nw lw (List.getD l (Int.toNat i) (0 : Int))) = (List.drop (Int.toNat (gmax (0 : Int) (Go.IntKind.wrap Go.IntKind.i64 ((Go.IntKind.wrap Go.IntKind.i64 (i + (1 : Int))) - (addN nw lw (List.getD l (Int.toNat i) (0 : Int))))))) (List.take (Int.toNat (Go.IntKind.wrap Go.IntKind.i64 (i + (1 : Int)))) l))))))))), (70, (.one (.cel (.bool (decide ((addL nw lw (List.getD l (Int.toNat i) (0 : Int))) = (List.drop (Int.toNat (gmax (0 : Int) (Go.IntKind.wrap Go.IntKind.i64 ((Go.IntKind.wrap Go.IntKind.i64 (i + (1 : Int))) - (addN nw lw (List.getD l (Int.toNat i) (0 : Int))))))) (List.take (Int.toNat (Go.IntKind.wrap Go.IntKind.i64 (i + (1 : Int)))) l)))))))), (69, (.one (.cel (.row 5)))), (68, (.one (.cel (.row 3)))), (67, (.one (.cel (.ptr 0 1)))), (13, (.one (.cel (.row 5)))), (66, (.one (.cel (.row 5)))), (65, (.one (.cel (.int .i64 (Go.IntKind.wrap Go.IntKind.i64 (i + (1 : Int))))))), (64, (.one (.cel (.int .i64 i)))), (63, (.one (.cel (.int .i64 (gmax (0 : Int) (Go.IntKind.wrap Go.IntKind.i64 ((Go.IntKind.wrap Go.IntKind.i64 (i + (1 : Int))) - (addN nw lw (List.getD l (Int.toNat i) (0 : Int)))))))))), (62, (.one (.cel (.int .i64 (Go.IntKind.wrap Go.IntKind.i64 ((Go.IntKind.wrap Go.IntKind.i64 (i + (1 : Int))) - (addN nw lw (List.getD l (Int.toNat i) (0 : Int))))))))), (61, (.one (.cel (.int .i64 (addN nw lw (List.getD l (Int.toNat i) (0 : Int))))))), (60, (.one (.cel (.ptr 0 0)))), (59, (.one (.cel (.int .i64 (Go.IntKind.wrap Go.IntKind.i64 (i + (1 : Int))))))), (58, (.one (.cel (.int .i64 i)))), (57, (.one (.cel (.row 0)))), (56, (.one (.cel (.bool (!(decide ((addE nw lw (List.getD l (Int.toNat i) (0 : Int))) = (0 : Int)))))))), (55, (.one (.cel (.int .i64 (addE nw lw (List.getD l (Int.toNat i) (0 : Int))))))), (54, (.one (.cel (.bool (!(decide ((addE nw lw (List.getD l (Int.toNat i) (0 : Int))) = (addE nv lv (List.getD l (Int.toNat i) (0 : Int)))))))))), (53, (.one (.cel (.int .i64 (addE nv lv (List.getD l (Int.toNat i) (0 : Int))))))), (52, (.one (.cel (.int .i64 (addE nw lw (List.getD l (Int.toNat i) (0 : Int))))))), (12, (.one (.cel (.int .i64 (addE nv lv (List.getD l (Int.toNat i) (0 : Int))))))), (10, (.one (.cel (.int .i64 (medV nv lv (List.getD l (Int.toNat i) (0 : Int))))))), (51, (.one (.cel (.int .i64 (addE nv lv (List.getD l (Int.toNat i) (0 : Int))))))), (50, (.one (.cel (.int .i64 (medV nv lv (List.getD l (Int.toNat i) (0 : Int))))))), (49, (.one (.agg [(.int .i64 (addN nv lv (List.getD l (Int.toNat i) (0 : Int)))), (.row 4)]))), (45, (.tup [(.agg [(.int .i64 (addN nv lv (List.getD l (Int.toNat i) (0 : Int)))), (.row 4)]), (.cel (.int .i64 (medV nv lv (List.getD l (Int.toNat i) (0 : Int))))), (.cel (.int .i64 (addE nv lv (List.getD l (Int.toNat i) (0 : Int)))))])), (48, (.tup [(.agg [(.int .i64 (addN nv lv (List.getD l (Int.toNat i) (0 : Int)))), (.row 4)]), (.cel (.int .i64 (medV nv lv (List.getD l (Int.toNat i) (0 : Int))))), (.cel (.int .i64 (addE nv lv (List.getD l (Int.toNat i) (0 : Int)))))])), (47, (.one (.cel (.int .i64 (List.getD l (Int.toNat i) (0 : Int)))))), (46, (.one (.agg [(.int .i64 nv), (.row 2)]))), (11, (.one (.cel (.int .i64 (addE nw lw (List.getD l (Int.toNat i) (0 : Int))))))), (9, (.one (.cel (.int .i64 (avg nw lw (List.getD l (Int.toNat i) (0 : Int))))))), (44, (.one (.cel (.int .i64 (addE nw lw (List.getD l (Int.toNat i) (0 : Int))))))), (43, (.one (.cel (.int .i64 (avg nw lw (List.getD l (Int.toNat i) (0 : Int))))))), (42, (.one (.agg [(.int .i64 (addN nw lw (List.getD l (Int.toNat i) (0 : Int)))), (.row 3)]))), (38, (.tup [(.agg [(.int .i64 (addN nw lw (List.getD l (Int.toNat i) (0 : Int)))), (.row 3)]), (.cel (.int .i64 (avg nw lw (List.getD l (Int.toNat i) (0 : Int))))), (.cel (.int .i64 (addE nw lw (List.getD l (Int.toNat i) (0 : Int)))))])), (41, (.tup [(.agg [(.int .i64 (addN nw lw (List.getD l (Int.toNat i) (0 : Int)))), (.row 3)]), (.cel (.int .i64 (avg nw lw (List.getD l (Int.toNat i) (0 : Int))))), (.cel (.int .i64 (addE nw lw (List.getD l (Int.toNat i) (0 : Int)))))])), (40, (.one (.cel (.int .i64 (List.getD l (Int.toNat i) (0 : Int)))))), (39, (.one (.agg [(.int .i64 nw), (.row 1)]))), (12, (.one (.cel (.int .i64 (0 : Int))))), (11, (.one (.cel (.int .i64 (0 : Int))))), (10, (.one (.cel (.int .i64 (0 : Int))))), (9, (.one (.cel (.int .i64 (0 : Int))))), (8, (.one (.cel (.int .i64 (List.getD l (Int.toNat i) (0 : Int)))))), (7, (.one (.cel (.int .i64 i)))), (37, (.one (.cel (.int .i64 (List.getD l (Int.toNat i) (0 : Int)))))), (36, (.one (.cel (.elt 0 i 1 0)))), (35, (.one (.cel (.int .i64 i)))), (34, (.one (.cel (.bool (decide (i < (((List.length l) : Nat) : Int))))))), (33, (.one (.cel (.int .i64 i)))), (32, (.one (.cel (.int .i64 (((List.length l) : Nat) : Int))))), (31, (.one (.cel (.row 0)))), (6, (.one (.cel (.ptr 1 0)))), (5, (.one (.cel (.ptr 0 0)))), (4, (.one (.cel (.bool Bool.false)))), (1, (.one (.cel (.row 0))))], [[(.int .i64 (addN nw lw (List.getD l (Int.toNat i) (0 : Int)))), (.row 3)], [(.int .i64 (addN nv lv (List.getD l (Int.toNat i) (0 : Int)))), (.row 4)]], [⟨(.ints .i64 l), none⟩, ⟨(.ints .i64 lw), none⟩, ⟨(.ints .i64 lv), none⟩, ⟨(.ints .i64 (addL nw lw (List.getD l (Int.toNat i) (0 : Int)))), none⟩, ⟨(.ints .i64 (addL nv lv (List.getD l (Int.toNat i) (0 : Int)))), none⟩, ⟨(.ints .i64 (List.drop (Int.toNat (gmax (0 : Int) (Go.IntKind.wrap Go.IntKind.i64 ((Go.IntKind.wrap Go.IntKind.i64 (i + (1 : Int))) - (addN nw lw (List.getD l (Int.toNat i) (0 : Int))))))) (List.take (Int.toNat (Go.IntKind.wrap Go.IntKind.i64 (i + (1 : Int)))) l))), none⟩]⟩
def middles_L2_T (n : Int) (l : List Int) (i : Int) (nw : Int) (nv : Int) (lw : List Int) (lv : List Int) (k : Int) (ls : Int) (mr : Int) : Prop := (cnd (decide (k < (((List.length (List.drop (Int.toNat (gmax (0 : Int) (Go.IntKind.wrap Go.IntKind.i64 ((Go.IntKind.wrap Go.IntKind.i64 (i + (1 : Int))) - (addN nw lw (List.getD l (Int.toNat i) (0 : Int))))))) (List.take (Int.toNat (Go.IntKind.wrap Go.IntKind.i64 (i + (1 : Int)))) l))) : Nat) : Int)))
  (cnd (decide ((0 : Int) ≤ k))
    (cnd (decide (k < (((List.length (List.drop (Int.toNat (gmax (0 : Int) (Go.IntKind.wrap Go.IntKind.i64 ((Go.IntKind.wrap Go.IntKind.i64 (i + (1 : Int))) - (addN nw lw (List.getD l (Int.toNat i) (0 : Int))))))) (List.take (Int.toNat (Go.IntKind.wrap Go.IntKind.i64 (i + (1 : Int)))) l))) : Nat) : Int)))
      (cnd (decide ((List.getD (List.drop (Int.toNat (gmax (0 : Int) (Go.IntKind.wrap Go.IntKind.i64 ((Go.IntKind.wrap Go.IntKind.i64 (i + (1 : Int))) - (addN nw lw (List.getD l (Int.toNat i) (0 : Int))))))) (List.take (Int.toNat (Go.IntKind.wrap Go.IntKind.i64 (i + (1 : Int)))) l)) (Int.toNat k) (0 : Int)) < (medV nv lv (List.getD l (Int.toNat i) (0 : Int)))))
        (cnd (decide ((medV nv lv (List.getD l (Int.toNat i) (0 : Int))) < (List.getD (List.drop (Int.toNat (gmax (0 : Int) (Go.IntKind.wrap Go.IntKind.i64 ((Go.IntKind.wrap Go.IntKind.i64 (i + (1 : Int))) - (addN nw lw (List.getD l (Int.toNat i) (0 : Int))))))) (List.take (Int.toNat (Go.IntKind.wrap Go.IntKind.i64 (i + (1 : Int)))) l)) (Int.toNat k) (0 : Int))))
          ((middles_L2_I n l i nw nv lw lv (Go.IntKind.wrap Go.IntKind.i64 (k + (1 : Int))) (Go.IntKind.wrap Go.IntKind.i64 (ls + (1 : Int))) (Go.IntKind.wrap Go.IntKind.i64 (mr + (1 : Int)))) ∧ (((middles_L2_m n l i nw nv lw lv (Go.IntKind.wrap Go.IntKind.i64 (k + (1 : Int))) (Go.IntKind.wrap Go.IntKind.i64 (ls + (1 : Int))) (Go.IntKind.wrap Go.IntKind.i64 (mr + (1 : Int)))) < (middles_L2_m n l i nw nv lw lv k ls mr)) ∧ (((Go.IntKind.wrap Go.IntKind.i64 (k + (1 : Int))) = (Go.IntKind.wrap Go.IntKind.i64 (k + (1 : Int)))) ∧ (((((List.length (List.drop (Int.toNat (gmax (0 : Int) (Go.IntKind.wrap Go.IntKind.i64 ((Go.IntKind.wrap Go.IntKind.i64 (i + (1 : Int))) - (addN nw lw (List.getD l (Int.toNat i) (0 : Int))))))) (List.take (Int.toNat (Go.IntKind.wrap Go.IntKind.i64 (i + (1 : Int)))) l))) : Nat) : Int) = (((List.length (List.drop (Int.toNat (gmax (0 : Int) (Go.IntKind.wrap Go.IntKind.i64 ((Go.IntKind.wrap Go.IntKind.i64 (i + (1 : Int))) - (addN nw lw (List.getD l (Int.toNat i) (0 : Int))))))) (List.take (Int.toNat (Go.IntKind.wrap Go.IntKind.i64 (i + (1 : Int)))) l))) : Nat) : Int)) ∧ (True ∧ (((Go.IntKind.wrap Go.IntKind.i64 (mr + (1 : Int))) = (Go.IntKind.wrap Go.IntKind.i64 (mr + (1 : Int)))) ∧ (((Go.IntKind.wrap Go.IntKind.i64 (ls + (1 : Int))) = (Go.IntKind.wrap Go.IntKind.i64 (ls + (1 : Int)))) ∧ (True ∧ (((medV nv lv (List.getD l (Int.toNat i) (0 : Int))) = (medV nv lv (List.getD l (Int.toNat i) (0 : Int)))) ∧ (((((addN nv lv (List.getD l (Int.toNat i) (0 : Int))) = (addN nv lv (List.getD l (Int.toNat i) (0 : Int)))) ∧ True) ∧ (((medV nv lv (List.getD l (Int.toNat i) (0 : Int))) = (medV nv lv (List.getD l (Int.toNat i) (0 : Int)))) ∧ ((addE nv lv (List.getD l (Int.toNat i) (0 : Int))) = (addE nv lv (List.getD l (Int.toNat i) (0 : Int)))))) ∧ (((((addN nv lv (List.getD l (Int.toNat i) (0 : Int))) = (addN nv lv (List.getD l (Int.toNat i) (0 : Int)))) ∧ True) ∧ (((medV nv lv (List.getD l (Int.toNat i) (0 : Int))) = (medV nv lv (List.getD l (Int.toNat i) (0 : Int)))) ∧ ((addE nv lv (List.getD l (Int.toNat i) (0 : Int))) = (addE nv lv (List.getD l (Int.toNat i) (0 : Int)))))) ∧ (((((addN nw lw (List.getD l (Int.toNat i) (0 : Int))) = (addN nw lw (List.getD l (Int.toNat i) (0 : Int)))) ∧ True) ∧ (((avg nw lw (List.getD l (Int.toNat i) (0 : Int))) = (avg nw lw (List.getD l (Int.toNat i) (0 : Int)))) ∧ ((addE nw lw (List.getD l (Int.toNat i) (0 : Int))) = (addE nw lw (List.getD l (Int.toNat i) (0 : Int)))))) ∧ (((((addN nw lw (List.getD l (Int.toNat i) (0 : Int))) = (addN nw lw (List.getD l (Int.toNat i) (0 : Int)))) ∧ True) ∧ (((avg nw lw (List.getD l (Int.toNat i) (0 : Int))) = (avg nw lw (List.getD l (Int.toNat i) (0 : Int)))) ∧ ((addE nw lw (List.getD l (Int.toNat i) (0 : Int))) = (addE nw lw (List.getD l (Int.toNat i) (0 : Int)))))) ∧ ((i = i) ∧ (((((List.length l) : Nat) : Int) = (((List.length l) : Nat) : Int)) ∧ (True ∧ (True ∧ (True ∧ ((Bool.false = Bool.false) ∧ (True ∧ ((((addN nw lw (List.getD l (Int.toNat i) (0 : Int))) = (addN nw lw (List.getD l (Int.toNat i) (0 : Int)))) ∧ True) ∧ ((((addN nv lv (List.getD l (Int.toNat i) (0 : Int))) = (addN nv lv (List.getD l (Int.toNat i) (0 : Int)))) ∧ True) ∧ ((l = l) ∧ ((lw = lw) ∧ ((lv = lv) ∧ (((addL nw lw (List.getD l (Int.toNat i) (0 : Int))) = (addL nw lw (List.getD l (Int.toNat i) (0 : Int)))) ∧ (((addL nv lv (List.getD l (Int.toNat i) (0 : Int))) = (addL nv lv (List.getD l (Int.toNat i) (0 : Int)))) ∧ (((List.drop (Int.toNat (gmax (0 : Int) (Go.IntKind.wrap Go.IntKind.i64 ((Go.IntKind.wrap Go.IntKind.i64 (i + (1 : Int))) - (addN nw lw (List.getD l (Int.toNat i) (0 : Int))))))) (List.take (Int.toNat (Go.IntKind.wrap Go.IntKind.i64 (i + (1 : Int)))) l)) = (List.drop (Int.toNat (gmax (0 : Int) (Go.IntKind.wrap Go.IntKind.i64 ((Go.IntKind.wrap Go.IntKind.i64 (i + (1 : Int))) - (addN nw lw (List.getD l (Int.toNat i) (0 : Int))))))) (List.take (Int.toNat (Go.IntKind.wrap Go.IntKind.i64 (i + (1 : Int)))) l))) ∧ True))))))))))))))))))))))))))))
          ((middles_L2_I n l i nw nv lw lv (Go.IntKind.wrap Go.IntKind.i64 (k + (1 : Int))) (Go.IntKind.wrap Go.IntKind.i64 (ls + (1 : Int))) mr) ∧ (((middles_L2_m n l i nw nv lw lv (Go.IntKind.wrap Go.IntKind.i64 (k + (1 : Int))) (Go.IntKind.wrap Go.IntKind.i64 (ls + (1 : Int))) mr) < (middles_L2_m n l i nw nv lw lv k ls mr)) ∧ (((Go.IntKind.wrap Go.IntKind.i64 (k + (1 : Int))) = (Go.IntKind.wrap Go.IntKind.i64 (k + (1 : Int)))) ∧ (((((List.length (List.drop (Int.toNat (gmax (0 : Int) (Go.IntKind.wrap Go.IntKind.i64 ((Go.IntKind.wrap Go.IntKind.i64 (i + (1 : Int))) - (addN nw lw (List.getD l (Int.toNat i) (0 : Int))))))) (List.take (Int.toNat (Go.IntKind.wrap Go.IntKind.i64 (i + (1 : Int)))) l))) : Nat) : Int) = (((List.length (List.drop (Int.toNat (gmax (0 : Int) (Go.IntKind.wrap Go.IntKind.i64 ((Go.IntKind.wrap Go.IntKind.i64 (i + (1 : Int))) - (addN nw lw (List.getD l (Int.toNat i) (0 : Int))))))) (List.take (Int.toNat (Go.IntKind.wrap Go.IntKind.i64 (i + (1 : Int)))) l))) : Nat) : Int)) ∧ (True ∧ ((mr = mr) ∧ (((Go.IntKind.wrap Go.IntKind.i64 (ls + (1 : Int))) = (Go.IntKind.wrap Go.IntKind.i64 (ls + (1 : Int)))) ∧ (True ∧ (((medV nv lv (List.getD l (Int.toNat i) (0 : Int))) = (medV nv lv (List.getD l (Int.toNat i) (0 : Int)))) ∧ (((((addN nv lv (List.getD l (Int.toNat i) (0 : Int))) = (addN nv lv (List.getD l (Int.toNat i) (0 : Int)))) ∧ True) ∧ (((medV nv lv (List.getD l (Int.toNat i) (0 : Int))) = (medV nv lv (List.getD l (Int.toNat i) (0 : Int)))) ∧ ((addE nv lv (List.getD l (Int.toNat i) (0 : Int))) = (addE nv lv (List.getD l (Int.toNat i) (0 : Int)))))) ∧ (((((addN nv lv (List.getD l (Int.toNat i) (0 : Int))) = (addN nv lv (List.getD l (Int.toNat i) (0 : Int)))) ∧ True) ∧ (((medV nv lv (List.getD l (Int.toNat i) (0 : Int))) = (medV nv lv (List.getD l (Int.toNat i) (0 : Int)))) ∧ ((addE nv lv (List.getD l (Int.toNat i) (0 : Int))) = (addE nv lv (List.getD l (Int.toNat i) (0 : Int)))))) ∧ (((((addN nw lw (List.getD l (Int.toNat i) (0 : Int))) = (addN nw lw (List.getD l (Int.toNat i) (0 : Int)))) ∧ True) ∧ (((avg nw lw (List.getD l (Int.toNat i) (0 : Int))) = (avg nw lw (List.getD l (Int.toNat i) (0 : Int)))) ∧ ((addE nw lw (List.getD l (Int.toNat i) (0 : Int))) = (addE nw lw (List.getD l (Int.toNat i) (0 : Int)))))) ∧ (((((addN nw lw (List.getD l (Int.toNat i) (0 : Int))) = (addN nw lw (List.getD l (Int.toNat i) (0 : Int)))) ∧ True) ∧ (((avg nw lw (List.getD l (Int.toNat i) (0 : Int))) = (avg nw lw (List.getD l (Int.toNat i) (0 : Int)))) ∧ ((addE nw lw (List.getD l (Int.toNat i) (0 : Int))) = (addE nw lw (List.getD l (Int.toNat i) (0 : Int)))))) ∧ ((i = i) ∧ (((((List.length l) : Nat) : Int) = (((List.length l) : Nat) : Int)) ∧ (True ∧ (True ∧ (True ∧ ((Bool.false = Bool.false) ∧ (True ∧ ((((addN nw lw (List.getD l (Int.toNat i) (0 : Int))) = (addN nw lw (List.getD l (Int.toNat i) (0 : Int)))) ∧ True) ∧ ((((addN nv lv (List.getD l (Int.toNat i) (0 : Int))) = (addN nv lv (List.getD l (Int.toNat i) (0 : Int)))) ∧ True) ∧ ((l = l) ∧ ((lw = lw) ∧ ((lv = lv) ∧ (((addL nw lw (List.getD l (Int.toNat i) (0 : Int))) = (addL nw lw (List.getD l (Int.toNat i) (0 : Int)))) ∧ (((addL nv lv (List.getD l (Int.toNat i) (0 : Int))) = (addL nv lv (List.getD l (Int.toNat i) (0 : Int)))) ∧ (((List.drop (Int.toNat (gmax (0 : Int) (Go.IntKind.wrap Go.IntKind.i64 ((Go.IntKind.wrap Go.IntKind.i64 (i + (1 : Int))) - (addN nw lw (List.getD l (Int.toNat i) (0 : Int))))))) (List.take (Int.toNat (Go.IntKind.wrap Go.IntKind.i64 (i + (1 : Int)))) l)) = (List.drop (Int.toNat (gmax (0 : Int) (Go.IntKind.wrap Go.IntKind.i64 ((Go.IntKind.wrap Go.IntKind.i64 (i + (1 : Int))) - (addN nw lw (List.getD l (Int.toNat i) (0 : Int))))))) (List.take (Int.toNat (Go.IntKind.wrap Go.IntKind.i64 (i + (1 : Int)))) l))) ∧ True)))))))))))))))))))))))))))))
        (cnd (decide ((medV nv lv (List.getD l (Int.toNat i) (0 : Int))) < (List.getD (List.drop (Int.toNat (gmax (0 : Int) (Go.IntKind.wrap Go.IntKind.i64 ((Go.IntKind.wrap Go.IntKind.i64 (i + (1 : Int))) - (addN nw lw (List.getD l (Int.toNat i) (0 : Int))))))) (List.take (Int.toNat (Go.IntKind.wrap Go.IntKind.i64 (i + (1 : Int)))) l)) (Int.toNat k) (0 : Int))))
          ((middles_L2_I n l i nw nv lw lv (Go.IntKind.wrap Go.IntKind.i64 (k + (1 : Int))) ls (Go.IntKind.wrap Go.IntKind.i64 (mr + (1 : Int)))) ∧ (((middles_L2_m n l i nw nv lw lv (Go.IntKind.wrap Go.IntKind.i64 (k + (1 : Int))) ls (Go.IntKind.wrap Go.IntKind.i64 (mr + (1 : Int)))) < (middles_L2_m n l i nw nv lw lv k ls mr)) ∧ (((Go.IntKind.wrap Go.IntKind.i64 (k + (1 : Int))) = (Go.IntKind.wrap Go.IntKind.i64 (k + (1 : Int)))) ∧ (((((List.length (List.drop (Int.toNat (gmax (0 : Int) (Go.IntKind.wrap Go.IntKind.i64 ((Go.IntKind.wrap Go.IntKind.i64 (i + (1 : Int))) - (addN nw lw (List.getD l (Int.toNat i) (0 : Int))))))) (List.take (Int.toNat (Go.IntKind.wrap Go.IntKind.i64 (i + (1 : Int)))) l))) : Nat) : Int) = (((List.length (List.drop (Int.toNat (gmax (0 : Int) (Go.IntKind.wrap Go.IntKind.i64 ((Go.IntKind.wrap Go.IntKind.i64 (i + (1 : Int))) - (addN nw lw (List.getD l (Int.toNat i) (0 : Int))))))) (List.take (Int.toNat (Go.IntKind.wrap Go.IntKind.i64 (i + (1 : Int)))) l))) : Nat) : Int)) ∧ (True ∧ (((Go.IntKind.wrap Go.IntKind.i64 (mr + (1 : Int))) = (Go.IntKind.wrap Go.IntKind.i64 (mr + (1 : Int)))) ∧ ((ls = ls) ∧ (True ∧ (((medV nv lv (List.getD l (Int.toNat i) (0 : Int))) = (medV nv lv (List.getD l (Int.toNat i) (0 : Int)))) ∧ (((((addN nv lv (List.getD l (Int.toNat i) (0 : Int))) = (addN nv lv (List.getD l (Int.toNat i) (0 : Int)))) ∧ True) ∧ (((medV nv lv (List.getD l (Int.toNat i) (0 : Int))) = (medV nv lv (List.getD l (Int.toNat i) (0 : Int)))) ∧ ((addE nv lv (List.getD l (Int.toNat i) (0 : Int))) = (addE nv lv (List.getD l (Int.toNat i) (0 : Int)))))) ∧ (((((addN nv lv (List.getD l (Int.toNat i) (0 : Int))) = (addN nv lv (List.getD l (Int.toNat i) (0 : Int)))) ∧ True) ∧ (((medV nv lv (List.getD l (Int.toNat i) (0 : Int))) = (medV nv lv (List.getD l (Int.toNat i) (0 : Int)))) ∧ ((addE nv lv (List.getD l (Int.toNat i) (0 : Int))) = (addE nv lv (List.getD l (Int.toNat i) (0 : Int)))))) ∧ (((((addN nw lw (List.getD l (Int.toNat i) (0 : Int))) = (addN nw lw (List.getD l (Int.toNat i) (0 : Int)))) ∧ True) ∧ (((avg nw lw (List.getD l (Int.toNat i) (0 : Int))) = (avg nw lw (List.getD l (Int.toNat i) (0 : Int)))) ∧ ((addE nw lw (List.getD l (Int.toNat i) (0 : Int))) = (addE nw lw (List.getD l (Int.toNat i) (0 : Int)))))) ∧ (((((addN nw lw (List.getD l (Int.toNat i) (0 : Int))) = (addN nw lw (List.getD l (Int.toNat i) (0 : Int)))) ∧ True) ∧ (((avg nw lw (List.getD l (Int.toNat i) (0 : Int))) = (avg nw lw (List.getD l (Int.toNat i) (0 : Int)))) ∧ ((addE nw lw (List.getD l (Int.toNat i) (0 : Int))) = (addE nw lw (List.getD l (Int.toNat i) (0 : Int)))))) ∧ ((i = i) ∧ (((((List.length l) : Nat) : Int) = (((List.length l) : Nat) : Int)) ∧ (True ∧ (True ∧ (True ∧ ((Bool.false = Bool.false) ∧ (True ∧ ((((addN nw lw (List.getD l (Int.toNat i) (0 : Int))) = (addN nw lw (List.getD l (Int.toNat i) (0 : Int)))) ∧ True) ∧ ((((addN nv lv (List.getD l (Int.toNat i) (0 : Int))) = (addN nv lv (List.getD l (Int.toNat i) (0 : Int)))) ∧ True) ∧ ((l = l) ∧ ((lw = lw) ∧ ((lv = lv) ∧ (((addL nw lw (List.getD l (Int.toNat i) (0 : Int))) = (addL nw lw (List.getD l (Int.toNat i) (0 : Int)))) ∧ (((addL nv lv (List.getD l (Int.toNat i) (0 : Int))) = (addL nv lv (List.getD l (Int.toNat i) (0 : Int)))) ∧ (((List.drop (Int.toNat (gmax (0 : Int) (Go.IntKind.wrap Go.IntKind.i64 ((Go.IntKind.wrap Go.IntKind.i64 (i + (1 : Int))) - (addN nw lw (List.getD l (Int.toNat i) (0 : Int))))))) (List.take (Int.toNat (Go.IntKind.wrap Go.IntKind.i64 (i + (1 : Int)))) l)) = (List.drop (Int.toNat (gmax (0 : Int) (Go.IntKind.wrap Go.IntKind.i64 ((Go.IntKind.wrap Go.IntKind.i64 (i + (1 : Int))) - (addN nw lw (List.getD l (Int.toNat i) (0 : Int))))))) (List.take (Int.toNat (Go.IntKind.wrap Go.IntKind.i64 (i + (1 : Int)))) l))) ∧ True))))))))))))))))))))))))))))
          ((middles_L2_I n l i nw nv lw lv (Go.IntKind.wrap Go.IntKind.i64 (k + (1 : Int))) ls mr) ∧ (((middles_L2_m n l i nw nv lw lv (Go.IntKind.wrap Go.IntKind.i64 (k + (1 : Int))) ls mr) < (middles_L2_m n l i nw nv lw lv k ls mr)) ∧ (((Go.IntKind.wrap Go.IntKind.i64 (k + (1 : Int))) = (Go.IntKind.wrap Go.IntKind.i64 (k + (1 : Int)))) ∧ (((((List.length (List.drop (Int.toNat (gmax (0 : Int) (Go.IntKind.wrap Go.IntKind.i64 ((Go.IntKind.wrap Go.IntKind.i64 (i + (1 : Int))) - (addN nw lw (List.getD l (Int.toNat i) (0 : Int))))))) (List.take (Int.toNat (Go.IntKind.wrap Go.IntKind.i64 (i + (1 : Int)))) l))) : Nat) : Int) = (((List.length (List.drop (Int.toNat (gmax (0 : Int) (Go.IntKind.wrap Go.IntKind.i64 ((Go.IntKind.wrap Go.IntKind.i64 (i + (1 : Int))) - (addN nw lw (List.getD l (Int.toNat i) (0 : Int))))))) (List.take (Int.toNat (Go.IntKind.wrap Go.IntKind.i64 (i + (1 : Int)))) l))) : Nat) : Int)) ∧ (True ∧ ((mr = mr) ∧ ((ls = ls) ∧ (True ∧ (((medV nv lv (List.getD l (Int.toNat i) (0 : Int))) = (medV nv lv (List.getD l (Int.toNat i) (0 : Int)))) ∧ (((((addN nv lv (List.getD l (Int.toNat i) (0 : Int))) = (addN nv lv (List.getD l (Int.toNat i) (0 : Int)))) ∧ True) ∧ (((medV nv lv (List.getD l (Int.toNat i) (0 : Int))) = (medV nv lv (List.getD l (Int.toNat i) (0 : Int)))) ∧ ((addE nv lv (List.getD l (Int.toNat i) (0 : Int))) = (addE nv lv (List.getD l (Int.toNat i) (0 : Int)))))) ∧ (((((addN nv lv (List.getD l (Int.toNat i) (0 : Int))) = (addN nv lv (List.getD l (Int.toNat i) (0 : Int)))) ∧ True) ∧ (((medV nv lv (List.getD l (Int.toNat i) (0 : Int))) = (medV nv lv (List.getD l (Int.toNat i) (0 : Int)))) ∧ ((addE nv lv (List.getD l (Int.toNat i) (0 : Int))) = (addE nv lv (List.getD l (Int.toNat i) (0 : Int)))))) ∧ (((((addN nw lw (List.getD l (Int.toNat i) (0 : Int))) = (addN nw lw (List.getD l (Int.toNat i) (0 : Int)))) ∧ True) ∧ (((avg nw lw (List.getD l (Int.toNat i) (0 : Int))) = (avg nw lw (List.getD l (Int.toNat i) (0 : Int)))) ∧ ((addE nw lw (List.getD l (Int.toNat i) (0 : Int))) = (addE nw lw (List.getD l (Int.toNat i) (0 : Int)))))) ∧ (((((addN nw lw (List.getD l (Int.toNat i) (0 : Int))) = (addN nw lw (List.getD l (Int.toNat i) (0 : Int)))) ∧ True) ∧ (((avg nw lw (List.getD l (Int.toNat i) (0 : Int))) = (avg nw lw (List.getD l (Int.toNat i) (0 : Int)))) ∧ ((addE nw lw (List.getD l (Int.toNat i) (0 : Int))) = (addE nw lw (List.getD l (Int.toNat i) (0 : Int)))))) ∧ ((i = i) ∧ (((((List.length l) : Nat) : Int) = (((List.length l) : Nat) : Int)) ∧ (True ∧ (True ∧ (True ∧ ((Bool.false = Bool.false) ∧ (True ∧ ((((addN nw lw (List.getD l (Int.toNat i) (0 : Int))) = (addN nw lw (List.getD l (Int.toNat i) (0 : Int)))) ∧ True) ∧ ((((addN nv lv (List.getD l (Int.toNat i) (0 : Int))) = (addN nv lv (List.getD l (Int.toNat i) (0 : Int)))) ∧ True) ∧ ((l = l) ∧ ((lw = lw) ∧ ((lv = lv) ∧ (((addL nw lw (List.getD l (Int.toNat i) (0 : Int))) = (addL nw lw (List.getD l (Int.toNat i) (0 : Int)))) ∧ (((addL nv lv (List.getD l (Int.toNat i) (0 : Int))) = (addL nv lv (List.getD l (Int.toNat i) (0 : Int)))) ∧ (((List.drop (Int.toNat (gmax (0 : Int) (Go.IntKind.wrap Go.IntKind.i64 ((Go.IntKind.wrap Go.IntKind.i64 (i + (1 : Int))) - (addN nw lw (List.getD l (Int.toNat i) (0 : Int))))))) (List.take (Int.toNat (Go.IntKind.wrap Go.IntKind.i64 (i + (1 : Int)))) l)) = (List.drop (Int.toNat (gmax (0 : Int) (Go.IntKind.wrap Go.IntKind.i64 ((Go.IntKind.wrap Go.IntKind.i64 (i + (1 : Int))) - (addN nw lw (List.getD l (Int.toNat i) (0 : Int))))))) (List.take (Int.toNat (Go.IntKind.wrap Go.IntKind.i64 (i + (1 : Int)))) l))) ∧ True))))))))))))))))))))))))))))))
      False)
    False)
  (cnd ((decide ((((List.length (List.drop (Int.toNat (gmax (0 : Int) (Go.IntKind.wrap Go.IntKind.i64 ((Go.IntKind.wrap Go.IntKind.i64 (i + (1 : Int))) - (addN nw lw (List.getD l (Int.toNat i) (0 : Int))))))) (List.take (Int.toNat (Go.IntKind.wrap Go.IntKind.i64 (i + (1 : Int)))) l))) : Nat) : Int) < (Go.IntKind.wrap Go.IntKind.i64 ((2 : Int) * ls)))) || (decide ((((List.length (List.drop (Int.toNat (gmax (0 : Int) (Go.IntKind.wrap Go.IntKind.i64 ((Go.IntKind.wrap Go.IntKind.i64 (i + (1 : Int))) - (addN nw lw (List.getD l (Int.toNat i) (0 : Int))))))) (List.take (Int.toNat (Go.IntKind.wrap Go.IntKind.i64 (i + (1 : Int)))) l))) : Nat) : Int) < (Go.IntKind.wrap Go.IntKind.i64 ((2 : Int) * mr)))))
    (Bool.false = Bool.true)
    ((middles_L1_I n l (Go.IntKind.wrap Go.IntKind.i64 (i + (1 : Int))) (addN nw lw (List.getD l (Int.toNat i) (0 : Int))) (addN nv lv (List.getD l (Int.toNat i) (0 : Int))) (addL nw lw (List.getD l (Int.toNat i) (0 : Int))) (addL nv lv (List.getD l (Int.toNat i) (0 : Int)))) ∧ (((middles_L1_m n l (Go.IntKind.wrap Go.IntKind.i64 (i + (1 : Int))) (addN nw lw (List.getD l (Int.toNat i) (0 : Int))) (addN nv lv (List.getD l (Int.toNat i) (0 : Int))) (addL nw lw (List.getD l (Int.toNat i) (0 : Int))) (addL nv lv (List.getD l (Int.toNat i) (0 : Int)))) < (middles_L1_m n l i nw nv lw lv)) ∧ (((Go.IntKind.wrap Go.IntKind.i64 (i + (1 : Int))) = (Go.IntKind.wrap Go.IntKind.i64 (i + (1 : Int)))) ∧ (((((List.length l) : Nat) : Int) = (((List.length l) : Nat) : Int)) ∧ (True ∧ (True ∧ (True ∧ ((Bool.false = Bool.false) ∧ (True ∧ ((((addN nw lw (List.getD l (Int.toNat i) (0 : Int))) = (addN nw lw (List.getD l (Int.toNat i) (0 : Int)))) ∧ True) ∧ ((((addN nv lv (List.getD l (Int.toNat i) (0 : Int))) = (addN nv lv (List.getD l (Int.toNat i) (0 : Int)))) ∧ True) ∧ ((l = l) ∧ (((addL nw lw (List.getD l (Int.toNat i) (0 : Int))) = (addL nw lw (List.getD l (Int.toNat i) (0 : Int)))) ∧ (((addL nv lv (List.getD l (Int.toNat i) (0 : Int))) = (addL nv lv (List.getD l (Int.toNat i) (0 : Int)))) ∧ True))))))))))))))))
set_option maxRecDepth 100000 in
theorem middles_L2_tree (n : Int) (l : List Int) (i : Int) (nw : Int) (nv : Int) (lw : List Int) (lv : List Int) (k : Int) (ls : Int) (mr : Int) : middles_L2_T n l i nw nv lw lv k ls mr = ex Try.prog (conOf [awake_e, faverage_e, fmedian_e, sequal_e, smin_e, smax_e, scontains_e]) (subC (subC (bodyOf Try.f12) [1, 1, 1, 1, 1, 0, 1, 0, 0]) [1, 1, 0, 0, 1, 1, 1, 1, 1, 1, 1, 1, 1, 1, 1, 1, 0, 1, 0, 0]) (nextE (middles_L2_N n l i nw nv lw lv k ls mr) (kont Try.prog (conOf [awake_e, faverage_e, fmedian_e, sequal_e, smin_e, smax_e, scontains_e]) (subC (bodyOf Try.f12) [1, 1, 1, 1, 1, 0, 1, 0, 0]) [1, 1, 0, 0, 1, 1, 1, 1, 1, 1, 1, 1, 1, 1, 1, 1, 0, 1, 0] (nextE (middles_L1_N n l i nw nv lw lv) (kont Try.prog (conOf [awake_e, faverage_e, fmedian_e, sequal_e, smin_e, smax_e, scontains_e]) (bodyOf Try.f12) [1, 1, 1, 1, 1, 0, 1, 0] (retPost Try.prog Try.f12 1 (middles_res n l)))))) (middles_L2_F n l i nw nv lw lv k ls mr) := by kernel_rfl
set_option maxRecDepth 100000 in
theorem middles_L2_round (n : Int) (l : List Int) (i : Int) (nw : Int) (nv : Int) (lw : List Int) (lv : List Int) (k : Int) (ls : Int) (mr : Int) (p0 : wfI .u8 n = true) (p1 : wfL .i64 l = true) (hI_L1 : middles_L1_I n l i nw nv lw lv) (hI_L2 : middles_L2_I n l i nw nv lw lv k ls mr) : middles_L2_T n l i nw nv lw lv k ls mr := by
  have hI := hI_L1
  obtain ⟨⟨a1, a2, a3⟩, ⟨b1, b2, b3, b4⟩, c⟩ := hI_L1
  subst b1 b2
  obtain ⟨⟨c1, c2⟩, ⟨c3, c4⟩, he, hl⟩ := hI_L2
  have hn : addN nw lw (l.getD i.toNat 0) = nw := if_pos he
  obtain ⟨e1, e2, e3⟩ := addL_len he
  have hA := mid_add a1 hl b3 c he
  have hd : medV nw lw (l.getD i.toNat 0) = med (addL nw lw (l.getD i.toNat 0)) := if_pos he
  have hh := med_half e1
  unfold middles_L2_T
  rw [hn, hd, w64 (n := i + 1) (by omega) (by omega), w64 (n := i + 1 - nw) (by omega) (by omega)]
  have hP : List.drop (Int.toNat (gmax 0 (i + 1 - nw))) (List.take (Int.toNat (i + 1)) l) = addL nw lw (l.getD i.toNat 0) := by
    rw [hA]
    congr 1
    unfold gmax
    omega
  rw [hP]
  have hfin : middles_L1_I n l (i + 1) nw nw (addL nw lw (l.getD i.toNat 0)) (addL nw lw (l.getD i.toNat 0)) ∧ middles_L1_m n l (i + 1) nw nw (addL nw lw (l.getD i.toNat 0)) (addL nw lw (l.getD i.toNat 0)) < middles_L1_m n l i nw nw lw lw := by
    refine ⟨⟨⟨by omega, by omega, a3⟩, ⟨rfl, rfl, b3, b4⟩, hA⟩, ?_⟩
    unfold middles_L1_m
    omega
  have hmm : ∀ a b c, middles_L2_m n l i nw nw lw lw a b c = ((addL nw lw (l.getD i.toNat 0)).length - a).toNat := fun _ _ _ => rfl
  have hII : ∀ a b c, middles_L2_I n l i nw nw lw lw a b c ↔ ((0 ≤ a ∧ a ≤ (addL nw lw (l.getD i.toNat 0)).length) ∧ (b = ((addL nw lw (l.getD i.toNat 0)).take a.toNat).countP (fun z => decide (z < med (addL nw lw (l.getD i.toNat 0)))) ∧ c = ((addL nw lw (l.getD i.toNat 0)).take a.toNat).countP (fun z => decide (med (addL nw lw (l.getD i.toNat 0)) < z))) ∧ addE nw lw (l.getD i.toNat 0) = 0 ∧ i < l.length) := fun _ _ _ => Iff.rfl
  simp only [hmm, hII]
  generalize addL nw lw (l.getD i.toNat 0) = A at *
  have d1 := List.countP_le_length (p := fun z => decide (z < med A)) (l := A.take k.toNat)
  have d2 := List.countP_le_length (p := fun z => decide (med A < z)) (l := A.take k.toNat)
  rw [List.length_take] at d1 d2
  rw [w64 (n := k + 1) (by omega) (by omega), w64 (n := ls + 1) (by omega) (by omega), w64 (n := mr + 1) (by omega) (by omega), w64 (n := 2 * ls) (by omega) (by omega), w64 (n := 2 * mr) (by omega) (by omega)]
  by_cases hk : k < A.length
  · have j1 : decide (0 ≤ k) = true := by simpa using c1
    have e0 : ∀ p : Int → Bool, (A.take (k + 1).toNat).countP p = (A.take k.toNat).countP p + (if p (A.getD k.toNat 0) then 1 else 0) := by
      intro p
      rw [show (k + 1).toNat = k.toNat + 1 by omega, take_succ_getD _ _ (by omega), List.countP_append]
      simp [List.countP_cons]
    simp only [hk, decide_true, j1, cnd]
    rw [e0, e0]
    by_cases h1 : A.getD k.toNat 0 < med A
    · have h2 : ¬ med A < A.getD k.toNat 0 := by omega
      simp only [h1, h2, decide_true, decide_false]
      refine ⟨⟨⟨by omega, by omega⟩, ⟨by simp; omega, by simp; omega⟩, he, hl⟩, by omega, by simp⟩
    · by_cases h2 : med A < A.getD k.toNat 0
      · simp only [h1, h2, decide_true, decide_false]
        refine ⟨⟨⟨by omega, by omega⟩, ⟨by simp; omega, by simp; omega⟩, he, hl⟩, by omega, by simp⟩
      · simp only [h1, h2, decide_false]
        refine ⟨⟨⟨by omega, by omega⟩, ⟨by simp; omega, by simp; omega⟩, he, hl⟩, by omega, by simp⟩
  · rw [List.take_of_length_le (by omega)] at c3 c4
    have k1 : decide ((A.length : Int) < 2 * ls) = false := by rw [decide_eq_false_iff_not]; omega
    have k2 : decide ((A.length : Int) < 2 * mr) = false := by rw [decide_eq_false_iff_not]; omega
    simp only [hk, decide_false, k1, k2, cnd, Bool.or_false]
    exact ⟨hfin.1, hfin.2, by simp⟩
set_option maxRecDepth 100000 in
theorem middles_L2_entry1 (n : Int) (l : List Int) (i : Int) (nw : Int) (nv : Int) (lw : List Int) (lv : List Int) : (((middles_L2_I n l i nw nv lw lv (0 : Int) (0 : Int) (0 : Int)) ∧ (((0 : Int) = (0 : Int)) ∧ (((((List.length (List.drop (Int.toNat (gmax (0 : Int) (Go.IntKind.wrap Go.IntKind.i64 ((Go.IntKind.wrap Go.IntKind.i64 (i + (1 : Int))) - (addN nw lw (List.getD l (Int.toNat i) (0 : Int))))))) (List.take (Int.toNat (Go.IntKind.wrap Go.IntKind.i64 (i + (1 : Int)))) l))) : Nat) : Int) = (((List.length (List.drop (Int.toNat (gmax (0 : Int) (Go.IntKind.wrap Go.IntKind.i64 ((Go.IntKind.wrap Go.IntKind.i64 (i + (1 : Int))) - (addN nw lw (List.getD l (Int.toNat i) (0 : Int))))))) (List.take (Int.toNat (Go.IntKind.wrap Go.IntKind.i64 (i + (1 : Int)))) l))) : Nat) : Int)) ∧ (True ∧ (((0 : Int) = (0 : Int)) ∧ (((0 : Int) = (0 : Int)) ∧ (True ∧ (((medV nv lv (List.getD l (Int.toNat i) (0 : Int))) = (medV nv lv (List.getD l (Int.toNat i) (0 : Int)))) ∧ (((((addN nv lv (List.getD l (Int.toNat i) (0 : Int))) = (addN nv lv (List.getD l (Int.toNat i) (0 : Int)))) ∧ True) ∧ (((medV nv lv (List.getD l (Int.toNat i) (0 : Int))) = (medV nv lv (List.getD l (Int.toNat i) (0 : Int)))) ∧ ((addE nv lv (List.getD l (Int.toNat i) (0 : Int))) = (addE nv lv (List.getD l (Int.toNat i) (0 : Int)))))) ∧ (((((addN nv lv (List.getD l (Int.toNat i) (0 : Int))) = (addN nv lv (List.getD l (Int.toNat i) (0 : Int)))) ∧ True) ∧ (((medV nv lv (List.getD l (Int.toNat i) (0 : Int))) = (medV nv lv (List.getD l (Int.toNat i) (0 : Int)))) ∧ ((addE nv lv (List.getD l (Int.toNat i) (0 : Int))) = (addE nv lv (List.getD l (Int.toNat i) (0 : Int)))))) ∧ (((((addN nw lw (List.getD l (Int.toNat i) (0 : Int))) = (addN nw lw (List.getD l (Int.toNat i) (0 : Int)))) ∧ True) ∧ (((avg nw lw (List.getD l (Int.toNat i) (0 : Int))) = (avg nw lw (List.getD l (Int.toNat i) (0 : Int)))) ∧ ((addE nw lw (List.getD l (Int.toNat i) (0 : Int))) = (addE nw lw (List.getD l (Int.toNat i) (0 : Int)))))) ∧ (((((addN nw lw (List.getD l (Int.toNat i) (0 : Int))) = (addN nw lw (List.getD l (Int.toNat i) (0 : Int)))) ∧ True) ∧ (((avg nw lw (List.getD l (Int.toNat i) (0 : Int))) = (avg nw lw (List.getD l (Int.toNat i) (0 : Int)))) ∧ ((addE nw lw (List.getD l (Int.toNat i) (0 : Int))) = (addE nw lw (List.getD l (Int.toNat i) (0 : Int)))))) ∧ ((i = i) ∧ (((((List.length l) : Nat) : Int) = (((List.length l) : Nat) : Int)) ∧ (True ∧ (True ∧ (True ∧ ((Bool.false = Bool.false) ∧ (True ∧ ((((addN nw lw (List.getD l (Int.toNat i) (0 : Int))) = (addN nw lw (List.getD l (Int.toNat i) (0 : Int)))) ∧ True) ∧ ((((addN nv lv (List.getD l (Int.toNat i) (0 : Int))) = (addN nv lv (List.getD l (Int.toNat i) (0 : Int)))) ∧ True) ∧ ((l = l) ∧ ((lw = lw) ∧ ((lv = lv) ∧ (((addL nw lw (List.getD l (Int.toNat i) (0 : Int))) = (addL nw lw (List.getD l (Int.toNat i) (0 : Int)))) ∧ (((addL nv lv (List.getD l (Int.toNat i) (0 : Int))) = (addL nv lv (List.getD l (Int.toNat i) (0 : Int)))) ∧ (((List.drop (Int.toNat (gmax (0 : Int) (Go.IntKind.wrap Go.IntKind.i64 ((Go.IntKind.wrap Go.IntKind.i64 (i + (1 : Int))) - (addN nw lw (List.getD l (Int.toNat i) (0 : Int))))))) (List.take (Int.toNat (Go.IntKind.wrap Go.IntKind.i64 (i + (1 : Int)))) l)) = (List.drop (Int.toNat (gmax (0 : Int) (Go.IntKind.wrap Go.IntKind.i64 ((Go.IntKind.wrap Go.IntKind.i64 (i + (1 : Int))) - (addN nw lw (List.getD l (Int.toNat i) (0 : Int))))))) (List.take (Int.toNat (Go.IntKind.wrap Go.IntKind.i64 (i + (1 : Int)))) l))) ∧ True)))))))))))))))))))))))))))) = middles_L2_E n l i nw nv lw lv (middles_L2_S1 n l i nw nv lw lv) := by kernel_rfl
theorem middles_L2_1 (n : Int) (l : List Int) (i : Int) (nw : Int) (nv : Int) (lw : List Int) (lv : List Int) (p0 : wfI .u8 n = true) (p1 : wfL .i64 l = true) (hI_L1 : middles_L1_I n l i nw nv lw lv) (h : ((middles_L2_I n l i nw nv lw lv (0 : Int) (0 : Int) (0 : Int)) ∧ (((0 : Int) = (0 : Int)) ∧ (((((List.length (List.drop (Int.toNat (gmax (0 : Int) (Go.IntKind.wrap Go.IntKind.i64 ((Go.IntKind.wrap Go.IntKind.i64 (i + (1 : Int))) - (addN nw lw (List.getD l (Int.toNat i) (0 : Int))))))) (List.take (Int.toNat (Go.IntKind.wrap Go.IntKind.i64 (i + (1 : Int)))) l))) : Nat) : Int) = (((List.length (List.drop (Int.toNat (gmax (0 : Int) (Go.IntKind.wrap Go.IntKind.i64 ((Go.IntKind.wrap Go.IntKind.i64 (i + (1 : Int))) - (addN nw lw (List.getD l (Int.toNat i) (0 : Int))))))) (List.take (Int.toNat (Go.IntKind.wrap Go.IntKind.i64 (i + (1 : Int)))) l))) : Nat) : Int)) ∧ (True ∧ (((0 : Int) = (0 : Int)) ∧ (((0 : Int) = (0 : Int)) ∧ (True ∧ (((medV nv lv (List.getD l (Int.toNat i) (0 : Int))) = (medV nv lv (List.getD l (Int.toNat i) (0 : Int)))) ∧ (((((addN nv lv (List.getD l (Int.toNat i) (0 : Int))) = (addN nv lv (List.getD l (Int.toNat i) (0 : Int)))) ∧ True) ∧ (((medV nv lv (List.getD l (Int.toNat i) (0 : Int))) = (medV nv lv (List.getD l (Int.toNat i) (0 : Int)))) ∧ ((addE nv lv (List.getD l (Int.toNat i) (0 : Int))) = (addE nv lv (List.getD l (Int.toNat i) (0 : Int)))))) ∧ (((((addN nv lv (List.getD l (Int.toNat i) (0 : Int))) = (addN nv lv (List.getD l (Int.toNat i) (0 : Int)))) ∧ True) ∧ (((medV nv lv (List.getD l (Int.toNat i) (0 : Int))) = (medV nv lv (List.getD l (Int.toNat i) (0 : Int)))) ∧ ((addE nv lv (List.getD l (Int.toNat i) (0 : Int))) = (addE nv lv (List.getD l (Int.toNat i) (0 : Int)))))) ∧ (((((addN nw lw (List.getD l (Int.toNat i) (0 : Int))) = (addN nw lw (List.getD l (Int.toNat i) (0 : Int)))) ∧ True) ∧ (((avg nw lw (List.getD l (Int.toNat i) (0 : Int))) = (avg nw lw (List.getD l (Int.toNat i) (0 : Int)))) ∧ ((addE nw lw (List.getD l (Int.toNat i) (0 : Int))) = (addE nw lw (List.getD l (Int.toNat i) (0 : Int)))))) ∧ (((((addN nw lw (List.getD l (Int.toNat i) (0 : Int))) = (addN nw lw (List.getD l (Int.toNat i) (0 : Int)))) ∧ True) ∧ (((avg nw lw (List.getD l (Int.toNat i) (0 : Int))) = (avg nw lw (List.getD l (Int.toNat i) (0 : Int)))) ∧ ((addE nw lw (List.getD l (Int.toNat i) (0 : Int))) = (addE nw lw (List.getD l (Int.toNat i) (0 : Int)))))) ∧ ((i = i) ∧ (((((List.length l) : Nat) : Int) = (((List.length l) : Nat) : Int)) ∧ (True ∧ (True ∧ (True ∧ ((Bool.false = Bool.false) ∧ (True ∧ ((((addN nw lw (List.getD l (Int.toNat i) (0 : Int))) = (addN nw lw (List.getD l (Int.toNat i) (0 : Int)))) ∧ True) ∧ ((((addN nv lv (List.getD l (Int.toNat i) (0 : Int))) = (addN nv lv (List.getD l (Int.toNat i) (0 : Int)))) ∧ True) ∧ ((l = l) ∧ ((lw = lw) ∧ ((lv = lv) ∧ (((addL nw lw (List.getD l (Int.toNat i) (0 : Int))) = (addL nw lw (List.getD l (Int.toNat i) (0 : Int)))) ∧ (((addL nv lv (List.getD l (Int.toNat i) (0 : Int))) = (addL nv lv (List.getD l (Int.toNat i) (0 : Int)))) ∧ (((List.drop (Int.toNat (gmax (0 : Int) (Go.IntKind.wrap Go.IntKind.i64 ((Go.IntKind.wrap Go.IntKind.i64 (i + (1 : Int))) - (addN nw lw (List.getD l (Int.toNat i) (0 : Int))))))) (List.take (Int.toNat (Go.IntKind.wrap Go.IntKind.i64 (i + (1 : Int)))) l)) = (List.drop (Int.toNat (gmax (0 : Int) (Go.IntKind.wrap Go.IntKind.i64 ((Go.IntKind.wrap Go.IntKind.i64 (i + (1 : Int))) - (addN nw lw (List.getD l (Int.toNat i) (0 : Int))))))) (List.take (Int.toNat (Go.IntKind.wrap Go.IntKind.i64 (i + (1 : Int)))) l))) ∧ True)))))))))))))))))))))))))))) : LoopP (ex Try.prog (conOf [awake_e, faverage_e, fmedian_e, sequal_e, smin_e, smax_e, scontains_e]) (subC (subC (bodyOf Try.f12) [1, 1, 1, 1, 1, 0, 1, 0, 0]) [1, 1, 0, 0, 1, 1, 1, 1, 1, 1, 1, 1, 1, 1, 1, 1, 0, 1, 0, 0])) (kont Try.prog (conOf [awake_e, faverage_e, fmedian_e, sequal_e, smin_e, smax_e, scontains_e]) (subC (bodyOf Try.f12) [1, 1, 1, 1, 1, 0, 1, 0, 0]) [1, 1, 0, 0, 1, 1, 1, 1, 1, 1, 1, 1, 1, 1, 1, 1, 0, 1, 0] (nextE (middles_L1_N n l i nw nv lw lv) (kont Try.prog (conOf [awake_e, faverage_e, fmedian_e, sequal_e, smin_e, smax_e, scontains_e]) (bodyOf Try.f12) [1, 1, 1, 1, 1, 0, 1, 0] (retPost Try.prog Try.f12 1 (middles_res n l))))) (middles_L2_S1 n l i nw nv lw lv) := by
  have hE : middles_L2_E n l i nw nv lw lv (middles_L2_S1 n l i nw nv lw lv) := Eq.mp (middles_L2_entry1 n l i nw nv lw lv) h
  unfold middles_L2_E at hE
  obtain ⟨k, hE⟩ := getI_of hE
  obtain ⟨ls, hE⟩ := getI_of hE
  obtain ⟨mr, hE⟩ := getI_of hE
  refine loop_of (α := (Int) × (Int) × (Int)) (fun xx_ => middles_L2_F n l i nw nv lw lv xx_.1 xx_.2.1 xx_.2.2) (fun xx_ => middles_L2_I n l i nw nv lw lv xx_.1 xx_.2.1 xx_.2.2) (fun xx_ => middles_L2_m n l i nw nv lw lv xx_.1 xx_.2.1 xx_.2.2) (fun xx_ => middles_L2_N n l i nw nv lw lv xx_.1 xx_.2.1 xx_.2.2) (fun xx_ => middles_L2_T n l i nw nv lw lv xx_.1 xx_.2.1 xx_.2.2) (fun xx_ s_ h => ?_) ⟨⟨k, ls, mr⟩, hE⟩ (fun xx_ => middles_L2_tree n l i nw nv lw lv xx_.1 xx_.2.1 xx_.2.2) (fun xx_ hI => middles_L2_round n l i nw nv lw lv xx_.1 xx_.2.1 xx_.2.2 p0 p1 hI_L1 hI)
  unfold middles_L2_N at h
  obtain ⟨k, h⟩ := getI_of h
  obtain ⟨ls, h⟩ := getI_of h
  obtain ⟨mr, h⟩ := getI_of h
  exact ⟨⟨k, ls, mr⟩, h⟩
def middles_L1_T (n : Int) (l : List Int) (i : Int) (nw : Int) (nv : Int) (lw : List Int) (lv : List Int) : Prop := (cnd (decide (i < (((List.length l) : Nat) : Int)))
  (cnd (decide ((0 : Int) ≤ i))
    (cnd (decide (i < (((List.length l) : Nat) : Int)))
      (cnd (!(decide ((addE nw lw (List.getD l (Int.toNat i) (0 : Int))) = (addE nv lv (List.getD l (Int.toNat i) (0 : Int))))))
        (Bool.false = Bool.true)
        (cnd (!(decide ((addE nw lw (List.getD l (Int.toNat i) (0 : Int))) = (0 : Int))))
          (Bool.true = Bool.true)
          (cnd (decide ((0 : Int) ≤ (gmax (0 : Int) (Go.IntKind.wrap Go.IntKind.i64 ((Go.IntKind.wrap Go.IntKind.i64 (i + (1 : Int))) - (addN nw lw (List.getD l (Int.toNat i) (0 : Int))))))))
            (cnd (decide ((gmax (0 : Int) (Go.IntKind.wrap Go.IntKind.i64 ((Go.IntKind.wrap Go.IntKind.i64 (i + (1 : Int))) - (addN nw lw (List.getD l (Int.toNat i) (0 : Int)))))) ≤ (Go.IntKind.wrap Go.IntKind.i64 (i + (1 : Int)))))
              (cnd (decide ((Go.IntKind.wrap Go.IntKind.i64 (i + (1 : Int))) ≤ (((List.length l) : Nat) : Int)))
                (cnd (decide ((List.length (addL nw lw (List.getD l (Int.toNat i) (0 : Int)))) ≤ 1000000))
                  (cnd (decide ((List.length (List.drop (Int.toNat (gmax (0 : Int) (Go.IntKind.wrap Go.IntKind.i64 ((Go.IntKind.wrap Go.IntKind.i64 (i + (1 : Int))) - (addN nw lw (List.getD l (Int.toNat i) (0 : Int))))))) (List.take (Int.toNat (Go.IntKind.wrap Go.IntKind.i64 (i + (1 : Int)))) l))) ≤ 1000000))
                    (cnd ((!((!(decide ((addL nw lw (List.getD l (Int.toNat i) (0 : Int))) = (List.drop (Int.toNat (gmax (0 : Int) (Go.IntKind.wrap Go.IntKind.i64 ((Go.IntKind.wrap Go.IntKind.i64 (i + (1 : Int))) - (addN nw lw (List.getD l (Int.toNat i) (0 : Int))))))) (List.take (Int.toNat (Go.IntKind.wrap Go.IntKind.i64 (i + (1 : Int)))) l))))) == Bool.false)) || (decide ((List.length (addL nv lv (List.getD l (Int.toNat i) (0 : Int)))) ≤ 1000000)))
                      (cnd ((!((!(decide ((addL nw lw (List.getD l (Int.toNat i) (0 : Int))) = (List.drop (Int.toNat (gmax (0 : Int) (Go.IntKind.wrap Go.IntKind.i64 ((Go.IntKind.wrap Go.IntKind.i64 (i + (1 : Int))) - (addN nw lw (List.getD l (Int.toNat i) (0 : Int))))))) (List.take (Int.toNat (Go.IntKind.wrap Go.IntKind.i64 (i + (1 : Int)))) l))))) == Bool.false)) || (decide ((List.length (List.drop (Int.toNat (gmax (0 : Int) (Go.IntKind.wrap Go.IntKind.i64 ((Go.IntKind.wrap Go.IntKind.i64 (i + (1 : Int))) - (addN nw lw (List.getD l (Int.toNat i) (0 : Int))))))) (List.take (Int.toNat (Go.IntKind.wrap Go.IntKind.i64 (i + (1 : Int)))) l))) ≤ 1000000)))
                        (cnd ((!(decide ((addL nw lw (List.getD l (Int.toNat i) (0 : Int))) = (List.drop (Int.toNat (gmax (0 : Int) (Go.IntKind.wrap Go.IntKind.i64 ((Go.IntKind.wrap Go.IntKind.i64 (i + (1 : Int))) - (addN nw lw (List.getD l (Int.toNat i) (0 : Int))))))) (List.take (Int.toNat (Go.IntKind.wrap Go.IntKind.i64 (i + (1 : Int)))) l))))) || (!(decide ((addL nv lv (List.getD l (Int.toNat i) (0 : Int))) = (List.drop (Int.toNat (gmax (0 : Int) (Go.IntKind.wrap Go.IntKind.i64 ((Go.IntKind.wrap Go.IntKind.i64 (i + (1 : Int))) - (addN nw lw (List.getD l (Int.toNat i) (0 : Int))))))) (List.take (Int.toNat (Go.IntKind.wrap Go.IntKind.i64 (i + (1 : Int)))) l))))))
                          (Bool.false = Bool.true)
                          (cnd (decide (1 ≤ (List.length (List.drop (Int.toNat (gmax (0 : Int) (Go.IntKind.wrap Go.IntKind.i64 ((Go.IntKind.wrap Go.IntKind.i64 (i + (1 : Int))) - (addN nw lw (List.getD l (Int.toNat i) (0 : Int))))))) (List.take (Int.toNat (Go.IntKind.wrap Go.IntKind.i64 (i + (1 : Int)))) l)))))
                            (cnd (decide ((List.length (List.drop (Int.toNat (gmax (0 : Int) (Go.IntKind.wrap Go.IntKind.i64 ((Go.IntKind.wrap Go.IntKind.i64 (i + (1 : Int))) - (addN nw lw (List.getD l (Int.toNat i) (0 : Int))))))) (List.take (Int.toNat (Go.IntKind.wrap Go.IntKind.i64 (i + (1 : Int)))) l))) ≤ 1000000))
                              (cnd (decide (1 ≤ (List.length (List.drop (Int.toNat (gmax (0 : Int) (Go.IntKind.wrap Go.IntKind.i64 ((Go.IntKind.wrap Go.IntKind.i64 (i + (1 : Int))) - (addN nw lw (List.getD l (Int.toNat i) (0 : Int))))))) (List.take (Int.toNat (Go.IntKind.wrap Go.IntKind.i64 (i + (1 : Int)))) l)))))
                                (cnd (decide ((List.length (List.drop (Int.toNat (gmax (0 : Int) (Go.IntKind.wrap Go.IntKind.i64 ((Go.IntKind.wrap Go.IntKind.i64 (i + (1 : Int))) - (addN nw lw (List.getD l (Int.toNat i) (0 : Int))))))) (List.take (Int.toNat (Go.IntKind.wrap Go.IntKind.i64 (i + (1 : Int)))) l))) ≤ 1000000))
                                  (cnd ((!(((decide ((avg nw lw (List.getD l (Int.toNat i) (0 : Int))) < (lowL (List.drop (Int.toNat (gmax (0 : Int) (Go.IntKind.wrap Go.IntKind.i64 ((Go.IntKind.wrap Go.IntKind.i64 (i + (1 : Int))) - (addN nw lw (List.getD l (Int.toNat i) (0 : Int))))))) (List.take (Int.toNat (Go.IntKind.wrap Go.IntKind.i64 (i + (1 : Int)))) l))))) || (decide ((highL (List.drop (Int.toNat (gmax (0 : Int) (Go.IntKind.wrap Go.IntKind.i64 ((Go.IntKind.wrap Go.IntKind.i64 (i + (1 : Int))) - (addN nw lw (List.getD l (Int.toNat i) (0 : Int))))))) (List.take (Int.toNat (Go.IntKind.wrap Go.IntKind.i64 (i + (1 : Int)))) l))) < (avg nw lw (List.getD l (Int.toNat i) (0 : Int)))))) == Bool.false)) || (decide ((((List.length (List.drop (Int.toNat (gmax (0 : Int) (Go.IntKind.wrap Go.IntKind.i64 ((Go.IntKind.wrap Go.IntKind.i64 (i + (1 : Int))) - (addN nw lw (List.getD l (Int.toNat i) (0 : Int))))))) (List.take (Int.toNat (Go.IntKind.wrap Go.IntKind.i64 (i + (1 : Int)))) l))) : Nat) : Int) ≤ (1000000 : Int))))
                                    (cnd (((decide ((avg nw lw (List.getD l (Int.toNat i) (0 : Int))) < (lowL (List.drop (Int.toNat (gmax (0 : Int) (Go.IntKind.wrap Go.IntKind.i64 ((Go.IntKind.wrap Go.IntKind.i64 (i + (1 : Int))) - (addN nw lw (List.getD l (Int.toNat i) (0 : Int))))))) (List.take (Int.toNat (Go.IntKind.wrap Go.IntKind.i64 (i + (1 : Int)))) l))))) || (decide ((highL (List.drop (Int.toNat (gmax (0 : Int) (Go.IntKind.wrap Go.IntKind.i64 ((Go.IntKind.wrap Go.IntKind.i64 (i + (1 : Int))) - (addN nw lw (List.getD l (Int.toNat i) (0 : Int))))))) (List.take (Int.toNat (Go.IntKind.wrap Go.IntKind.i64 (i + (1 : Int)))) l))) < (avg nw lw (List.getD l (Int.toNat i) (0 : Int)))))) || (!(hasV (medV nv lv (List.getD l (Int.toNat i) (0 : Int))) (List.drop (Int.toNat (gmax (0 : Int) (Go.IntKind.wrap Go.IntKind.i64 ((Go.IntKind.wrap Go.IntKind.i64 (i + (1 : Int))) - (addN nw lw (List.getD l (Int.toNat i) (0 : Int))))))) (List.take (Int.toNat (Go.IntKind.wrap Go.IntKind.i64 (i + (1 : Int)))) l)))))
                                      (Bool.false = Bool.true)
                                      (LoopP (ex Try.prog (conOf [awake_e, faverage_e, fmedian_e, sequal_e, smin_e, smax_e, scontains_e]) (subC (subC (bodyOf Try.f12) [1, 1, 1, 1, 1, 0, 1, 0, 0]) [1, 1, 0, 0, 1, 1, 1, 1, 1, 1, 1, 1, 1, 1, 1, 1, 0, 1, 0, 0])) (kont Try.prog (conOf [awake_e, faverage_e, fmedian_e, sequal_e, smin_e, smax_e, scontains_e]) (subC (bodyOf Try.f12) [1, 1, 1, 1, 1, 0, 1, 0, 0]) [1, 1, 0, 0, 1, 1, 1, 1, 1, 1, 1, 1, 1, 1, 1, 1, 0, 1, 0] (nextE (middles_L1_N n l i nw nv lw lv) (kont Try.prog (conOf [awake_e, faverage_e, fmedian_e, sequal_e, smin_e, smax_e, scontains_e]) (bodyOf Try.f12) [1, 1, 1, 1, 1, 0, 1, 0] (retPost Try.prog Try.f12 1 (middles_res n l))))) (middles_L2_S1 n l i nw nv lw lv)))
                                    False)
                                  False)
                                False)
                              False)
                            False))
                        False)
                      False)
                    False)
                  False)
                False)
              False)
            False)))
      False)
    False)
  (Bool.true = Bool.true))
set_option maxRecDepth 100000 in
theorem middles_L1_tree (n : Int) (l : List Int) (i : Int) (nw : Int) (nv : Int) (lw : List Int) (lv : List Int) : middles_L1_T n l i nw nv lw lv = ex Try.prog (conOf [awake_e, faverage_e, fmedian_e, sequal_e, smin_e, smax_e, scontains_e]) (subC (bodyOf Try.f12) [1, 1, 1, 1, 1, 0, 1, 0, 0]) (nextE (middles_L1_N n l i nw nv lw lv) (kont Try.prog (conOf [awake_e, faverage_e, fmedian_e, sequal_e, smin_e, smax_e, scontains_e]) (bodyOf Try.f12) [1, 1, 1, 1, 1, 0, 1, 0] (retPost Try.prog Try.f12 1 (middles_res n l)))) (middles_L1_F n l i nw nv lw lv) := by kernel_rfl
set_option maxRecDepth 100000 in
theorem middles_L1_round (n : Int) (l : List Int) (i : Int) (nw : Int) (nv : Int) (lw : List Int) (lv : List Int) (p0 : wfI .u8 n = true) (p1 : wfL .i64 l = true) (hI_L1 : middles_L1_I n l i nw nv lw lv) : middles_L1_T n l i nw nv lw lv := by
  have hI := hI_L1
  obtain ⟨⟨a1, a2, a3⟩, ⟨b1, b2, b3, b4⟩, c⟩ := hI_L1
  subst b1 b2
  unfold middles_L1_T
  by_cases hl : i < l.length
  · have j1 : decide (0 ≤ i) = true := by simpa using a1
    rw [w64 (n := i + 1) (by omega) (by omega)]
    simp only [hl, decide_true, j1, cnd, Bool.not_true]
    by_cases he : addE nw lw (l.getD i.toNat 0) = 0
    · have hn : addN nw lw (l.getD i.toNat 0) = nw := if_pos he
      obtain ⟨e1, e2, e3⟩ := addL_len he
      have hA := mid_add a1 hl b3 c he
      rw [hn, w64 (n := i + 1 - nw) (by omega) (by omega)]
      have hP : List.drop (Int.toNat (gmax 0 (i + 1 - nw))) (List.take (Int.toNat (i + 1)) l) = addL nw lw (l.getD i.toNat 0) := by
        rw [hA]
        congr 1
        unfold gmax
        omega
      have hv : avg nw lw (l.getD i.toNat 0) = lsum (addL nw lw (l.getD i.toNat 0)) / (addL nw lw (l.getD i.toNat 0)).length := if_pos he
      have hd : medV nw lw (l.getD i.toNat 0) = med (addL nw lw (l.getD i.toNat 0)) := if_pos he
      have hav := avg_mid e1
      have k0 : decide (addE nw lw (l.getD i.toNat 0) = 0) = true := decide_eq_true he
      have k1 : decide (0 ≤ gmax 0 (i + 1 - nw)) = true := by rw [decide_eq_true_eq]; unfold gmax; omega
      have k2 : decide (gmax 0 (i + 1 - nw) ≤ i + 1) = true := by rw [decide_eq_true_eq]; unfold gmax; omega
      have k3 : decide (i + 1 ≤ (l.length : Int)) = true := by rw [decide_eq_true_eq]; omega
      have k4 : decide ((addL nw lw (l.getD i.toNat 0)).length ≤ 1000000) = true := by rw [decide_eq_true_eq]; omega
      have k5 : decide (1 ≤ (addL nw lw (l.getD i.toNat 0)).length) = true := by rw [decide_eq_true_eq]; omega
      have k6 : decide (avg nw lw (l.getD i.toNat 0) < lowL (addL nw lw (l.getD i.toNat 0))) = false := by rw [decide_eq_false_iff_not, hv]; omega
      have k7 : decide (highL (addL nw lw (l.getD i.toNat 0)) < avg nw lw (l.getD i.toNat 0)) = false := by rw [decide_eq_false_iff_not, hv]; omega
      have k8 : hasV (medV nw lw (l.getD i.toNat 0)) (addL nw lw (l.getD i.toNat 0)) = true := by rw [hd]; exact hasV_of (med_is e1).1
      have k9 : decide ((((addL nw lw (l.getD i.toNat 0)).length : Nat) : Int) ≤ 1000000) = true := by rw [decide_eq_true_eq]; omega
      simp only [k0, k1, k2, k3, k4, k5, k6, k7, k8, k9, hP, cnd, Bool.not_true, Bool.or_true, Bool.or_false, decide_true]
      refine middles_L2_1 n l i nw nw lw lw p0 p1 hI ⟨⟨⟨by omega, by omega⟩, ⟨by simp, by simp⟩, he, hl⟩, by simp⟩
    · have k0 : decide (addE nw lw (l.getD i.toNat 0) = 0) = false := decide_eq_false he
      simp only [k0, cnd, Bool.not_false]
  · simp only [hl, decide_false, cnd]
set_option maxRecDepth 100000 in
theorem middles_L1_entry1 (n : Int) (l : List Int) : (((middles_L1_I n l (0 : Int) (Go.IntKind.wrap Go.IntKind.i64 ((Int.tmod (Go.IntKind.wrap Go.IntKind.i64 n) (15 : Int)) + (1 : Int))) (Go.IntKind.wrap Go.IntKind.i64 ((Int.tmod (Go.IntKind.wrap Go.IntKind.i64 n) (15 : Int)) + (1 : Int))) ([] : List Int) ([] : List Int)) ∧ (((0 : Int) = (0 : Int)) ∧ (((((List.length l) : Nat) : Int) = (((List.length l) : Nat) : Int)) ∧ (True ∧ (True ∧ (True ∧ ((Bool.false = Bool.false) ∧ (True ∧ ((((Go.IntKind.wrap Go.IntKind.i64 ((Int.tmod (Go.IntKind.wrap Go.IntKind.i64 n) (15 : Int)) + (1 : Int))) = (Go.IntKind.wrap Go.IntKind.i64 ((Int.tmod (Go.IntKind.wrap Go.IntKind.i64 n) (15 : Int)) + (1 : Int)))) ∧ True) ∧ ((((Go.IntKind.wrap Go.IntKind.i64 ((Int.tmod (Go.IntKind.wrap Go.IntKind.i64 n) (15 : Int)) + (1 : Int))) = (Go.IntKind.wrap Go.IntKind.i64 ((Int.tmod (Go.IntKind.wrap Go.IntKind.i64 n) (15 : Int)) + (1 : Int)))) ∧ True) ∧ ((l = l) ∧ ((([] : List Int) = ([] : List Int)) ∧ ((([] : List Int) = ([] : List Int)) ∧ True)))))))))))))) = middles_L1_E n l (middles_L1_S1 n l) := by kernel_rfl
theorem middles_L1_1 (n : Int) (l : List Int) (p0 : wfI .u8 n = true) (p1 : wfL .i64 l = true) (h : ((middles_L1_I n l (0 : Int) (Go.IntKind.wrap Go.IntKind.i64 ((Int.tmod (Go.IntKind.wrap Go.IntKind.i64 n) (15 : Int)) + (1 : Int))) (Go.IntKind.wrap Go.IntKind.i64 ((Int.tmod (Go.IntKind.wrap Go.IntKind.i64 n) (15 : Int)) + (1 : Int))) ([] : List Int) ([] : List Int)) ∧ (((0 : Int) = (0 : Int)) ∧ (((((List.length l) : Nat) : Int) = (((List.length l) : Nat) : Int)) ∧ (True ∧ (True ∧ (True ∧ ((Bool.false = Bool.false) ∧ (True ∧ ((((Go.IntKind.wrap Go.IntKind.i64 ((Int.tmod (Go.IntKind.wrap Go.IntKind.i64 n) (15 : Int)) + (1 : Int))) = (Go.IntKind.wrap Go.IntKind.i64 ((Int.tmod (Go.IntKind.wrap Go.IntKind.i64 n) (15 : Int)) + (1 : Int)))) ∧ True) ∧ ((((Go.IntKind.wrap Go.IntKind.i64 ((Int.tmod (Go.IntKind.wrap Go.IntKind.i64 n) (15 : Int)) + (1 : Int))) = (Go.IntKind.wrap Go.IntKind.i64 ((Int.tmod (Go.IntKind.wrap Go.IntKind.i64 n) (15 : Int)) + (1 : Int)))) ∧ True) ∧ ((l = l) ∧ ((([] : List Int) = ([] : List Int)) ∧ ((([] : List Int) = ([] : List Int)) ∧ True)))))))))))))) : LoopP (ex Try.prog (conOf [awake_e, faverage_e, fmedian_e, sequal_e, smin_e, smax_e, scontains_e]) (subC (bodyOf Try.f12) [1, 1, 1, 1, 1, 0, 1, 0, 0])) (kont Try.prog (conOf [awake_e, faverage_e, fmedian_e, sequal_e, smin_e, smax_e, scontains_e]) (bodyOf Try.f12) [1, 1, 1, 1, 1, 0, 1, 0] (retPost Try.prog Try.f12 1 (middles_res n l))) (middles_L1_S1 n l) := by
  have hE : middles_L1_E n l (middles_L1_S1 n l) := Eq.mp (middles_L1_entry1 n l) h
  unfold middles_L1_E at hE
  obtain ⟨i, hE⟩ := getI_of hE
  obtain ⟨nw, hE⟩ := getCI_of hE
  obtain ⟨nv, hE⟩ := getCI_of hE
  obtain ⟨lw, hE⟩ := getCR_of hE
  obtain ⟨lv, hE⟩ := getCR_of hE
  refine loop_of (α := (Int) × (Int) × (Int) × (List Int) × (List Int)) (fun xx_ => middles_L1_F n l xx_.1 xx_.2.1 xx_.2.2.1 xx_.2.2.2.1 xx_.2.2.2.2) (fun xx_ => middles_L1_I n l xx_.1 xx_.2.1 xx_.2.2.1 xx_.2.2.2.1 xx_.2.2.2.2) (fun xx_ => middles_L1_m n l xx_.1 xx_.2.1 xx_.2.2.1 xx_.2.2.2.1 xx_.2.2.2.2) (fun xx_ => middles_L1_N n l xx_.1 xx_.2.1 xx_.2.2.1 xx_.2.2.2.1 xx_.2.2.2.2) (fun xx_ => middles_L1_T n l xx_.1 xx_.2.1 xx_.2.2.1 xx_.2.2.2.1 xx_.2.2.2.2) (fun xx_ s_ h => ?_) ⟨⟨i, nw, nv, lw, lv⟩, hE⟩ (fun xx_ => middles_L1_tree n l xx_.1 xx_.2.1 xx_.2.2.1 xx_.2.2.2.1 xx_.2.2.2.2) (fun xx_ hI => middles_L1_round n l xx_.1 xx_.2.1 xx_.2.2.1 xx_.2.2.2.1 xx_.2.2.2.2 p0 p1 hI)
  unfold middles_L1_N at h
  obtain ⟨i, h⟩ := getI_of h
  obtain ⟨nw, h⟩ := getCI_of h
  obtain ⟨nv, h⟩ := getCI_of h
  obtain ⟨lw, h⟩ := getCR_of h
  obtain ⟨lv, h⟩ := getCR_of h
  exact ⟨⟨i, nw, nv, lw, lv⟩, h⟩
set_option maxRecDepth 100000 in
theorem middles_tree (n : Int) (l : List Int) : ((cnd (decide ((40 : Int) < (((List.length l) : Nat) : Int)))
  (Bool.true = Bool.true)
  (LoopP (ex Try.prog (conOf [awake_e, faverage_e, fmedian_e, sequal_e, smin_e, smax_e, scontains_e]) (subC (bodyOf Try.f12) [1, 1, 1, 1, 1, 0, 1, 0, 0])) (kont Try.prog (conOf [awake_e, faverage_e, fmedian_e, sequal_e, smin_e, smax_e, scontains_e]) (bodyOf Try.f12) [1, 1, 1, 1, 1, 0, 1, 0] (retPost Try.prog Try.f12 1 (middles_res n l))) (middles_L1_S1 n l)))) = EXD Try.prog (conOf [awake_e, faverage_e, fmedian_e, sequal_e, smin_e, smax_e, scontains_e]) Try.f12 [.cel (.int .u8 n), .cel (.row 0)] [.ints .i64 l] (middles_res n l) := by kernel_rfl
set_option maxHeartbeats 1000000 in
theorem middles_holds (n : Int) (l : List Int) (p0 : wfI .u8 n = true) (p1 : wfL .i64 l = true) : (cnd (decide ((40 : Int) < (((List.length l) : Nat) : Int)))
  (Bool.true = Bool.true)
  (LoopP (ex Try.prog (conOf [awake_e, faverage_e, fmedian_e, sequal_e, smin_e, smax_e, scontains_e]) (subC (bodyOf Try.f12) [1, 1, 1, 1, 1, 0, 1, 0, 0])) (kont Try.prog (conOf [awake_e, faverage_e, fmedian_e, sequal_e, smin_e, smax_e, scontains_e]) (bodyOf Try.f12) [1, 1, 1, 1, 1, 0, 1, 0] (retPost Try.prog Try.f12 1 (middles_res n l))) (middles_L1_S1 n l))) := by
  have hn := wfU8 p0
  by_cases hl : (40 : Int) < l.length
  · rw [decide_eq_true hl]; trivial
  rw [decide_eq_false hl]
  have e : Go.IntKind.wrap Go.IntKind.i64 n = n := w64 (by omega) (by omega)
  have e2 : Int.tmod n 15 = n % 15 := tmod_pos (by omega)
  have e3 : Go.IntKind.wrap Go.IntKind.i64 (Int.tmod (Go.IntKind.wrap Go.IntKind.i64 n) 15 + 1) = n % 15 + 1 := by rw [e, e2]; exact w64 (by omega) (by omega)
  refine middles_L1_1 n l p0 p1 ⟨⟨⟨by omega, by omega, by omega⟩, ⟨rfl, rfl, by omega, by omega⟩, by simp⟩, by simp⟩
set_option maxHeartbeats 2000000 in
theorem middles_ok : SoundEnt Try.prog middles_e := by
  refine ent_of_ex (Γ := (conOf [awake_e, faverage_e, fmedian_e, sequal_e, smin_e, smax_e, scontains_e])) (conOf_sound (scons awake_ok (scons faverage_ok (scons fmedian_ok (scons sequal_ok (scons smin_ok (scons smax_ok (scons scontains_ok snil)))))))) (by kernel_rfl) Try.func12 (by kernel_rfl) (by kernel_rfl) (fun args rows res h ho => ?_)
  change middles_go args rows = some res at h
  unfold middles_go at h
  split at h
  · simp only [Option.some.injEq] at h
    subst h
    rename_i q0_ q1_
    obtain ⟨p0, p1, _⟩ := ho
    exact EX.of (middles_tree q0_ q1_) (middles_holds q0_ q1_ p0 p1)
  · cases h
end Go.Proofs.Ytoflhcdhgkbdcaa

