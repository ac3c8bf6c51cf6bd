/- Cams: the reference's side first. -/
import Derived.Test.YthfliohfkhnpiaaJ9
namespace Go.Proofs.Ythfliohfkhnpiaa
set_option linter.unusedVariables false
set_option linter.unusedSimpArgs false
open Go.RowKit

def camE (x : Int) : Bool := decide (0 ≤ x) && decide (x < 46080) && decide (1920 ≤ x % 23040) && decide (x % 23040 ≤ 21120)
def camG : List Int → Bool
  | [] => true
  | [a] => camE a
  | a :: b :: l => camE a && decide (a + 1920 ≤ b) && camG (b :: l)
def hv (c : List Int) : Int := ((c.filter fun x => decide (x < 23040)).length : Nat)
theorem hv_bd (c : List Int) : 0 ≤ hv c ∧ hv c ≤ c.length := by
  have := List.length_filter_le (fun x => decide (x < 23040)) c
  unfold hv
  omega
theorem hv_snoc {c : List Int} {i : Int} (h0 : 0 ≤ i) (h1 : i < c.length) : hv (c.take (i + 1).toNat) = hv (c.take i.toNat) + (if decide (c.getD i.toNat 0 < 23040) = true then 1 else 0) := by
  rw [show (i + 1).toNat = i.toNat + 1 by omega, List.take_add_one, List.getElem?_eq_getElem (by omega), List.getD_eq_getElem?_getD, List.getElem?_eq_getElem (by omega)]
  unfold hv
  rw [List.filter_append, List.length_append]
  simp only [Option.toList_some, Option.getD_some, List.filter_cons, List.filter_nil]
  by_cases h : decide (c[i.toNat] < 23040) = true
  · rw [if_pos h, if_pos h]; simp
  · rw [if_neg h, if_neg h]; simp
def cValid (c : List Int) : Bool := decide (1 ≤ c.length) && decide (c.length ≤ 8) && camG c && !decide (hv c = c.length - hv c)
def rhalves_res (c : List Int) : CRes := ⟨[decide (c.length ≤ 8)], .tup [.cel (.int .i64 (hv c)), .cel (.int .i64 (c.length - hv c))], []⟩
def rhalves_go : List TV → List RowA → List (List CV) → Option CRes := fun args rows caps =>
  match args, rows, caps with
  | [.agg [.row 0]], [.ints .i64 c], [] => some (rhalves_res c)
  | _, _, _ => none
def rhalves_e : Ent := ⟨114, [.ints .i64 []], rhalves_go⟩
def rhalves_L1_F (c : List Int) (n : Int) (i : Int) : St := ⟨27, [], [(5, (.one (.cel (.int .i64 i)))), (4, (.one (.cel (.int .i64 n)))), (3, (.one (.cel (.int .i64 (0 : Int))))), (2, (.one (.cel (.int .i64 (0 : Int))))), (1, (.one (.cel (.ptr 0 0))))], [[(.row 0)]], [⟨(.ints .i64 c), none⟩], 0⟩
def rhalves_L1_I (c : List Int) (n : Int) (i : Int) : Prop := (0 ≤ i ∧ i ≤ c.length) ∧ (n = hv (c.take i.toNat))
def rhalves_L1_m (c : List Int) (n : Int) (i : Int) : Nat := (c.length - i).toNat
def rhalves_L1_N (c : List Int) (n' : Int) (i' : Int) (st_ : St) : Prop := getI st_ 4 fun n => getI st_ 5 fun i => rhalves_L1_I c n i ∧ rhalves_L1_m c n i < rhalves_L1_m c n' i' ∧ SubA st_ (rhalves_L1_F c n i)
def rhalves_L1_E (c : List Int) (st_ : St) : Prop := getI st_ 4 fun n => getI st_ 5 fun i => rhalves_L1_I c n i ∧ SubA st_ (rhalves_L1_F c n i)
def rhalves_L1_S1 (c : List Int) : St := ⟨27, [], [(5, (.one (.cel (.int .i64 (0 : Int))))), (4, (.one (.cel (.int .i64 (0 : Int))))), (3, (.one (.cel (.int .i64 (0 : Int))))), (2, (.one (.cel (.int .i64 (0 : Int))))), (1, (.one (.cel (.ptr 0 0)))), (0, (.one (.agg [(.row 0)])))], [[(.row 0)]], [⟨(.ints .i64 c), none⟩], 0⟩
def rhalves_L1_T (c : List Int) (n : Int) (i : Int) : Prop := (cnd (decide (i < (((List.length c) : Nat) : Int)))
  (cnd (decide ((0 : Int) ≤ i))
    (cnd (decide (i < (((List.length c) : Nat) : Int)))
      (cnd (decide ((List.getD c (Int.toNat i) (0 : Int)) < (23040 : Int)))
        ((rhalves_L1_I c (Go.IntKind.wrap Go.IntKind.i64 (n + (1 : Int))) (Go.IntKind.wrap Go.IntKind.i64 (i + (1 : Int)))) ∧ (((rhalves_L1_m c (Go.IntKind.wrap Go.IntKind.i64 (n + (1 : Int))) (Go.IntKind.wrap Go.IntKind.i64 (i + (1 : Int)))) < (rhalves_L1_m c n i)) ∧ (((Go.IntKind.wrap Go.IntKind.i64 (i + (1 : Int))) = (Go.IntKind.wrap Go.IntKind.i64 (i + (1 : Int)))) ∧ (((Go.IntKind.wrap Go.IntKind.i64 (n + (1 : Int))) = (Go.IntKind.wrap Go.IntKind.i64 (n + (1 : Int)))) ∧ (((0 : Int) = (0 : Int)) ∧ (((0 : Int) = (0 : Int)) ∧ (True ∧ (True ∧ ((c = c) ∧ True)))))))))
        ((rhalves_L1_I c n (Go.IntKind.wrap Go.IntKind.i64 (i + (1 : Int)))) ∧ (((rhalves_L1_m c n (Go.IntKind.wrap Go.IntKind.i64 (i + (1 : Int)))) < (rhalves_L1_m c n i)) ∧ (((Go.IntKind.wrap Go.IntKind.i64 (i + (1 : Int))) = (Go.IntKind.wrap Go.IntKind.i64 (i + (1 : Int)))) ∧ ((n = n) ∧ (((0 : Int) = (0 : Int)) ∧ (((0 : Int) = (0 : Int)) ∧ (True ∧ (True ∧ ((c = c) ∧ True))))))))))
      False)
    False)
  ((n = (hv c)) ∧ ((Go.IntKind.wrap Go.IntKind.i64 ((((List.length c) : Nat) : Int) - n)) = ((((List.length c) : Nat) : Int) - (hv c)))))
set_option maxRecDepth 100000 in
theorem rhalves_L1_tree (c : List Int) (n : Int) (i : Int) : rhalves_L1_T c n i = ex Try.prog (conOf []) (subC (bodyOf Try.f114) [1, 1, 0, 1, 0, 0]) (nextE (rhalves_L1_N c n i) (kont Try.prog (conOf []) (bodyOf Try.f114) [1, 1, 0, 1, 0] (retPost Try.prog Try.f114 1 (rhalves_res c)))) (rhalves_L1_F c n i) := by kernel_rfl
set_option maxRecDepth 100000 in
theorem rhalves_L1_round (c : List Int) (n : Int) (i : Int) (p0 : (decide (c.length ≤ 8)) = true) (hI_L1 : rhalves_L1_I c n i) : rhalves_L1_T c n i := by
  obtain ⟨⟨a1, a2⟩, a3⟩ := hI_L1
  simp only [decide_eq_true_eq] at p0
  have hF : ∀ (j m : Int), 0 ≤ j ∧ j ≤ (c.length : Int) → m = hv (c.take j.toNat) → rhalves_L1_I c m j := fun j m h1 h2 => ⟨h1, h2⟩
  have hμ : ∀ m, i < (c.length : Int) → rhalves_L1_m c m (i + 1) < rhalves_L1_m c n i := fun m h => by unfold rhalves_L1_m; omega
  have hb := hv_bd (c.take i.toNat)
  rw [List.length_take] at hb
  unfold rhalves_L1_T
  by_cases hi : i < (c.length : Int)
  · rw [decide_eq_true hi, decide_eq_true a1, w64 (n := i + 1) (by omega) (by omega), w64 (n := n + 1) (by omega) (by omega)]
    have hs := hv_snoc a1 hi
    cases hx : decide (c.getD i.toNat 0 < 23040) with
    | true =>
      rw [hx] at hs
      exact ⟨hF _ _ ⟨by omega, by omega⟩ (by rw [hs, a3]; rfl), hμ _ hi, by simp⟩
    | false =>
      rw [hx] at hs
      exact ⟨hF _ _ ⟨by omega, by omega⟩ (by rw [hs, a3]; simp), hμ _ hi, by simp⟩
  · rw [decide_eq_false hi]
    rw [List.take_of_length_le (by omega)] at a3 hb
    exact ⟨a3, by rw [← a3, w64 (by omega) (by omega)]⟩
set_option maxRecDepth 100000 in
theorem rhalves_L1_entry1 (c : List Int) : (((rhalves_L1_I c (0 : Int) (0 : Int)) ∧ (((0 : Int) = (0 : Int)) ∧ (((0 : Int) = (0 : Int)) ∧ (((0 : Int) = (0 : Int)) ∧ (((0 : Int) = (0 : Int)) ∧ (True ∧ (True ∧ ((c = c) ∧ True))))))))) = rhalves_L1_E c (rhalves_L1_S1 c) := by kernel_rfl
theorem rhalves_L1_1 (c : List Int) (p0 : (decide (c.length ≤ 8)) = true) (h : ((rhalves_L1_I c (0 : Int) (0 : Int)) ∧ (((0 : Int) = (0 : Int)) ∧ (((0 : Int) = (0 : Int)) ∧ (((0 : Int) = (0 : Int)) ∧ (((0 : Int) = (0 : Int)) ∧ (True ∧ (True ∧ ((c = c) ∧ True))))))))) : LoopP (ex Try.prog (conOf []) (subC (bodyOf Try.f114) [1, 1, 0, 1, 0, 0])) (kont Try.prog (conOf []) (bodyOf Try.f114) [1, 1, 0, 1, 0] (retPost Try.prog Try.f114 1 (rhalves_res c))) (rhalves_L1_S1 c) := by
  have hE : rhalves_L1_E c (rhalves_L1_S1 c) := Eq.mp (rhalves_L1_entry1 c) h
  unfold rhalves_L1_E at hE
  obtain ⟨n, hE⟩ := getI_of hE
  obtain ⟨i, hE⟩ := getI_of hE
  refine loop_of (α := (Int) × (Int)) (fun xx_ => rhalves_L1_F c xx_.1 xx_.2) (fun xx_ => rhalves_L1_I c xx_.1 xx_.2) (fun xx_ => rhalves_L1_m c xx_.1 xx_.2) (fun xx_ => rhalves_L1_N c xx_.1 xx_.2) (fun xx_ => rhalves_L1_T c xx_.1 xx_.2) (fun xx_ s_ h => ?_) ⟨⟨n, i⟩, hE⟩ (fun xx_ => rhalves_L1_tree c xx_.1 xx_.2) (fun xx_ hI => rhalves_L1_round c xx_.1 xx_.2 p0 hI)
  unfold rhalves_L1_N at h
  obtain ⟨n, h⟩ := getI_of h
  obtain ⟨i, h⟩ := getI_of h
  exact ⟨⟨n, i⟩, h⟩
set_option maxRecDepth 100000 in
theorem rhalves_tree (c : List Int) : ((LoopP (ex Try.prog (conOf []) (subC (bodyOf Try.f114) [1, 1, 0, 1, 0, 0])) (kont Try.prog (conOf []) (bodyOf Try.f114) [1, 1, 0, 1, 0] (retPost Try.prog Try.f114 1 (rhalves_res c))) (rhalves_L1_S1 c))) = EXD Try.prog (conOf []) Try.f114 [.agg [.row 0]] [.ints .i64 c] [] (rhalves_res c) := by kernel_rfl
theorem rhalves_holds (c : List Int) (p0 : (decide (c.length ≤ 8)) = true) : (LoopP (ex Try.prog (conOf []) (subC (bodyOf Try.f114) [1, 1, 0, 1, 0, 0])) (kont Try.prog (conOf []) (bodyOf Try.f114) [1, 1, 0, 1, 0] (retPost Try.prog Try.f114 1 (rhalves_res c))) (rhalves_L1_S1 c)) := by
  exact rhalves_L1_1 c p0 ⟨⟨⟨by omega, by omega⟩, by simp [hv]⟩, by simp⟩
set_option maxHeartbeats 2000000 in
theorem rhalves_ok : SoundEnt Try.prog rhalves_e := by
  refine ent_of_ex (Γ := (conOf [])) (conOf_sound snil) (by kernel_rfl) Try.func114 (by kernel_rfl) (by kernel_rfl) (fun args rows caps res h ho => ?_)
  change rhalves_go args rows caps = some res at h
  unfold rhalves_go at h
  split at h
  · simp only [Option.some.injEq] at h
    subst h
    rename_i q0_
    obtain ⟨p0, _⟩ := ho
    exact EX.of (rhalves_tree q0_) (rhalves_holds q0_ p0)
  · cases h
end Go.Proofs.Ythfliohfkhnpiaa

