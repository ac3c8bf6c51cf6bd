/- Cams: the program's halves and ValidCam, the reference's. -/
import Derived.Test.YthfliohfkhnpiaaJa
namespace Go.Proofs.Ythfliohfkhnpiaa
set_option linter.unusedVariables false
set_option linter.unusedSimpArgs false
open Go.RowKit

def halves_res (c : List Int) : CRes := ⟨[decide (c.length ≤ 8)], .tup [.cel (.int .i64 (hv c)), .cel (.int .i64 (c.length - hv c))], []⟩
def halves_go : List TV → List RowA → List (List CV) → Option CRes := fun args rows caps =>
  match args, rows, caps with
  | [.agg [.row 0]], [.ints .i64 c], [] => some (halves_res c)
  | _, _, _ => none
def halves_e : Ent := ⟨112, [.ints .i64 []], halves_go⟩
def halves_L1_F (c : List Int) (n : Int) (m : Int) (i : Int) : St := ⟨22, [], [(9, (.one (.cel (.int .i64 i)))), (8, (.one (.cel (.int .i64 (((List.length c) : Nat) : Int))))), (7, (.one (.cel (.row 0)))), (3, (.one (.cel (.int .i64 m)))), (2, (.one (.cel (.int .i64 n))))], [[(.row 0)]], [⟨(.ints .i64 c), none⟩], 0⟩
def halves_L1_I (c : List Int) (n : Int) (m : Int) (i : Int) : Prop := (0 ≤ i ∧ i ≤ c.length) ∧ (n = hv (c.take i.toNat)) ∧ (m = i - n)
def halves_L1_m (c : List Int) (n : Int) (m : Int) (i : Int) : Nat := (c.length - i).toNat
def halves_L1_N (c : List Int) (n' : Int) (m' : Int) (i' : Int) (st_ : St) : Prop := getI st_ 2 fun n => getI st_ 3 fun m => getI st_ 9 fun i => halves_L1_I c n m i ∧ halves_L1_m c n m i < halves_L1_m c n' m' i' ∧ SubA st_ (halves_L1_F c n m i)
def halves_L1_E (c : List Int) (st_ : St) : Prop := getI st_ 2 fun n => getI st_ 3 fun m => getI st_ 9 fun i => halves_L1_I c n m i ∧ SubA st_ (halves_L1_F c n m i)
def halves_L1_S1 (c : List Int) : St := ⟨22, [], [(9, (.one (.cel (.int .i64 (0 : Int))))), (8, (.one (.cel (.int .i64 (((List.length c) : Nat) : Int))))), (7, (.one (.cel (.row 0)))), (6, (.one (.cel (.ptr 0 0)))), (3, (.one (.cel (.int .i64 (0 : Int))))), (2, (.one (.cel (.int .i64 (0 : Int))))), (1, (.one (.cel (.ptr 0 0)))), (0, (.one (.agg [(.row 0)])))], [[(.row 0)]], [⟨(.ints .i64 c), none⟩], 0⟩
def halves_L1_T (c : List Int) (n : Int) (m : Int) (i : Int) : Prop := (cnd (decide (i < (((List.length c) : Nat) : Int)))
  (cnd (decide ((0 : Int) ≤ i))
    (cnd (decide (i < (((List.length c) : Nat) : Int)))
      (cnd (decide ((List.getD c (Int.toNat i) (0 : Int)) < (23040 : Int)))
        ((halves_L1_I c (Go.IntKind.wrap Go.IntKind.i64 (n + (1 : Int))) m (Go.IntKind.wrap Go.IntKind.i64 (i + (1 : Int)))) ∧ (((halves_L1_m c (Go.IntKind.wrap Go.IntKind.i64 (n + (1 : Int))) m (Go.IntKind.wrap Go.IntKind.i64 (i + (1 : Int)))) < (halves_L1_m c n m i)) ∧ (((Go.IntKind.wrap Go.IntKind.i64 (i + (1 : Int))) = (Go.IntKind.wrap Go.IntKind.i64 (i + (1 : Int)))) ∧ (((((List.length c) : Nat) : Int) = (((List.length c) : Nat) : Int)) ∧ (True ∧ ((m = m) ∧ (((Go.IntKind.wrap Go.IntKind.i64 (n + (1 : Int))) = (Go.IntKind.wrap Go.IntKind.i64 (n + (1 : Int)))) ∧ (True ∧ ((c = c) ∧ True)))))))))
        ((halves_L1_I c n (Go.IntKind.wrap Go.IntKind.i64 (m + (1 : Int))) (Go.IntKind.wrap Go.IntKind.i64 (i + (1 : Int)))) ∧ (((halves_L1_m c n (Go.IntKind.wrap Go.IntKind.i64 (m + (1 : Int))) (Go.IntKind.wrap Go.IntKind.i64 (i + (1 : Int)))) < (halves_L1_m c n m i)) ∧ (((Go.IntKind.wrap Go.IntKind.i64 (i + (1 : Int))) = (Go.IntKind.wrap Go.IntKind.i64 (i + (1 : Int)))) ∧ (((((List.length c) : Nat) : Int) = (((List.length c) : Nat) : Int)) ∧ (True ∧ (((Go.IntKind.wrap Go.IntKind.i64 (m + (1 : Int))) = (Go.IntKind.wrap Go.IntKind.i64 (m + (1 : Int)))) ∧ ((n = n) ∧ (True ∧ ((c = c) ∧ True))))))))))
      False)
    False)
  ((n = (hv c)) ∧ (m = ((((List.length c) : Nat) : Int) - (hv c)))))
set_option maxRecDepth 100000 in
theorem halves_L1_tree (c : List Int) (n : Int) (m : Int) (i : Int) : halves_L1_T c n m i = ex Try.prog (conOf []) (subC (bodyOf Try.f112) [1, 0, 1, 0, 0]) (nextE (halves_L1_N c n m i) (kont Try.prog (conOf []) (bodyOf Try.f112) [1, 0, 1, 0] (retPost Try.prog Try.f112 1 (halves_res c)))) (halves_L1_F c n m i) := by kernel_rfl
set_option maxRecDepth 100000 in
theorem halves_L1_round (c : List Int) (n : Int) (m : Int) (i : Int) (p0 : (decide (c.length ≤ 8)) = true) (hI_L1 : halves_L1_I c n m i) : halves_L1_T c n m i := by
  obtain ⟨⟨a1, a2⟩, a3, a4⟩ := hI_L1
  simp only [decide_eq_true_eq] at p0
  have hF : ∀ (j x y : Int), 0 ≤ j ∧ j ≤ (c.length : Int) → x = hv (c.take j.toNat) → y = j - x → halves_L1_I c x y j := fun j x y h1 h2 h3 => ⟨h1, h2, h3⟩
  have hμ : ∀ x y, i < (c.length : Int) → halves_L1_m c x y (i + 1) < halves_L1_m c n m i := fun x y h => by unfold halves_L1_m; omega
  have hb := hv_bd (c.take i.toNat)
  rw [List.length_take] at hb
  unfold halves_L1_T
  by_cases hi : i < (c.length : Int)
  · rw [decide_eq_true hi, decide_eq_true a1, w64 (n := i + 1) (by omega) (by omega), w64 (n := n + 1) (by omega) (by omega), w64 (n := m + 1) (by omega) (by omega)]
    have hs := hv_snoc a1 hi
    cases hx : decide (c.getD i.toNat 0 < 23040) with
    | true =>
      rw [hx] at hs
      exact ⟨hF _ _ _ ⟨by omega, by omega⟩ (by rw [hs, a3]; rfl) (by omega), hμ _ _ hi, by simp⟩
    | false =>
      rw [hx] at hs
      exact ⟨hF _ _ _ ⟨by omega, by omega⟩ (by rw [hs, a3]; simp) (by omega), hμ _ _ hi, by simp⟩
  · rw [decide_eq_false hi]
    rw [List.take_of_length_le (by omega)] at a3 hb
    exact ⟨a3, by omega⟩
set_option maxRecDepth 100000 in
theorem halves_L1_entry1 (c : List Int) : (((halves_L1_I c (0 : Int) (0 : Int) (0 : Int)) ∧ (((0 : Int) = (0 : Int)) ∧ (((((List.length c) : Nat) : Int) = (((List.length c) : Nat) : Int)) ∧ (True ∧ (((0 : Int) = (0 : Int)) ∧ (((0 : Int) = (0 : Int)) ∧ (True ∧ ((c = c) ∧ True))))))))) = halves_L1_E c (halves_L1_S1 c) := by kernel_rfl
theorem halves_L1_1 (c : List Int) (p0 : (decide (c.length ≤ 8)) = true) (h : ((halves_L1_I c (0 : Int) (0 : Int) (0 : Int)) ∧ (((0 : Int) = (0 : Int)) ∧ (((((List.length c) : Nat) : Int) = (((List.length c) : Nat) : Int)) ∧ (True ∧ (((0 : Int) = (0 : Int)) ∧ (((0 : Int) = (0 : Int)) ∧ (True ∧ ((c = c) ∧ True))))))))) : LoopP (ex Try.prog (conOf []) (subC (bodyOf Try.f112) [1, 0, 1, 0, 0])) (kont Try.prog (conOf []) (bodyOf Try.f112) [1, 0, 1, 0] (retPost Try.prog Try.f112 1 (halves_res c))) (halves_L1_S1 c) := by
  have hE : halves_L1_E c (halves_L1_S1 c) := Eq.mp (halves_L1_entry1 c) h
  unfold halves_L1_E at hE
  obtain ⟨n, hE⟩ := getI_of hE
  obtain ⟨m, hE⟩ := getI_of hE
  obtain ⟨i, hE⟩ := getI_of hE
  refine loop_of (α := (Int) × (Int) × (Int)) (fun xx_ => halves_L1_F c xx_.1 xx_.2.1 xx_.2.2) (fun xx_ => halves_L1_I c xx_.1 xx_.2.1 xx_.2.2) (fun xx_ => halves_L1_m c xx_.1 xx_.2.1 xx_.2.2) (fun xx_ => halves_L1_N c xx_.1 xx_.2.1 xx_.2.2) (fun xx_ => halves_L1_T c xx_.1 xx_.2.1 xx_.2.2) (fun xx_ s_ h => ?_) ⟨⟨n, m, i⟩, hE⟩ (fun xx_ => halves_L1_tree c xx_.1 xx_.2.1 xx_.2.2) (fun xx_ hI => halves_L1_round c xx_.1 xx_.2.1 xx_.2.2 p0 hI)
  unfold halves_L1_N at h
  obtain ⟨n, h⟩ := getI_of h
  obtain ⟨m, h⟩ := getI_of h
  obtain ⟨i, h⟩ := getI_of h
  exact ⟨⟨n, m, i⟩, h⟩
set_option maxRecDepth 100000 in
theorem halves_tree (c : List Int) : ((LoopP (ex Try.prog (conOf []) (subC (bodyOf Try.f112) [1, 0, 1, 0, 0])) (kont Try.prog (conOf []) (bodyOf Try.f112) [1, 0, 1, 0] (retPost Try.prog Try.f112 1 (halves_res c))) (halves_L1_S1 c))) = EXD Try.prog (conOf []) Try.f112 [.agg [.row 0]] [.ints .i64 c] [] (halves_res c) := by kernel_rfl
theorem halves_holds (c : List Int) (p0 : (decide (c.length ≤ 8)) = true) : (LoopP (ex Try.prog (conOf []) (subC (bodyOf Try.f112) [1, 0, 1, 0, 0])) (kont Try.prog (conOf []) (bodyOf Try.f112) [1, 0, 1, 0] (retPost Try.prog Try.f112 1 (halves_res c))) (halves_L1_S1 c)) := by
  exact halves_L1_1 c p0 ⟨⟨⟨by omega, by omega⟩, by simp [hv], by simp⟩, by simp⟩
set_option maxHeartbeats 2000000 in
theorem halves_ok : SoundEnt Try.prog halves_e := by
  refine ent_of_ex (Γ := (conOf [])) (conOf_sound snil) (by kernel_rfl) Try.func112 (by kernel_rfl) (by kernel_rfl) (fun args rows caps res h ho => ?_)
  change halves_go args rows caps = some res at h
  unfold halves_go at h
  split at h
  · simp only [Option.some.injEq] at h
    subst h
    rename_i q0_
    obtain ⟨p0, _⟩ := ho
    exact EX.of (halves_tree q0_) (halves_holds q0_ p0)
  · cases h
theorem camG_head {a : Int} {l : List Int} (h : camE a = false) : camG (a :: l) = false := by
  cases l <;> simp [camG, h]
theorem camE_bd {x : Int} (h : camE x = true) : 0 ≤ x ∧ x < 46080 := by
  simp only [camE, Bool.and_eq_true, decide_eq_true_eq] at h
  exact ⟨h.1.1.1, h.1.1.2⟩
theorem drop_consI {c : List Int} {i : Int} (h0 : 0 ≤ i) (h1 : i < c.length) : c.drop i.toNat = c.getD i.toNat 0 :: c.drop (i.toNat + 1) := by
  have h : i.toNat < c.length := by omega
  rw [List.drop_eq_getElem_cons h, List.getD_eq_getElem?_getD, List.getElem?_eq_getElem h]
  rfl
def rvcam_res (c : List Int) : CRes := ⟨[], .one (.cel (.bool (cValid c))), []⟩
def rvcam_go : List TV → List RowA → List (List CV) → Option CRes := fun args rows caps =>
  match args, rows, caps with
  | [.agg [.row 0]], [.ints .i64 c], [] => some (rvcam_res c)
  | _, _, _ => none
def rvcam_e : Ent := ⟨78, [.ints .i64 []], rvcam_go⟩
def rvcam_L1_F (c : List Int) (i : Int) : St := ⟨76, [], [(4, (.one (.cel (.int .i64 i)))), (3, (.one (.cel (.int .i64 (((List.length c) : Nat) : Int))))), (2, (.one (.cel (.bool Bool.false)))), (1, (.one (.cel (.ptr 0 0))))], [[(.row 0)]], [⟨(.ints .i64 c), none⟩], 0⟩
def rvcam_L1_I (c : List Int) (i : Int) : Prop := (0 ≤ i ∧ i ≤ c.length ∧ 1 ≤ c.length ∧ c.length ≤ 8) ∧ (camG c = camG (c.drop (i - 1).toNat)) ∧ (i = 0 ∨ camE (c.getD (i - 1).toNat 0) = true)
def rvcam_L1_m (c : List Int) (i : Int) : Nat := (c.length - i).toNat
def rvcam_L1_N (c : List Int) (i' : Int) (st_ : St) : Prop := getI st_ 4 fun i => rvcam_L1_I c i ∧ rvcam_L1_m c i < rvcam_L1_m c i' ∧ SubA st_ (rvcam_L1_F c i)
def rvcam_L1_E (c : List Int) (st_ : St) : Prop := getI st_ 4 fun i => rvcam_L1_I c i ∧ SubA st_ (rvcam_L1_F c i)
def rvcam_L1_S1 (c : List Int) : St := ⟨76, [13], [(4, (.one (.cel (.int .i64 (0 : Int))))), (16, (.one (.cel (.bool ((decide ((((List.length c) : Nat) : Int) < (1 : Int))) || (decide ((8 : Int) < (((List.length c) : Nat) : Int)))))))), (15, (.spec 13 Bool.false (.cel (.bool (decide ((8 : Int) < (((List.length c) : Nat) : Int))))))), (14, (.spec 13 Bool.false (.cel (.int .i64 (((List.length c) : Nat) : Int))))), (13, (.one (.cel (.bool (decide ((((List.length c) : Nat) : Int) < (1 : Int))))))), (12, (.one (.cel (.bool (decide ((((List.length c) : Nat) : Int) < (1 : Int))))))), (11, (.one (.cel (.int .i64 (((List.length c) : Nat) : Int))))), (3, (.one (.cel (.int .i64 (((List.length c) : Nat) : Int))))), (10, (.one (.cel (.int .i64 (((List.length c) : Nat) : Int))))), (9, (.one (.cel (.row 0)))), (8, (.one (.cel (.ptr 0 0)))), (2, (.one (.cel (.bool Bool.false)))), (1, (.one (.cel (.ptr 0 0)))), (0, (.one (.agg [(.row 0)])))], [[(.row 0)]], [⟨(.ints .i64 c), none⟩], 0⟩
def rvcam_L1_T (c : List Int) (i : Int) : Prop := (cnd (decide (i < (((List.length c) : Nat) : Int)))
  (cnd (decide ((0 : Int) ≤ i))
    (cnd (decide (i < (((List.length c) : Nat) : Int)))
      (cnd ((!(((decide ((List.getD c (Int.toNat i) (0 : Int)) < (0 : Int))) || (decide ((46080 : Int) ≤ (List.getD c (Int.toNat i) (0 : Int))))) == Bool.false)) || (decide ((23040 : Int) ≠ (0 : Int))))
        (cnd ((!((((decide ((List.getD c (Int.toNat i) (0 : Int)) < (0 : Int))) || (decide ((46080 : Int) ≤ (List.getD c (Int.toNat i) (0 : Int))))) || (decide ((Int.tmod (List.getD c (Int.toNat i) (0 : Int)) (23040 : Int)) < (1920 : Int)))) == Bool.false)) || (decide ((23040 : Int) ≠ (0 : Int))))
          (cnd ((!((((((decide ((List.getD c (Int.toNat i) (0 : Int)) < (0 : Int))) || (decide ((46080 : Int) ≤ (List.getD c (Int.toNat i) (0 : Int))))) || (decide ((Int.tmod (List.getD c (Int.toNat i) (0 : Int)) (23040 : Int)) < (1920 : Int)))) || (decide ((21120 : Int) < (Int.tmod (List.getD c (Int.toNat i) (0 : Int)) (23040 : Int))))) == Bool.false) && ((decide ((0 : Int) < i)) == Bool.true))) || (decide ((0 : Int) ≤ (Go.IntKind.wrap Go.IntKind.i64 (i - (1 : Int))))))
            (cnd ((!((((((decide ((List.getD c (Int.toNat i) (0 : Int)) < (0 : Int))) || (decide ((46080 : Int) ≤ (List.getD c (Int.toNat i) (0 : Int))))) || (decide ((Int.tmod (List.getD c (Int.toNat i) (0 : Int)) (23040 : Int)) < (1920 : Int)))) || (decide ((21120 : Int) < (Int.tmod (List.getD c (Int.toNat i) (0 : Int)) (23040 : Int))))) == Bool.false) && ((decide ((0 : Int) < i)) == Bool.true))) || (decide ((Go.IntKind.wrap Go.IntKind.i64 (i - (1 : Int))) < (((List.length c) : Nat) : Int))))
              (cnd ((!(((((((decide ((List.getD c (Int.toNat i) (0 : Int)) < (0 : Int))) || (decide ((46080 : Int) ≤ (List.getD c (Int.toNat i) (0 : Int))))) || (decide ((Int.tmod (List.getD c (Int.toNat i) (0 : Int)) (23040 : Int)) < (1920 : Int)))) || (decide ((21120 : Int) < (Int.tmod (List.getD c (Int.toNat i) (0 : Int)) (23040 : Int))))) == Bool.false) && ((decide ((0 : Int) < i)) == Bool.true)) && ((decide ((List.getD c (Int.toNat i) (0 : Int)) ≤ (List.getD c (Int.toNat (Go.IntKind.wrap Go.IntKind.i64 (i - (1 : Int)))) (0 : Int)))) == Bool.false))) || (decide ((0 : Int) ≤ (Go.IntKind.wrap Go.IntKind.i64 (i - (1 : Int))))))
                (cnd ((!(((((((decide ((List.getD c (Int.toNat i) (0 : Int)) < (0 : Int))) || (decide ((46080 : Int) ≤ (List.getD c (Int.toNat i) (0 : Int))))) || (decide ((Int.tmod (List.getD c (Int.toNat i) (0 : Int)) (23040 : Int)) < (1920 : Int)))) || (decide ((21120 : Int) < (Int.tmod (List.getD c (Int.toNat i) (0 : Int)) (23040 : Int))))) == Bool.false) && ((decide ((0 : Int) < i)) == Bool.true)) && ((decide ((List.getD c (Int.toNat i) (0 : Int)) ≤ (List.getD c (Int.toNat (Go.IntKind.wrap Go.IntKind.i64 (i - (1 : Int)))) (0 : Int)))) == Bool.false))) || (decide ((Go.IntKind.wrap Go.IntKind.i64 (i - (1 : Int))) < (((List.length c) : Nat) : Int))))
                  (cnd (((((decide ((List.getD c (Int.toNat i) (0 : Int)) < (0 : Int))) || (decide ((46080 : Int) ≤ (List.getD c (Int.toNat i) (0 : Int))))) || (decide ((Int.tmod (List.getD c (Int.toNat i) (0 : Int)) (23040 : Int)) < (1920 : Int)))) || (decide ((21120 : Int) < (Int.tmod (List.getD c (Int.toNat i) (0 : Int)) (23040 : Int))))) || ((decide ((0 : Int) < i)) && ((decide ((List.getD c (Int.toNat i) (0 : Int)) ≤ (List.getD c (Int.toNat (Go.IntKind.wrap Go.IntKind.i64 (i - (1 : Int)))) (0 : Int)))) || (decide ((Go.IntKind.wrap Go.IntKind.i64 ((List.getD c (Int.toNat i) (0 : Int)) - (List.getD c (Int.toNat (Go.IntKind.wrap Go.IntKind.i64 (i - (1 : Int)))) (0 : Int)))) < (1920 : Int))))))
                    (Bool.false = (cValid c))
                    ((rvcam_L1_I c (Go.IntKind.wrap Go.IntKind.i64 (i + (1 : Int)))) ∧ (((rvcam_L1_m c (Go.IntKind.wrap Go.IntKind.i64 (i + (1 : Int)))) < (rvcam_L1_m c i)) ∧ (((Go.IntKind.wrap Go.IntKind.i64 (i + (1 : Int))) = (Go.IntKind.wrap Go.IntKind.i64 (i + (1 : Int)))) ∧ (((((List.length c) : Nat) : Int) = (((List.length c) : Nat) : Int)) ∧ ((Bool.false = Bool.false) ∧ (True ∧ (True ∧ ((c = c) ∧ True)))))))))
                  False)
                False)
              False)
            False)
          False)
        False)
      False)
    False)
  (cnd (decide ((List.length c) ≤ 8))
    ((!(decide ((hv c) = ((((List.length c) : Nat) : Int) - (hv c))))) = (cValid c))
    False))
set_option maxRecDepth 100000 in
theorem rvcam_L1_tree (c : List Int) (i : Int) : rvcam_L1_T c i = ex Try.prog (conOf [rhalves_e]) (subC (bodyOf Try.f78) [1, 1, 1, 0, 1, 0, 0]) (nextE (rvcam_L1_N c i) (kont Try.prog (conOf [rhalves_e]) (bodyOf Try.f78) [1, 1, 1, 0, 1, 0] (retPost Try.prog Try.f78 1 (rvcam_res c)))) (rvcam_L1_F c i) := by kernel_rfl
set_option maxRecDepth 100000 in
theorem rvcam_L1_round (c : List Int) (i : Int)  (hI_L1 : rvcam_L1_I c i) : rvcam_L1_T c i := by
  obtain ⟨⟨a1, a2, a3, a4⟩, a5, a6⟩ := hI_L1
  have hF : camG c = camG (c.drop i.toNat) → camE (c.getD i.toNat 0) = true → i < (c.length : Int) → rvcam_L1_I c (i + 1) := fun h1 h2 h3 => ⟨⟨by omega, by omega, a3, a4⟩, by rw [show i + 1 - 1 = i by omega]; exact h1, .inr (by rw [show i + 1 - 1 = i by omega]; exact h2)⟩
  have hμ : i < (c.length : Int) → rvcam_L1_m c (i + 1) < rvcam_L1_m c i := fun h => by unfold rvcam_L1_m; omega
  have hcv : cValid c = (camG c && !decide (hv c = c.length - hv c)) := by unfold cValid; rw [decide_eq_true a3, decide_eq_true a4]; rfl
  unfold rvcam_L1_T
  by_cases hi : i < (c.length : Int)
  · have hd := drop_consI a1 hi
    have e23 : decide ((23040 : Int) ≠ 0) = true := by decide
    rw [decide_eq_true hi, decide_eq_true a1, e23, w64 (n := i + 1) (by omega) (by omega), w64 (n := i - 1) (by omega) (by omega), hcv]
    by_cases hx : 0 ≤ c.getD i.toNat 0
    · have hc4 : (((decide (c.getD i.toNat 0 < 0) || decide (46080 ≤ c.getD i.toNat 0)) || decide (c.getD i.toNat 0 % 23040 < 1920)) || decide (21120 < c.getD i.toNat 0 % 23040)) = !camE (c.getD i.toNat 0) := by
        rw [Bool.eq_iff_iff]; simp [camE]; try omega
      rw [tmod_pos hx, hc4]
      simp only [Bool.or_true, cnd]
      by_cases h0 : i = 0
      · subst h0
        cases hE : camE (c.getD (0 : Int).toNat 0) with
        | true => exact ⟨hF a5 hE hi, hμ hi, by simp⟩
        | false =>
          have : camG c = false := by
            rw [a5, show ((0 : Int) - 1).toNat = (0 : Int).toNat from rfl, hd]
            exact camG_head hE
          simp [cnd, this]
      · have hd2 := drop_consI (c := c) (i := i - 1) (by omega) (by omega)
        rw [show (i - 1).toNat + 1 = i.toNat by omega] at hd2
        have hy : camE (c.getD (i - 1).toNat 0) = true := by rcases a6 with h | h; exact absurd h h0; exact h
        have hG : camG c = (decide (c.getD (i - 1).toNat 0 + 1920 ≤ c.getD i.toNat 0) && camG (c.drop i.toNat)) := by
          rw [a5, hd2, hd, camG, hy]; rfl
        rw [decide_eq_true (show 0 ≤ i - 1 by omega), decide_eq_true (show i - 1 < (c.length : Int) by omega), decide_eq_true (show 0 < i by omega)]
        simp only [Bool.or_true, cnd]
        cases hE : camE (c.getD i.toNat 0) with
        | false =>
          have : camG (c.drop i.toNat) = false := by rw [hd]; exact camG_head hE
          rw [hG, this]
          simp [cnd]
        | true =>
          have q1 := camE_bd hE
          have q2 := camE_bd hy
          rw [w64 (n := c.getD i.toNat 0 - c.getD (i - 1).toNat 0) (by omega) (by omega)]
          by_cases hg : c.getD (i - 1).toNat 0 + 1920 ≤ c.getD i.toNat 0
          · rw [decide_eq_true hg, Bool.true_and] at hG
            rw [decide_eq_false (show ¬ c.getD i.toNat 0 ≤ c.getD (i - 1).toNat 0 by omega), decide_eq_false (show ¬ c.getD i.toNat 0 - c.getD (i - 1).toNat 0 < 1920 by omega)]
            exact ⟨hF hG hE hi, hμ hi, by simp⟩
          · rw [hG, decide_eq_false hg, decide_eq_true (show c.getD i.toNat 0 - c.getD (i - 1).toNat 0 < 1920 by omega), Bool.or_true]
            rfl
    · have hE : camE (c.getD i.toNat 0) = false := by unfold camE; rw [decide_eq_false hx]; rfl
      have hG : camG c = false := by
        by_cases h0 : i = 0
        · subst h0
          rw [a5, show ((0 : Int) - 1).toNat = (0 : Int).toNat from rfl, hd]
          exact camG_head hE
        · have hd2 := drop_consI (c := c) (i := i - 1) (by omega) (by omega)
          rw [show (i - 1).toNat + 1 = i.toNat by omega] at hd2
          rw [a5, hd2, hd, camG, camG_head hE, Bool.and_false]
      rw [hG, decide_eq_true (show c.getD i.toNat 0 < 0 by omega)]
      simp [cnd]
  · rw [decide_eq_false hi, decide_eq_true a4, hcv]
    have : camG c = true := by
      rw [a5]
      rcases a6 with h | h
      · omega
      · rw [List.drop_eq_getElem_cons (by omega), List.drop_eq_nil_of_le (by omega)]
        rw [List.getD_eq_getElem?_getD, List.getElem?_eq_getElem (by omega)] at h
        exact h
    rw [this]
    simp [cnd]
set_option maxRecDepth 100000 in
theorem rvcam_L1_entry1 (c : List Int) : (((rvcam_L1_I c (0 : Int)) ∧ (((0 : Int) = (0 : Int)) ∧ (((((List.length c) : Nat) : Int) = (((List.length c) : Nat) : Int)) ∧ ((Bool.false = Bool.false) ∧ (True ∧ (True ∧ ((c = c) ∧ True)))))))) = rvcam_L1_E c (rvcam_L1_S1 c) := by kernel_rfl
theorem rvcam_L1_1 (c : List Int)  (h : ((rvcam_L1_I c (0 : Int)) ∧ (((0 : Int) = (0 : Int)) ∧ (((((List.length c) : Nat) : Int) = (((List.length c) : Nat) : Int)) ∧ ((Bool.false = Bool.false) ∧ (True ∧ (True ∧ ((c = c) ∧ True)))))))) : LoopP (ex Try.prog (conOf [rhalves_e]) (subC (bodyOf Try.f78) [1, 1, 1, 0, 1, 0, 0])) (kont Try.prog (conOf [rhalves_e]) (bodyOf Try.f78) [1, 1, 1, 0, 1, 0] (retPost Try.prog Try.f78 1 (rvcam_res c))) (rvcam_L1_S1 c) := by
  have hE : rvcam_L1_E c (rvcam_L1_S1 c) := Eq.mp (rvcam_L1_entry1 c) h
  unfold rvcam_L1_E at hE
  obtain ⟨i, hE⟩ := getI_of hE
  refine loop_of (α := (Int)) (fun xx_ => rvcam_L1_F c xx_) (fun xx_ => rvcam_L1_I c xx_) (fun xx_ => rvcam_L1_m c xx_) (fun xx_ => rvcam_L1_N c xx_) (fun xx_ => rvcam_L1_T c xx_) (fun xx_ s_ h => ?_) ⟨i, hE⟩ (fun xx_ => rvcam_L1_tree c xx_) (fun xx_ hI => rvcam_L1_round c xx_  hI)
  unfold rvcam_L1_N at h
  obtain ⟨i, h⟩ := getI_of h
  exact ⟨i, h⟩
set_option maxRecDepth 100000 in
theorem rvcam_tree (c : List Int) : ((cnd ((decide ((((List.length c) : Nat) : Int) < (1 : Int))) || (decide ((8 : Int) < (((List.length c) : Nat) : Int))))
  (Bool.false = (cValid c))
  (LoopP (ex Try.prog (conOf [rhalves_e]) (subC (bodyOf Try.f78) [1, 1, 1, 0, 1, 0, 0])) (kont Try.prog (conOf [rhalves_e]) (bodyOf Try.f78) [1, 1, 1, 0, 1, 0] (retPost Try.prog Try.f78 1 (rvcam_res c))) (rvcam_L1_S1 c)))) = EXD Try.prog (conOf [rhalves_e]) Try.f78 [.agg [.row 0]] [.ints .i64 c] [] (rvcam_res c) := by kernel_rfl
theorem rvcam_holds (c : List Int)  : (cnd ((decide ((((List.length c) : Nat) : Int) < (1 : Int))) || (decide ((8 : Int) < (((List.length c) : Nat) : Int))))
  (Bool.false = (cValid c))
  (LoopP (ex Try.prog (conOf [rhalves_e]) (subC (bodyOf Try.f78) [1, 1, 1, 0, 1, 0, 0])) (kont Try.prog (conOf [rhalves_e]) (bodyOf Try.f78) [1, 1, 1, 0, 1, 0] (retPost Try.prog Try.f78 1 (rvcam_res c))) (rvcam_L1_S1 c))) := by
  refine cnd_i (fun h => ?_) (fun h => ?_)
  · simp only [Bool.or_eq_true, decide_eq_true_eq] at h
    unfold cValid
    rcases h with h | h
    · rw [decide_eq_false (show ¬ 1 ≤ c.length by omega)]; rfl
    · rw [decide_eq_false (show ¬ c.length ≤ 8 by omega)]; simp
  · simp only [Bool.or_eq_false_iff, decide_eq_false_iff_not] at h
    exact rvcam_L1_1 c ⟨⟨⟨by omega, by omega, by omega, by omega⟩, by simp, .inl rfl⟩, by simp⟩
set_option maxHeartbeats 2000000 in
theorem rvcam_ok : SoundEnt Try.prog rvcam_e := by
  refine ent_of_ex (Γ := (conOf [rhalves_e])) (conOf_sound (scons rhalves_ok snil)) (by kernel_rfl) Try.func78 (by kernel_rfl) (by kernel_rfl) (fun args rows caps res h ho => ?_)
  change rvcam_go args rows caps = some res at h
  unfold rvcam_go at h
  split at h
  · simp only [Option.some.injEq] at h
    subst h
    rename_i q0_
    skip
    exact EX.of (rvcam_tree q0_) (rvcam_holds q0_)
  · cases h
end Go.Proofs.Ythfliohfkhnpiaa

