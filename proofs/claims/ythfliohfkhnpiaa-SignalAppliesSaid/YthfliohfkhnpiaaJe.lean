/- Cams: the reference's edges; the law of edges. -/
import Derived.Test.YthfliohfkhnpiaaJd
import Derived.Test.YthfliohfkhnpiaaJ8
namespace Go.Proofs.Ythfliohfkhnpiaa
set_option linter.unusedVariables false
set_option linter.unusedSimpArgs false
open Go.RowKit

def rcnext_res (c : List Int) (p : Int) : CRes := ⟨[cValid c, isT p], .one (.cel (.int .i64 (cxA c p))), []⟩
def rcnext_go : List TV → List RowA → List (List CV) → Option CRes := fun args rows caps =>
  match args, rows, caps with
  | [.agg [.row 0], .cel (.int .i64 p)], [.ints .i64 c], [] => some (rcnext_res c p)
  | _, _, _ => none
def rcnext_e : Ent := ⟨79, [.ints .i64 []], rcnext_go⟩
def rcnext_L1_F (c : List Int) (p : Int) (b : Int) : St := ⟨36, [], [(5, (.one (.cel (.int .i64 b)))), (4, (.one (.cel (.int .i64 (0 : Int))))), (2, (.one (.cel (.ptr 0 0)))), (1, (.one (.cel (.int .i64 p))))], [[(.row 0)]], [⟨(.ints .i64 c), none⟩], 0⟩
def rcnext_L1_I (c : List Int) (p : Int) (b : Int) : Prop := (b = p - p % 46080 ∨ (b = p - p % 46080 + 46080 ∧ cxF c (p - p % 46080) p = none))
def rcnext_L1_m (c : List Int) (p : Int) (b : Int) : Nat := (p + 100000 - b).toNat
def rcnext_L1_N (c : List Int) (p : Int) (b' : Int) (st_ : St) : Prop := getI st_ 5 fun b => rcnext_L1_I c p b ∧ rcnext_L1_m c p b < rcnext_L1_m c p b' ∧ SubA st_ (rcnext_L1_F c p b)
def rcnext_L1_E (c : List Int) (p : Int) (st_ : St) : Prop := getI st_ 5 fun b => rcnext_L1_I c p b ∧ SubA st_ (rcnext_L1_F c p b)
def rcnext_L1_S1 (c : List Int) (p : Int) : St := ⟨36, [], [(5, (.one (.cel (.int .i64 (Go.IntKind.wrap Go.IntKind.i64 (p - (Int.tmod p (46080 : Int)))))))), (10, (.one (.cel (.int .i64 (Go.IntKind.wrap Go.IntKind.i64 (p - (Int.tmod p (46080 : Int)))))))), (9, (.one (.cel (.int .i64 (Int.tmod p (46080 : Int)))))), (8, (.one (.cel (.int .i64 p)))), (7, (.one (.cel (.int .i64 p)))), (4, (.one (.cel (.int .i64 (0 : Int))))), (2, (.one (.cel (.ptr 0 0)))), (0, (.one (.agg [(.row 0)]))), (1, (.one (.cel (.int .i64 p))))], [[(.row 0)]], [⟨(.ints .i64 c), none⟩], 0⟩
def rcnext_L2_F (c : List Int) (p : Int) (b : Int) (i : Int) : St := ⟨36, [], [(6, (.one (.cel (.int .i64 i)))), (5, (.one (.cel (.int .i64 b)))), (4, (.one (.cel (.int .i64 (0 : Int))))), (2, (.one (.cel (.ptr 0 0)))), (1, (.one (.cel (.int .i64 p))))], [[(.row 0)]], [⟨(.ints .i64 c), none⟩], 0⟩
def rcnext_L2_I (c : List Int) (p : Int) (b : Int) (i : Int) : Prop := (0 ≤ i ∧ i ≤ c.length) ∧ (cxF c b p = cxF (c.drop i.toNat) b p) ∧ (b = p - p % 46080 ∨ i = 0)
def rcnext_L2_m (c : List Int) (p : Int) (b : Int) (i : Int) : Nat := (c.length - i).toNat
def rcnext_L2_N (c : List Int) (p : Int) (b : Int) (i' : Int) (st_ : St) : Prop := getI st_ 6 fun i => rcnext_L2_I c p b i ∧ rcnext_L2_m c p b i < rcnext_L2_m c p b i' ∧ SubA st_ (rcnext_L2_F c p b i)
def rcnext_L2_E (c : List Int) (p : Int) (b : Int) (st_ : St) : Prop := getI st_ 6 fun i => rcnext_L2_I c p b i ∧ SubA st_ (rcnext_L2_F c p b i)
def rcnext_L2_S1 (c : List Int) (p : Int) (b : Int) : St := ⟨36, [], [(6, (.one (.cel (.int .i64 (0 : Int))))), (5, (.one (.cel (.int .i64 b)))), (4, (.one (.cel (.int .i64 (0 : Int))))), (2, (.one (.cel (.ptr 0 0)))), (1, (.one (.cel (.int .i64 p))))], [[(.row 0)]], [⟨(.ints .i64 c), none⟩], 0⟩
def rcnext_L2_T (c : List Int) (p : Int) (b : Int) (i : Int) : Prop := (cnd (decide (i < (((List.length c) : Nat) : Int)))
  (cnd (decide ((0 : Int) ≤ i))
    (cnd (decide (i < (((List.length c) : Nat) : Int)))
      (cnd (decide (p < (Go.IntKind.wrap Go.IntKind.i64 (b + (List.getD c (Int.toNat i) (0 : Int))))))
        (cnd (decide ((0 : Int) ≤ i))
          (cnd (decide (i < (((List.length c) : Nat) : Int)))
            ((Go.IntKind.wrap Go.IntKind.i64 (b + (List.getD c (Int.toNat i) (0 : Int)))) = (cxA c p))
            False)
          False)
        ((rcnext_L2_I c p b (Go.IntKind.wrap Go.IntKind.i64 (i + (1 : Int)))) ∧ (((rcnext_L2_m c p b (Go.IntKind.wrap Go.IntKind.i64 (i + (1 : Int)))) < (rcnext_L2_m c p b i)) ∧ (((Go.IntKind.wrap Go.IntKind.i64 (i + (1 : Int))) = (Go.IntKind.wrap Go.IntKind.i64 (i + (1 : Int)))) ∧ ((b = b) ∧ (((0 : Int) = (0 : Int)) ∧ (True ∧ ((p = p) ∧ (True ∧ ((c = c) ∧ True))))))))))
      False)
    False)
  ((rcnext_L1_I c p (Go.IntKind.wrap Go.IntKind.i64 (b + (46080 : Int)))) ∧ (((rcnext_L1_m c p (Go.IntKind.wrap Go.IntKind.i64 (b + (46080 : Int)))) < (rcnext_L1_m c p b)) ∧ (((Go.IntKind.wrap Go.IntKind.i64 (b + (46080 : Int))) = (Go.IntKind.wrap Go.IntKind.i64 (b + (46080 : Int)))) ∧ (((0 : Int) = (0 : Int)) ∧ (True ∧ ((p = p) ∧ (True ∧ ((c = c) ∧ True)))))))))
set_option maxRecDepth 100000 in
theorem rcnext_L2_tree (c : List Int) (p : Int) (b : Int) (i : Int) : rcnext_L2_T c p b i = ex Try.prog (conOf []) (subC (subC (bodyOf Try.f79) [1, 1, 0, 0]) [0, 0, 1, 0, 0]) (nextE (rcnext_L2_N c p b i) (kont Try.prog (conOf []) (subC (bodyOf Try.f79) [1, 1, 0, 0]) [0, 0, 1, 0] (nextE (rcnext_L1_N c p b) (kont Try.prog (conOf []) (bodyOf Try.f79) [1, 1, 0] (retPost Try.prog Try.f79 1 (rcnext_res c p)))))) (rcnext_L2_F c p b i) := by kernel_rfl
set_option maxRecDepth 100000 in
theorem rcnext_L2_round (c : List Int) (p : Int) (b : Int) (i : Int) (p0 : (cValid c) = true) (p1 : (isT p) = true) (hI_L1 : rcnext_L1_I c p b) (hI_L2 : rcnext_L2_I c p b i) : rcnext_L2_T c p b i := by
  obtain ⟨⟨a1, a2⟩, a3, a4⟩ := hI_L2
  have hp := isT_iff.1 p1
  obtain ⟨v1, v2, _⟩ := cv_iff p0
  have hb : 0 ≤ b ∧ b ≤ p + 46080 := by rcases hI_L1 with h | h <;> omega
  have hF : ∀ j : Int, 0 ≤ j ∧ j ≤ (c.length : Int) → cxF c b p = cxF (c.drop j.toNat) b p → (b = p - p % 46080 ∨ j = 0) → rcnext_L2_I c p b j := fun j h1 h2 h3 => ⟨h1, h2, h3⟩
  have hμ : i < (c.length : Int) → rcnext_L2_m c p b (i + 1) < rcnext_L2_m c p b i := fun h => by unfold rcnext_L2_m; omega
  have hG : cxF c (p - p % 46080) p = none → b = p - p % 46080 → rcnext_L1_I c p (b + 46080) := fun h1 h2 => .inr ⟨by omega, h1⟩
  have hν : rcnext_L1_m c p (b + 46080) < rcnext_L1_m c p b := by unfold rcnext_L1_m; omega
  obtain ⟨m1, m2, m3⟩ := cx_head p0
  unfold rcnext_L2_T
  by_cases hi : i < (c.length : Int)
  · obtain ⟨g1, g2⟩ := cx_get p0 a1 hi
    rw [drop_consI a1 hi, cxF_cons] at a3
    rw [decide_eq_true hi, decide_eq_true a1, w64 (n := b + c.getD i.toNat 0) (by omega) (by omega), w64 (n := i + 1) (by omega) (by omega)]
    by_cases hc : p < b + c.getD i.toNat 0
    · rw [if_pos hc] at a3
      rw [decide_eq_true hc]
      show b + c.getD i.toNat 0 = cxA c p
      rcases hI_L1 with h | ⟨h, h'⟩
      · unfold cxA
        rw [← h, a3]
      · have : i = 0 := by rcases a4 with h2 | h2 <;> omega
        unfold cxA
        rw [h', this]
        simp only []
        rw [show ((0 : Int)).toNat = 0 from rfl, h]
    · rw [if_neg hc] at a3
      rw [decide_eq_false hc]
      refine ⟨hF _ ⟨by omega, by omega⟩ ?_ ?_, hμ hi, by simp⟩
      · rw [a3, show (i + 1).toNat = i.toNat + 1 by omega]
      · rcases hI_L1 with h | ⟨h, h'⟩
        · exact .inl h
        · have : i = 0 := by rcases a4 with h2 | h2 <;> omega
          rw [this] at hc
          rw [show ((0 : Int)).toNat = 0 from rfl] at hc
          omega
  · rw [List.drop_eq_nil_of_le (by omega)] at a3
    have h : b = p - p % 46080 := by rcases a4 with h2 | h2 <;> omega
    rw [decide_eq_false hi, w64 (n := b + 46080) (by omega) (by omega)]
    refine ⟨hG ?_ h, hν, by simp⟩
    rw [← h, a3]
    rfl
set_option maxRecDepth 100000 in
theorem rcnext_L2_entry1 (c : List Int) (p : Int) (b : Int) : (((rcnext_L2_I c p b (0 : Int)) ∧ (((0 : Int) = (0 : Int)) ∧ ((b = b) ∧ (((0 : Int) = (0 : Int)) ∧ (True ∧ ((p = p) ∧ (True ∧ ((c = c) ∧ True))))))))) = rcnext_L2_E c p b (rcnext_L2_S1 c p b) := by kernel_rfl
theorem rcnext_L2_1 (c : List Int) (p : Int) (b : Int) (p0 : (cValid c) = true) (p1 : (isT p) = true) (hI_L1 : rcnext_L1_I c p b) (h : ((rcnext_L2_I c p b (0 : Int)) ∧ (((0 : Int) = (0 : Int)) ∧ ((b = b) ∧ (((0 : Int) = (0 : Int)) ∧ (True ∧ ((p = p) ∧ (True ∧ ((c = c) ∧ True))))))))) : LoopP (ex Try.prog (conOf []) (subC (subC (bodyOf Try.f79) [1, 1, 0, 0]) [0, 0, 1, 0, 0])) (kont Try.prog (conOf []) (subC (bodyOf Try.f79) [1, 1, 0, 0]) [0, 0, 1, 0] (nextE (rcnext_L1_N c p b) (kont Try.prog (conOf []) (bodyOf Try.f79) [1, 1, 0] (retPost Try.prog Try.f79 1 (rcnext_res c p))))) (rcnext_L2_S1 c p b) := by
  have hE : rcnext_L2_E c p b (rcnext_L2_S1 c p b) := Eq.mp (rcnext_L2_entry1 c p b) h
  unfold rcnext_L2_E at hE
  obtain ⟨i, hE⟩ := getI_of hE
  refine loop_of (α := (Int)) (fun xx_ => rcnext_L2_F c p b xx_) (fun xx_ => rcnext_L2_I c p b xx_) (fun xx_ => rcnext_L2_m c p b xx_) (fun xx_ => rcnext_L2_N c p b xx_) (fun xx_ => rcnext_L2_T c p b xx_) (fun xx_ s_ h => ?_) ⟨i, hE⟩ (fun xx_ => rcnext_L2_tree c p b xx_) (fun xx_ hI => rcnext_L2_round c p b xx_ p0 p1 hI_L1 hI)
  unfold rcnext_L2_N at h
  obtain ⟨i, h⟩ := getI_of h
  exact ⟨i, h⟩
def rcnext_L1_T (c : List Int) (p : Int) (b : Int) : Prop := (LoopP (ex Try.prog (conOf []) (subC (subC (bodyOf Try.f79) [1, 1, 0, 0]) [0, 0, 1, 0, 0])) (kont Try.prog (conOf []) (subC (bodyOf Try.f79) [1, 1, 0, 0]) [0, 0, 1, 0] (nextE (rcnext_L1_N c p b) (kont Try.prog (conOf []) (bodyOf Try.f79) [1, 1, 0] (retPost Try.prog Try.f79 1 (rcnext_res c p))))) (rcnext_L2_S1 c p b))
set_option maxRecDepth 100000 in
theorem rcnext_L1_tree (c : List Int) (p : Int) (b : Int) : rcnext_L1_T c p b = ex Try.prog (conOf []) (subC (bodyOf Try.f79) [1, 1, 0, 0]) (nextE (rcnext_L1_N c p b) (kont Try.prog (conOf []) (bodyOf Try.f79) [1, 1, 0] (retPost Try.prog Try.f79 1 (rcnext_res c p)))) (rcnext_L1_F c p b) := by kernel_rfl
set_option maxRecDepth 100000 in
theorem rcnext_L1_round (c : List Int) (p : Int) (b : Int) (p0 : (cValid c) = true) (p1 : (isT p) = true) (hI_L1 : rcnext_L1_I c p b) : rcnext_L1_T c p b := by
  exact rcnext_L2_1 c p b p0 p1 hI_L1 ⟨⟨by have := (cv_iff p0).1; omega, by simp, .inr rfl⟩, by simp⟩
set_option maxRecDepth 100000 in
theorem rcnext_L1_entry1 (c : List Int) (p : Int) : (((rcnext_L1_I c p (Go.IntKind.wrap Go.IntKind.i64 (p - (Int.tmod p (46080 : Int))))) ∧ (((Go.IntKind.wrap Go.IntKind.i64 (p - (Int.tmod p (46080 : Int)))) = (Go.IntKind.wrap Go.IntKind.i64 (p - (Int.tmod p (46080 : Int))))) ∧ (((0 : Int) = (0 : Int)) ∧ (True ∧ ((p = p) ∧ (True ∧ ((c = c) ∧ True)))))))) = rcnext_L1_E c p (rcnext_L1_S1 c p) := by kernel_rfl
theorem rcnext_L1_1 (c : List Int) (p : Int) (p0 : (cValid c) = true) (p1 : (isT p) = true) (h : ((rcnext_L1_I c p (Go.IntKind.wrap Go.IntKind.i64 (p - (Int.tmod p (46080 : Int))))) ∧ (((Go.IntKind.wrap Go.IntKind.i64 (p - (Int.tmod p (46080 : Int)))) = (Go.IntKind.wrap Go.IntKind.i64 (p - (Int.tmod p (46080 : Int))))) ∧ (((0 : Int) = (0 : Int)) ∧ (True ∧ ((p = p) ∧ (True ∧ ((c = c) ∧ True)))))))) : LoopP (ex Try.prog (conOf []) (subC (bodyOf Try.f79) [1, 1, 0, 0])) (kont Try.prog (conOf []) (bodyOf Try.f79) [1, 1, 0] (retPost Try.prog Try.f79 1 (rcnext_res c p))) (rcnext_L1_S1 c p) := by
  have hE : rcnext_L1_E c p (rcnext_L1_S1 c p) := Eq.mp (rcnext_L1_entry1 c p) h
  unfold rcnext_L1_E at hE
  obtain ⟨b, hE⟩ := getI_of hE
  refine loop_of (α := (Int)) (fun xx_ => rcnext_L1_F c p xx_) (fun xx_ => rcnext_L1_I c p xx_) (fun xx_ => rcnext_L1_m c p xx_) (fun xx_ => rcnext_L1_N c p xx_) (fun xx_ => rcnext_L1_T c p xx_) (fun xx_ s_ h => ?_) ⟨b, hE⟩ (fun xx_ => rcnext_L1_tree c p xx_) (fun xx_ hI => rcnext_L1_round c p xx_ p0 p1 hI)
  unfold rcnext_L1_N at h
  obtain ⟨b, h⟩ := getI_of h
  exact ⟨b, h⟩
set_option maxRecDepth 100000 in
theorem rcnext_tree (c : List Int) (p : Int) : ((LoopP (ex Try.prog (conOf []) (subC (bodyOf Try.f79) [1, 1, 0, 0])) (kont Try.prog (conOf []) (bodyOf Try.f79) [1, 1, 0] (retPost Try.prog Try.f79 1 (rcnext_res c p))) (rcnext_L1_S1 c p))) = EXD Try.prog (conOf []) Try.f79 [.agg [.row 0], .cel (.int .i64 p)] [.ints .i64 c] [] (rcnext_res c p) := by kernel_rfl
theorem rcnext_holds (c : List Int) (p : Int) (p0 : (cValid c) = true) (p1 : (isT p) = true) : (LoopP (ex Try.prog (conOf []) (subC (bodyOf Try.f79) [1, 1, 0, 0])) (kont Try.prog (conOf []) (bodyOf Try.f79) [1, 1, 0] (retPost Try.prog Try.f79 1 (rcnext_res c p))) (rcnext_L1_S1 c p)) := by
  have hp := isT_iff.1 p1
  refine rcnext_L1_1 c p p0 p1 ⟨.inl ?_, by simp⟩
  rw [tmod_pos hp.1, w64 (by omega) (by omega)]
set_option maxHeartbeats 2000000 in
theorem rcnext_ok : SoundEnt Try.prog rcnext_e := by
  refine ent_of_ex (Γ := (conOf [])) (conOf_sound snil) (by kernel_rfl) Try.func79 (by kernel_rfl) (by kernel_rfl) (fun args rows caps res h ho => ?_)
  change rcnext_go args rows caps = some res at h
  unfold rcnext_go at h
  split at h
  · simp only [Option.some.injEq] at h
    subst h
    rename_i q1_ q0_
    obtain ⟨p0, p1, _⟩ := ho
    exact EX.of (rcnext_tree q0_ q1_) (rcnext_holds q0_ q1_ p0 p1)
  · cases h
theorem caT_len {c : List Int} {s : Int} {l : List (List Int)} {e : Int} (hf : fewB s l e = true) : (caT c s l e).length ≤ 49 := by
  unfold caT caP
  split
  · rename_i h
    obtain ⟨f1, f2, f3, f4, f5, f6, f7, f8, _⟩ := ca_facts h hf
    have := (cL_spec (b := posOf s l e) f1 f4.1).2 f7
    rw [List.length_map]
    omega
  · simp
theorem crT_len {T M s : Int} {l : List (List Int)} {e : Int} (hf : fewB s l e = true) : (crT T M s l e).length ≤ 481 := by
  by_cases h : crE (wValid T M) s l e = 0
  · have := cr_valid h hf
    omega
  · unfold crT crP
    rw [if_neg h]
    simp
def rcamedges_res (c : List Int) (s : Int) (l : List (List Int)) (e : Int) : CRes := ⟨[fewB s l e], .tup [.cel (.row 2), .cel (.int .i64 (crE (cValid c) s l e))], [.ints .i64 (caT c s l e)]⟩
def rcamedges_go : List TV → List RowA → List (List CV) → Option CRes := fun args rows caps =>
  match args, rows, caps with
  | [.agg [.row 0], .agg [.int .i64 s, .row 1], .cel (.int .i64 e)], [.ints .i64 c, .recs [.int .i64, .int .i64] l], [] => some (rcamedges_res c s l e)
  | _, _, _ => none
def rcamedges_e : Ent := ⟨32, [.ints .i64 [], .recs [.int .i64, .int .i64] []], rcamedges_go⟩
def rcamedges_L1_F (c : List Int) (s : Int) (l : List (List Int)) (e : Int) (p : Int) (o : List Int) : St := ⟨49, [], [(9, (.one (.cel (.int .i64 p)))), (8, (.one (.cel (.row 2)))), (7, (.one (.cel (.int .i64 (0 : Int))))), (6, (.one (.cel .nilS))), (4, (.one (.cel (.ptr 1 0)))), (3, (.one (.cel (.ptr 0 0)))), (2, (.one (.cel (.int .i64 e))))], [[(.row 0)], [(.int .i64 s), (.row 1)]], [⟨(.ints .i64 c), none⟩, ⟨(.recs [.int .i64, .int .i64] l), none⟩, ⟨(.ints .i64 o), some 3⟩], 0⟩
def rcamedges_L1_I (c : List Int) (s : Int) (l : List (List Int)) (e : Int) (p : Int) (o : List Int) : Prop := (crE (cValid c) s l e = 0) ∧ (s ≤ p ∧ p ≤ posOf s l e ∧ s + 1920 * (o.length : Int) ≤ p + 1920) ∧ (isC c p ∨ (p = s ∧ o = [])) ∧ (o.length ≤ 1000) ∧ (o ++ (cedg c (1000 - o.length) (cxA c p) (posOf s l e)).map (fun x => (tmOf s l x).1) = caT c s l e)
def rcamedges_L1_m (c : List Int) (s : Int) (l : List (List Int)) (e : Int) (p : Int) (o : List Int) : Nat := (posOf s l e - p).toNat
def rcamedges_L1_N (c : List Int) (s : Int) (l : List (List Int)) (e : Int) (p' : Int) (o' : List Int) (st_ : St) : Prop := getI st_ 9 fun p => getR st_ 8 fun o => rcamedges_L1_I c s l e p o ∧ rcamedges_L1_m c s l e p o < rcamedges_L1_m c s l e p' o' ∧ SubA st_ (rcamedges_L1_F c s l e p o)
def rcamedges_L1_E (c : List Int) (s : Int) (l : List (List Int)) (e : Int) (st_ : St) : Prop := getI st_ 9 fun p => getR st_ 8 fun o => rcamedges_L1_I c s l e p o ∧ SubA st_ (rcamedges_L1_F c s l e p o)
def rcamedges_L1_S1 (c : List Int) (s : Int) (l : List (List Int)) (e : Int) : St := ⟨49, [15], [(9, (.one (.cel (.int .i64 s)))), (24, (.one (.cel (.int .i64 s)))), (23, (.one (.cel (.ptr 1 0)))), (8, (.one (.cel .nilS))), (22, (.one (.cel (.bool (!(isT e)))))), (21, (.one (.cel (.bool (isT e))))), (20, (.one (.cel (.int .i64 e)))), (19, (.one (.cel (.bool ((!(cValid c)) || (!(mValid s l))))))), (18, (.spec 15 Bool.false (.cel (.bool (!(mValid s l)))))), (17, (.spec 15 Bool.false (.cel (.bool (mValid s l))))), (16, (.spec 15 Bool.false (.agg [(.int .i64 s), (.row 1)]))), (15, (.one (.cel (.bool (!(cValid c)))))), (14, (.one (.cel (.bool (!(cValid c)))))), (13, (.one (.cel (.bool (cValid c))))), (12, (.one (.agg [(.row 0)]))), (7, (.one (.cel (.int .i64 (0 : Int))))), (6, (.one (.cel .nilS))), (4, (.one (.cel (.ptr 1 0)))), (3, (.one (.cel (.ptr 0 0)))), (0, (.one (.agg [(.row 0)]))), (1, (.one (.agg [(.int .i64 s), (.row 1)]))), (2, (.one (.cel (.int .i64 e))))], [[(.row 0)], [(.int .i64 s), (.row 1)]], [⟨(.ints .i64 c), none⟩, ⟨(.recs [.int .i64, .int .i64] l), none⟩], 0⟩
def rcamedges_L1_T (c : List Int) (s : Int) (l : List (List Int)) (e : Int) (p : Int) (o : List Int) : Prop := (cnd (cValid c)
  (cnd (isT p)
    (cnd (mValid s l)
      (cnd ((!(decide ((Prod.snd (tmOf s l (cxA c p))) = (0 : Int)))) || (decide (e < (Prod.fst (tmOf s l (cxA c p))))))
        ((True ∧ ((0 : Int) = (crE (cValid c) s l e))) ∧ ((o = (caT c s l e)) ∧ True))
        (cnd (decide ((((List.length o) : Nat) : Int) = (1000 : Int)))
          ((True ∧ ((5 : Int) = (crE (cValid c) s l e))) ∧ (((caT c s l e) = ([] : List Int)) ∧ True))
          (cnd (decide ((List.length (o ++ [(Prod.fst (tmOf s l (cxA c p)))])) ≤ 4294967296))
            ((rcamedges_L1_I c s l e (cxA c p) (o ++ [(Prod.fst (tmOf s l (cxA c p)))])) ∧ (((rcamedges_L1_m c s l e (cxA c p) (o ++ [(Prod.fst (tmOf s l (cxA c p)))])) < (rcamedges_L1_m c s l e p o)) ∧ (((cxA c p) = (cxA c p)) ∧ (True ∧ (((0 : Int) = (0 : Int)) ∧ (True ∧ (True ∧ (True ∧ ((e = e) ∧ (True ∧ (((s = s) ∧ True) ∧ ((c = c) ∧ ((l = l) ∧ (((o ++ [(Prod.fst (tmOf s l (cxA c p)))]) = (o ++ [(Prod.fst (tmOf s l (cxA c p)))])) ∧ True))))))))))))))
            False)))
      False)
    False)
  False)
set_option maxRecDepth 100000 in
theorem rcamedges_L1_tree (c : List Int) (s : Int) (l : List (List Int)) (e : Int) (p : Int) (o : List Int) : rcamedges_L1_T c s l e p o = ex Try.prog (conOf [rvcam_e, rvalid_e, rtime18_e, rcnext_e, rtime_e]) (subC (bodyOf Try.f32) [1, 1, 1, 1, 1, 0, 0]) (nextE (rcamedges_L1_N c s l e p o) (kont Try.prog (conOf [rvcam_e, rvalid_e, rtime18_e, rcnext_e, rtime_e]) (bodyOf Try.f32) [1, 1, 1, 1, 1, 0] (retPost Try.prog Try.f32 2 (rcamedges_res c s l e)))) (rcamedges_L1_F c s l e p o) := by kernel_rfl
set_option maxRecDepth 100000 in
theorem rcamedges_L1_round (c : List Int) (s : Int) (l : List (List Int)) (e : Int) (p : Int) (o : List Int) (p0 : (fewB s l e) = true) (hI_L1 : rcamedges_L1_I c s l e p o) : rcamedges_L1_T c s l e p o := by
  obtain ⟨z, ⟨a1, a2, a3⟩, a4, a5, a6⟩ := hI_L1
  obtain ⟨f1, f2, f3, f4, f5, f6, f7, f8, _⟩ := ca_facts z p0
  obtain ⟨n1, n2, n3, n4⟩ := cx_bd (c := c) (p := p) f1 (by omega)
  have hF : ∀ (q : Int) (w : List Int), s ≤ q ∧ q ≤ posOf s l e ∧ s + 1920 * (w.length : Int) ≤ q + 1920 → isC c q → w.length ≤ 1000 → w ++ (cedg c (1000 - w.length) (cxA c q) (posOf s l e)).map (fun x => (tmOf s l x).1) = caT c s l e → rcamedges_L1_I c s l e q w := fun q w h1 h2 h3 h4 => ⟨z, h1, .inl h2, h3, h4⟩
  have hμ : ∀ (q : Int) (w : List Int), p < q → q ≤ posOf s l e → rcamedges_L1_m c s l e q w < rcamedges_L1_m c s l e p o := fun q w h1 h2 => by unfold rcamedges_L1_m; omega
  obtain ⟨k1, k2, k3, k4⟩ := tm_key (p := cxA c p) f2
  have hmono := way_more l 0 e (1099511627776 - e) (mV_iff.1 f2).2.2 f3.1 (by omega)
  rw [show e + (1099511627776 - e) = 1099511627776 by omega] at hmono
  unfold rcamedges_L1_T
  rw [f1, isT_iff.2 (show 0 ≤ p ∧ p ≤ 1099511627776 by omega), f2]
  have hol : (o.length : Int) ≤ 49 := by omega
  by_cases hn : cxA c p ≤ posOf s l e
  · have h0 : (tmOf s l (cxA c p)).2 = 0 := k3.2 (by omega)
    obtain ⟨m1, m2, m3⟩ := k4 h0
    have hle := (m3 e f3.1).1 (by omega)
    have hlen : (o ++ [(tmOf s l (cxA c p)).1]).length = o.length + 1 := by simp
    rw [decide_eq_true h0, decide_eq_false (show ¬ e < (tmOf s l (cxA c p)).1 by omega), decide_eq_false (show ¬ (o.length : Int) = 1000 by omega), decide_eq_true (show (o ++ [(tmOf s l (cxA c p)).1]).length ≤ 4294967296 by omega)]
    refine ⟨hF _ _ ⟨by omega, hn, ?_⟩ n3 (by omega) ?_, hμ _ _ (by omega) hn, by simp⟩
    · rw [hlen]
      push_cast
      rcases a4 with h | ⟨h, h'⟩
      · have := n4 h; omega
      · rw [h']; simp; omega
    · rw [← a6, hlen, show 1000 - o.length = (1000 - (o.length + 1)) + 1 by omega, cedg, if_pos hn, List.append_assoc]
      rfl
  · have he : cedg c (1000 - o.length) (cxA c p) (posOf s l e) = [] := by
      cases 1000 - o.length with
      | zero => rfl
      | succ n => rw [cedg, if_neg hn]
    rw [he, List.map_nil, List.append_nil] at a6
    have hj : (!decide ((tmOf s l (cxA c p)).2 = 0) || decide (e < (tmOf s l (cxA c p)).1)) = true := by
      by_cases h0 : (tmOf s l (cxA c p)).2 = 0
      · have := ((k4 h0).2.2 e f3.1)
        rw [decide_eq_true (show e < (tmOf s l (cxA c p)).1 by omega), Bool.or_true]
      · rw [decide_eq_false h0]; rfl
    rw [hj]
    exact ⟨⟨trivial, by rw [← f1, z]⟩, a6, trivial⟩
set_option maxRecDepth 100000 in
theorem rcamedges_L1_entry1 (c : List Int) (s : Int) (l : List (List Int)) (e : Int) : (((rcamedges_L1_I c s l e s ([] : List Int)) ∧ ((s = s) ∧ (True ∧ (((0 : Int) = (0 : Int)) ∧ (True ∧ (True ∧ (True ∧ ((e = e) ∧ (True ∧ (((s = s) ∧ True) ∧ ((c = c) ∧ ((l = l) ∧ ((([] : List Int) = ([] : List Int)) ∧ True)))))))))))))) = rcamedges_L1_E c s l e (rcamedges_L1_S1 c s l e) := by kernel_rfl
theorem rcamedges_L1_1 (c : List Int) (s : Int) (l : List (List Int)) (e : Int) (p0 : (fewB s l e) = true) (h : ((rcamedges_L1_I c s l e s ([] : List Int)) ∧ ((s = s) ∧ (True ∧ (((0 : Int) = (0 : Int)) ∧ (True ∧ (True ∧ (True ∧ ((e = e) ∧ (True ∧ (((s = s) ∧ True) ∧ ((c = c) ∧ ((l = l) ∧ ((([] : List Int) = ([] : List Int)) ∧ True)))))))))))))) : LoopP (ex Try.prog (conOf [rvcam_e, rvalid_e, rtime18_e, rcnext_e, rtime_e]) (subC (bodyOf Try.f32) [1, 1, 1, 1, 1, 0, 0])) (kont Try.prog (conOf [rvcam_e, rvalid_e, rtime18_e, rcnext_e, rtime_e]) (bodyOf Try.f32) [1, 1, 1, 1, 1, 0] (retPost Try.prog Try.f32 2 (rcamedges_res c s l e))) (rcamedges_L1_S1 c s l e) := by
  have hE : rcamedges_L1_E c s l e (rcamedges_L1_S1 c s l e) := Eq.mp (rcamedges_L1_entry1 c s l e) h
  unfold rcamedges_L1_E at hE
  obtain ⟨p, hE⟩ := getI_of hE
  obtain ⟨o, hE⟩ := getR_of hE
  refine loop_of (α := (Int) × (List Int)) (fun xx_ => rcamedges_L1_F c s l e xx_.1 xx_.2) (fun xx_ => rcamedges_L1_I c s l e xx_.1 xx_.2) (fun xx_ => rcamedges_L1_m c s l e xx_.1 xx_.2) (fun xx_ => rcamedges_L1_N c s l e xx_.1 xx_.2) (fun xx_ => rcamedges_L1_T c s l e xx_.1 xx_.2) (fun xx_ s_ h => ?_) ⟨⟨p, o⟩, hE⟩ (fun xx_ => rcamedges_L1_tree c s l e xx_.1 xx_.2) (fun xx_ hI => rcamedges_L1_round c s l e xx_.1 xx_.2 p0 hI)
  unfold rcamedges_L1_N at h
  obtain ⟨p, h⟩ := getI_of h
  obtain ⟨o, h⟩ := getR_of h
  exact ⟨⟨p, o⟩, h⟩
set_option maxRecDepth 100000 in
theorem rcamedges_tree (c : List Int) (s : Int) (l : List (List Int)) (e : Int) : ((cnd ((!(cValid c)) || (!(mValid s l)))
  ((True ∧ ((1 : Int) = (crE (cValid c) s l e))) ∧ (((caT c s l e) = ([] : List Int)) ∧ True))
  (cnd (!(isT e))
    ((True ∧ ((2 : Int) = (crE (cValid c) s l e))) ∧ (((caT c s l e) = ([] : List Int)) ∧ True))
    (LoopP (ex Try.prog (conOf [rvcam_e, rvalid_e, rtime18_e, rcnext_e, rtime_e]) (subC (bodyOf Try.f32) [1, 1, 1, 1, 1, 0, 0])) (kont Try.prog (conOf [rvcam_e, rvalid_e, rtime18_e, rcnext_e, rtime_e]) (bodyOf Try.f32) [1, 1, 1, 1, 1, 0] (retPost Try.prog Try.f32 2 (rcamedges_res c s l e))) (rcamedges_L1_S1 c s l e))))) = EXD Try.prog (conOf [rvcam_e, rvalid_e, rtime18_e, rcnext_e, rtime_e]) Try.f32 [.agg [.row 0], .agg [.int .i64 s, .row 1], .cel (.int .i64 e)] [.ints .i64 c, .recs [.int .i64, .int .i64] l] [] (rcamedges_res c s l e) := by kernel_rfl
theorem rcamedges_holds (c : List Int) (s : Int) (l : List (List Int)) (e : Int) (p0 : (fewB s l e) = true) : (cnd ((!(cValid c)) || (!(mValid s l)))
  ((True ∧ ((1 : Int) = (crE (cValid c) s l e))) ∧ (((caT c s l e) = ([] : List Int)) ∧ True))
  (cnd (!(isT e))
    ((True ∧ ((2 : Int) = (crE (cValid c) s l e))) ∧ (((caT c s l e) = ([] : List Int)) ∧ True))
    (LoopP (ex Try.prog (conOf [rvcam_e, rvalid_e, rtime18_e, rcnext_e, rtime_e]) (subC (bodyOf Try.f32) [1, 1, 1, 1, 1, 0, 0])) (kont Try.prog (conOf [rvcam_e, rvalid_e, rtime18_e, rcnext_e, rtime_e]) (bodyOf Try.f32) [1, 1, 1, 1, 1, 0] (retPost Try.prog Try.f32 2 (rcamedges_res c s l e))) (rcamedges_L1_S1 c s l e)))) := by
  cases h1 : cValid c with
  | false => simp [cnd, crE, caT, caP, h1]
  | true =>
    cases h2 : mValid s l with
    | false => simp [cnd, crE, caT, caP, h1, h2]
    | true =>
      cases h3 : isT e with
      | false => simp [cnd, crE, caT, caP, h1, h2, h3]
      | true =>
        have z : crE (cValid c) s l e = 0 := by simp [crE, h1, h2, h3]
        obtain ⟨f1, f2, f3, f4, f5, f6, f7, f8, _⟩ := ca_facts z p0
        exact rcamedges_L1_1 c s l e p0 ⟨⟨z, ⟨by omega, by omega, by simp; omega⟩, .inr ⟨rfl, rfl⟩, by simp, by unfold caT caP; rw [if_pos z]; simp [cL]⟩, by simp⟩
set_option maxHeartbeats 2000000 in
theorem rcamedges_ok : SoundEnt Try.prog rcamedges_e := by
  refine ent_of_ex (Γ := (conOf [rvcam_e, rvalid_e, rtime18_e, rcnext_e, rtime_e])) (conOf_sound (scons rvcam_ok (scons rvalid_ok (scons rtime18_ok (scons rcnext_ok (scons rtime_ok snil)))))) (by kernel_rfl) Try.func32 (by kernel_rfl) (by kernel_rfl) (fun args rows caps res h ho => ?_)
  change rcamedges_go args rows caps = some res at h
  unfold rcamedges_go at h
  split at h
  · simp only [Option.some.injEq] at h
    subst h
    rename_i q1_ q3_ q0_ q2_
    obtain ⟨p0, _⟩ := ho
    exact EX.of (rcamedges_tree q0_ q1_ q2_ q3_) (rcamedges_holds q0_ q1_ q2_ q3_ p0)
  · cases h
def edges_res (T : Int) (M : Int) (c : List Int) (s : Int) (l : List (List Int)) (e : Int) : CRes := ⟨[wfI .i64 T, wfI .i64 M, wfL .i64 c, wfI .i64 s, wfR [.int .i64, .int .i64] l, wfI .i64 e, lenB c, lenB l], .one (.cel (.bool (true))), []⟩
def edges_go : List TV → List RowA → List (List CV) → Option CRes := fun args rows caps =>
  match args, rows, caps with
  | [.agg [.int .i64 T, .int .i64 M], .agg [.row 0], .agg [.int .i64 s, .row 1], .cel (.int .i64 e)], [.ints .i64 c, .recs [.int .i64, .int .i64] l], [] => some (edges_res T M c s l e)
  | _, _, _ => none
def edges_e : Ent := ⟨7, [.ints .i64 [], .recs [.int .i64, .int .i64] []], edges_go⟩
set_option maxRecDepth 100000 in
theorem edges_tree (T : Int) (M : Int) (c : List Int) (s : Int) (l : List (List Int)) (e : Int) : ((cnd (decide ((((List.length l) : Nat) : Int) ≤ (9223372036854775807 : Int)))
  (cnd ((!((decide ((((List.length l) : Nat) : Int) ≤ (60 : Int))) && (fewB s l e))) || (decide ((20 : Int) < (((List.length c) : Nat) : Int))))
    (Bool.true = Bool.true)
    (cnd (fewB s l e)
      (cnd (fewB s l e)
        (cnd (fewB s l e)
          (cnd (fewB s l e)
            (cnd ((!((decide ((crE (wValid T M) s l e) = (crE (wValid T M) s l e))) == Bool.true)) || (decide ((((List.length (crT T M s l e)) : Nat) : Int) ≤ (1000000 : Int))))
              (cnd ((!((decide ((crE (wValid T M) s l e) = (crE (wValid T M) s l e))) == Bool.true)) || (decide ((((List.length (crT T M s l e)) : Nat) : Int) ≤ (1000000 : Int))))
                (cnd ((!((((decide ((crE (wValid T M) s l e) = (crE (wValid T M) s l e))) && (decide ((crT T M s l e) = (crT T M s l e)))) && (decide ((crE (cValid c) s l e) = (crE (cValid c) s l e)))) == Bool.true)) || (decide ((((List.length (caT c s l e)) : Nat) : Int) ≤ (1000000 : Int))))
                  (cnd ((!((((decide ((crE (wValid T M) s l e) = (crE (wValid T M) s l e))) && (decide ((crT T M s l e) = (crT T M s l e)))) && (decide ((crE (cValid c) s l e) = (crE (cValid c) s l e)))) == Bool.true)) || (decide ((((List.length (caT c s l e)) : Nat) : Int) ≤ (1000000 : Int))))
                    (((((decide ((crE (wValid T M) s l e) = (crE (wValid T M) s l e))) && (decide ((crT T M s l e) = (crT T M s l e)))) && (decide ((crE (cValid c) s l e) = (crE (cValid c) s l e)))) && (decide ((caT c s l e) = (caT c s l e)))) = Bool.true)
                    False)
                  False)
                False)
              False)
            False)
          False)
        False)
      False))
  False)) = EXD Try.prog (conOf [awake_e, few_e, Crank_e, rcrank_e, CamEdges_e, rcamedges_e, equalI_e]) Try.f7 [.agg [.int .i64 T, .int .i64 M], .agg [.row 0], .agg [.int .i64 s, .row 1], .cel (.int .i64 e)] [.ints .i64 c, .recs [.int .i64, .int .i64] l] [] (edges_res T M c s l e) := by kernel_rfl
theorem edges_holds (T : Int) (M : Int) (c : List Int) (s : Int) (l : List (List Int)) (e : Int) (p0 : (wfI .i64 T) = true) (p1 : (wfI .i64 M) = true) (p2 : (wfL .i64 c) = true) (p3 : (wfI .i64 s) = true) (p4 : (wfR [.int .i64, .int .i64] l) = true) (p5 : (wfI .i64 e) = true) (p6 : (lenB c) = true) (p7 : (lenB l) = true) : (cnd (decide ((((List.length l) : Nat) : Int) ≤ (9223372036854775807 : Int)))
  (cnd ((!((decide ((((List.length l) : Nat) : Int) ≤ (60 : Int))) && (fewB s l e))) || (decide ((20 : Int) < (((List.length c) : Nat) : Int))))
    (Bool.true = Bool.true)
    (cnd (fewB s l e)
      (cnd (fewB s l e)
        (cnd (fewB s l e)
          (cnd (fewB s l e)
            (cnd ((!((decide ((crE (wValid T M) s l e) = (crE (wValid T M) s l e))) == Bool.true)) || (decide ((((List.length (crT T M s l e)) : Nat) : Int) ≤ (1000000 : Int))))
              (cnd ((!((decide ((crE (wValid T M) s l e) = (crE (wValid T M) s l e))) == Bool.true)) || (decide ((((List.length (crT T M s l e)) : Nat) : Int) ≤ (1000000 : Int))))
                (cnd ((!((((decide ((crE (wValid T M) s l e) = (crE (wValid T M) s l e))) && (decide ((crT T M s l e) = (crT T M s l e)))) && (decide ((crE (cValid c) s l e) = (crE (cValid c) s l e)))) == Bool.true)) || (decide ((((List.length (caT c s l e)) : Nat) : Int) ≤ (1000000 : Int))))
                  (cnd ((!((((decide ((crE (wValid T M) s l e) = (crE (wValid T M) s l e))) && (decide ((crT T M s l e) = (crT T M s l e)))) && (decide ((crE (cValid c) s l e) = (crE (cValid c) s l e)))) == Bool.true)) || (decide ((((List.length (caT c s l e)) : Nat) : Int) ≤ (1000000 : Int))))
                    (((((decide ((crE (wValid T M) s l e) = (crE (wValid T M) s l e))) && (decide ((crT T M s l e) = (crT T M s l e)))) && (decide ((crE (cValid c) s l e) = (crE (cValid c) s l e)))) && (decide ((caT c s l e) = (caT c s l e)))) = Bool.true)
                    False)
                  False)
                False)
              False)
            False)
          False)
        False)
      False))
  False) := by
  have hl := lenB_iff.1 p7
  rw [decide_eq_true (show (l.length : Int) ≤ 9223372036854775807 by omega)]
  refine cnd_i (fun _ => ?_) (fun h => by cases h)
  refine cnd_i (fun _ => rfl) (fun h => ?_)
  have hf : fewB s l e = true := by
    cases hf : fewB s l e with
    | true => rfl
    | false => rw [hf] at h; simp at h
  have h1 := caT_len (c := c) hf
  have h2 := crT_len (T := T) (M := M) hf
  rw [hf, decide_eq_true (show ((crT T M s l e).length : Int) ≤ 1000000 by omega), decide_eq_true (show ((caT c s l e).length : Int) ≤ 1000000 by omega)]
  simp [cnd]
set_option maxHeartbeats 2000000 in
theorem edges_ok : SoundEnt Try.prog edges_e := by
  refine ent_of_ex (Γ := (conOf [awake_e, few_e, Crank_e, rcrank_e, CamEdges_e, rcamedges_e, equalI_e])) (conOf_sound (scons awake_ok (scons few_ok (scons Crank_ok (scons rcrank_ok (scons CamEdges_ok (scons rcamedges_ok (scons equalI_ok snil)))))))) (by kernel_rfl) Try.func7 (by kernel_rfl) (by kernel_rfl) (fun args rows caps res h ho => ?_)
  change edges_go args rows caps = some res at h
  unfold edges_go at h
  split at h
  · simp only [Option.some.injEq] at h
    subst h
    rename_i q0_ q1_ q3_ q5_ q2_ q4_
    obtain ⟨p0, p1, p2, p3, p4, p5, p6, p7, _⟩ := ho
    exact EX.of (edges_tree q0_ q1_ q2_ q3_ q4_ q5_) (edges_holds q0_ q1_ q2_ q3_ q4_ q5_ p0 p1 p2 p3 p4 p5 p6 p7)
  · cases h
end Go.Proofs.Ythfliohfkhnpiaa

