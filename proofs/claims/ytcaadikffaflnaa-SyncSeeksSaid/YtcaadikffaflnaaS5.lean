/- The wheel's synchronization by the symbolic run: the law of seeking. -/
import Derived.Test.YtcaadikffaflnaaS4
namespace Go.Proofs.Ytcaadikffaflnaa
set_option linter.unusedVariables false
set_option linter.unusedSimpArgs false
open Go.RowKit

def stq (T M : Int) (b : List Int) (t : Int) : List Int := stp T M (q b 0) (q b 1) (q b 2) (q b 3) (q b 4) (q b 5) t
def svq (T M : Int) (b : List Int) : Bool := sVd T M (q b 0) (q b 1) (q b 2) (q b 3) (q b 4) (q b 5)
def bef (R : List (List Int)) (s : List Int) : Nat → List Int
  | 0 => s
  | j + 1 => R.getD j []
theorem runS_get (T M : Int) : ∀ (l s : List Int) (j : Nat), j < l.length → (runS T M s l).getD j [] = stq T M (bef (runS T M s l) s j) (l.getD j 0)
  | [], _, _, h => by simp at h
  | t :: l, s, 0, _ => rfl
  | t :: l, s, 1, h => by
    have := runS_get T M l (stq T M s t) 0 (by simp at h; omega)
    simpa [runS, bef, stq] using this
  | t :: l, s, j + 2, h => by
    have := runS_get T M l (stq T M s t) (j + 1) (by simp at h; omega)
    simpa [runS, bef, stq] using this
theorem svq_iff {T M : Int} {b : List Int} : svq T M b = true ↔ wValid T M = true ∧ sV T M (q b 0) (q b 1) (q b 2) (q b 3) (q b 4) (q b 5) = true := by
  unfold svq sVd
  rw [Bool.and_eq_true]
theorem stq_cases {T M : Int} {b : List Int} (hb : svq T M b = true) (t : Int) :
    (q b 0 = 0 ∧ stq T M b t = [1, 0, t, 0, 0, 0]) ∨
    (q b 0 = 1 ∧ q b 5 = 2 ∧ gapB M (q b 4) (t - q b 2) = true ∧ stq T M b t = [2, 0, t, t - q b 2, (t - q b 2) / (M + 1), 0]) ∨
    (q b 0 = 1 ∧ stq T M b t = [1, 0, t, t - q b 2, t - q b 2, if q b 5 ≠ 0 ∧ fitB (t - q b 2) (q b 4) = true then 2 else 1]) ∨
    (q b 0 = 2 ∧ stq T M b t = [0, 0, 0, 0, 0, 0]) ∨
    (q b 0 = 2 ∧ q b 1 = T - M - 1 ∧ stq T M b t = [2, 0, t, t - q b 2, (t - q b 2) / (M + 1), 0]) ∨
    (q b 0 = 2 ∧ (0 ≤ q b 1 ∧ q b 1 < T - M - 1) ∧ stq T M b t = [2, q b 1 + 1, t, t - q b 2, t - q b 2, 0]) := by
  obtain ⟨hw, hs⟩ := svq_iff.1 hb
  rcases sV_cases hs with c | c | c
  · left
    refine ⟨c.1, ?_⟩
    unfold stq stp; rw [if_neg (by omega), if_neg (by omega)]
  · by_cases hg : q b 5 = 2 ∧ gapB M (q b 4) (t - q b 2) = true
    · right; left
      refine ⟨c.1, hg.1, hg.2, ?_⟩
      unfold stq stp; rw [if_pos c.1, if_pos hg]
    · right; right; left
      refine ⟨c.1, ?_⟩
      unfold stq stp; rw [if_pos c.1, if_neg hg]
  · right; right; right
    cases hf : fitB (t - q b 2) (expc T M (q b 1) (q b 4)) with
    | false =>
      left
      refine ⟨c.1, ?_⟩
      unfold stq stp; rw [if_neg (by omega), if_pos c.1, if_pos hf]
    | true =>
      right
      by_cases hl : q b 1 = T - M - 1
      · left
        refine ⟨c.1, hl, ?_⟩
        unfold stq stp; rw [if_neg (by omega), if_pos c.1, if_neg (by rw [hf]; simp), if_pos hl]
      · right
        refine ⟨c.1, ⟨c.2.1.1, by omega⟩, ?_⟩
        unfold stq stp; rw [if_neg (by omega), if_pos c.1, if_neg (by rw [hf]; simp), if_neg hl]
/-- What a state behind the edge j says of the edges. -/
def Hist (T M : Int) (l : List Int) (j : Nat) (r : List Int) : Prop :=
  svq T M r = true ∧ (q r 0 = 0 ∨ q r 2 = l.getD j 0) ∧
  (q r 0 = 1 → q r 5 = 0 ∨ (1 ≤ j ∧ q r 4 = l.getD j 0 - l.getD (j - 1) 0 ∧ (q r 5 = 2 → 2 ≤ j ∧ fitB (l.getD j 0 - l.getD (j - 1) 0) (l.getD (j - 1) 0 - l.getD (j - 2) 0) = true))) ∧
  (q r 0 = 2 → 3 ≤ j)
theorem edge_isT {l : List Int} (he : l.all isT = true) {j : Nat} (hj : j < l.length) : isT (l.getD j 0) = true := by
  rw [List.all_eq_true] at he
  refine he _ ?_
  rw [List.getD_eq_getElem?_getD, List.getElem?_eq_getElem hj]
  exact List.getElem_mem hj
theorem hist {T M : Int} {l : List Int} (hw : wValid T M = true) (he : edgesB l = true) : ∀ j, j < l.length → Hist T M l j ((runS T M s0 l).getD j [])
  | 0, hj => by
    rw [runS_get T M l s0 0 hj]
    have h0 : svq T M s0 = true := svq_iff.2 ⟨hw, rfl⟩
    have ht := edge_isT (edgesB_iff.1 he).2.1 hj
    obtain ⟨h1, h2⟩ := stp_ok h0 ht (.inl rfl)
    have e : stq T M s0 (l.getD 0 0) = [1, 0, l.getD 0 0, 0, 0, 0] := rfl
    refine ⟨h1, h2, ?_, ?_⟩
    · intro _; left; show q (stq T M s0 _) 5 = 0; rw [e]; rfl
    · intro h
      have h : q (stq T M s0 (l.getD 0 0)) 0 = 2 := h
      rw [e] at h; simp [q] at h
  | j + 1, hj => by
    obtain ⟨g1, g2, g3, g4⟩ := hist hw he j (by omega)
    rw [runS_get T M l s0 (j + 1) hj]
    show Hist T M l (j + 1) (stq T M ((runS T M s0 l).getD j []) (l.getD (j + 1) 0))
    generalize (runS T M s0 l).getD j [] = b at *
    have hinc := incr_get (edgesB_iff.1 he).2.2 hj
    have ht := edge_isT (edgesB_iff.1 he).2.1 hj
    have hl : q b 0 = 0 ∨ q b 2 < l.getD (j + 1) 0 := by
      rcases g2 with g2 | g2
      · exact .inl g2
      · exact .inr (by omega)
    obtain ⟨h1, h2⟩ := stp_ok g1 ht hl
    refine ⟨h1, h2, ?_⟩
    rw [show j + 1 - 1 = j by omega]
    rcases stq_cases g1 (l.getD (j + 1) 0) with c | c | c | c | c | c
    · obtain ⟨_, c⟩ := c
      rw [c]; simp [q]
    · obtain ⟨c1, c2, c3, c⟩ := c
      rw [c]
      simp only [q, List.getD_cons_zero]
      refine ⟨fun h => by omega, fun _ => ?_⟩
      rcases g3 c1 with h | ⟨_, _, h⟩
      · omega
      · have := (h c2).1; omega
    · obtain ⟨c1, c⟩ := c
      have e2 : q b 2 = l.getD j 0 := by
        rcases g2 with h | h
        · omega
        · exact h
      rw [c, e2]
      refine ⟨fun _ => .inr ⟨by omega, rfl, fun h => ?_⟩, fun h => by simp [q] at h⟩
      have h : (if q b 5 ≠ 0 ∧ fitB (l.getD (j + 1) 0 - l.getD j 0) (q b 4) = true then (2 : Int) else 1) = 2 := h
      by_cases hc : q b 5 ≠ 0 ∧ fitB (l.getD (j + 1) 0 - l.getD j 0) (q b 4) = true
      · rcases g3 c1 with h | ⟨h3, h4, _⟩
        · exact absurd h hc.1
        · refine ⟨by omega, ?_⟩
          rw [show j + 1 - 2 = j - 1 by omega, ← h4]
          exact hc.2
      · rw [if_neg hc] at h; omega
    · obtain ⟨c1, c⟩ := c
      rw [c]; simp [q]
    · obtain ⟨c1, _, c⟩ := c
      rw [c]
      simp only [q, List.getD_cons_zero]
      exact ⟨fun h => by omega, fun _ => by have := g4 c1; omega⟩
    · obtain ⟨c1, _, c⟩ := c
      rw [c]
      simp only [q, List.getD_cons_zero]
      exact ⟨fun h => by omega, fun _ => by have := g4 c1; omega⟩
def seeks_res (T : Int) (M : Int) (l : List Int) : CRes := ⟨[wfI .i64 T, wfI .i64 M, wfL .i64 l], .one (.cel (.bool (true))), []⟩
def seeks_go : List TV → List RowA → Option CRes := fun args rows =>
  match args, rows with
  | [.agg [.int .i64 T, .int .i64 M], .cel (.row 0)], [.ints .i64 l] => some (seeks_res T M l)
  | _, _ => none
def seeks_e : Ent := ⟨4, [.ints .i64 []], seeks_go⟩
def seeks_L1_F (T : Int) (M : Int) (l : List Int) (i : Int) : St := ⟨163, [], [(38, (.one (.cel (.int .i64 i)))), (37, (.one (.cel (.int .i64 (((List.length (if (((wValid T M) && (edgesB l)) = Bool.true) then (runS T M s0 l) else ([] : List (List Int)))) : Nat) : Int))))), (36, (.one (.cel (.row 1)))), (5, (.one (.cel (.row 1)))), (4, (.one (.cel (.bool Bool.false)))), (2, (.one (.cel (.ptr 0 0)))), (1, (.one (.cel (.row 0))))], [[(.int .i64 T), (.int .i64 M)]], [⟨(.ints .i64 l), none⟩, ⟨(.recs [.int .i64, .int .i64, .int .i64, .int .i64, .int .i64, .int .i64] (if (((wValid T M) && (edgesB l)) = Bool.true) then (runS T M s0 l) else ([] : List (List Int)))), none⟩]⟩
def seeks_L1_I (T : Int) (M : Int) (l : List Int) (i : Int) : Prop := (0 ≤ i ∧ i ≤ l.length) ∧ ((wValid T M && edgesB l) = true)
def seeks_L1_m (T : Int) (M : Int) (l : List Int) (i : Int) : Nat := (l.length - i).toNat
def seeks_L1_N (T : Int) (M : Int) (l : List Int) (i' : Int) (st_ : St) : Prop := getI st_ 38 fun i => seeks_L1_I T M l i ∧ seeks_L1_m T M l i < seeks_L1_m T M l i' ∧ SubA st_ (seeks_L1_F T M l i)
def seeks_L1_E (T : Int) (M : Int) (l : List Int) (st_ : St) : Prop := getI st_ 38 fun i => seeks_L1_I T M l i ∧ SubA st_ (seeks_L1_F T M l i)
def seeks_L1_S1 (T : Int) (M : Int) (l : List Int) : St := ⟨163, [14], [(38, (.one (.cel (.int .i64 (0 : Int))))), (37, (.one (.cel (.int .i64 (((List.length (if (((wValid T M) && (edgesB l)) = Bool.true) then (runS T M s0 l) else ([] : List (List Int)))) : Nat) : Int))))), (36, (.one (.cel (.row 1)))), (35, (.one (.cel (.bool (!(decide ((((List.length (if (((wValid T M) && (edgesB l)) = Bool.true) then (runS T M s0 l) else ([] : List (List Int)))) : Nat) : Int) = (((List.length l) : Nat) : Int)))))))), (34, (.one (.cel (.int .i64 (((List.length l) : Nat) : Int))))), (33, (.one (.cel (.row 0)))), (32, (.one (.cel (.int .i64 (((List.length (if (((wValid T M) && (edgesB l)) = Bool.true) then (runS T M s0 l) else ([] : List (List Int)))) : Nat) : Int))))), (31, (.one (.cel (.row 1)))), (27, (.one (.cel (.bool (!(decide ((if (((wValid T M) && (edgesB l)) = Bool.true) then (0 : Int) else (1 : Int)) = (0 : Int)))))))), (26, (.one (.cel (.int .i64 (if (((wValid T M) && (edgesB l)) = Bool.true) then (0 : Int) else (1 : Int)))))), (6, (.one (.cel (.int .i64 (if (((wValid T M) && (edgesB l)) = Bool.true) then (0 : Int) else (1 : Int)))))), (5, (.one (.cel (.row 1)))), (25, (.one (.cel (.int .i64 (if (((wValid T M) && (edgesB l)) = Bool.true) then (0 : Int) else (1 : Int)))))), (24, (.one (.cel (.row 1)))), (20, (.tup [(.cel (.row 1)), (.cel (.int .i64 (if (((wValid T M) && (edgesB l)) = Bool.true) then (0 : Int) else (1 : Int))))])), (23, (.tup [(.cel (.row 1)), (.cel (.int .i64 (if (((wValid T M) && (edgesB l)) = Bool.true) then (0 : Int) else (1 : Int))))])), (22, (.one (.cel (.row 0)))), (21, (.one (.agg [(.int .i64 T), (.int .i64 M)]))), (18, (.one (.cel (.bool ((!Bool.true) || (decide ((300 : Int) < (((List.length l) : Nat) : Int)))))))), (17, (.spec 14 Bool.false (.cel (.bool (decide ((300 : Int) < (((List.length l) : Nat) : Int))))))), (16, (.spec 14 Bool.false (.cel (.int .i64 (((List.length l) : Nat) : Int))))), (15, (.spec 14 Bool.false (.cel (.row 0)))), (14, (.one (.cel (.bool (!Bool.true))))), (13, (.one (.cel (.bool (!Bool.true))))), (12, (.one (.cel (.bool Bool.true)))), (4, (.one (.cel (.bool Bool.false)))), (2, (.one (.cel (.ptr 0 0)))), (0, (.one (.agg [(.int .i64 T), (.int .i64 M)]))), (1, (.one (.cel (.row 0))))], [[(.int .i64 T), (.int .i64 M)]], [⟨(.ints .i64 l), none⟩, ⟨(.recs [.int .i64, .int .i64, .int .i64, .int .i64, .int .i64, .int .i64] (if (((wValid T M) && (edgesB l)) = Bool.true) then (runS T M s0 l) else ([] : List (List Int)))), none⟩]⟩
def seeks_L1_T (T : Int) (M : Int) (l : List Int) (i : Int) : Prop := (cnd (decide (i < (((List.length (if (((wValid T M) && (edgesB l)) = Bool.true) then (runS T M s0 l) else ([] : List (List Int)))) : Nat) : Int)))
  (cnd (decide ((0 : Int) ≤ i))
    (cnd (decide (i < (((List.length (if (((wValid T M) && (edgesB l)) = Bool.true) then (runS T M s0 l) else ([] : List (List Int)))) : Nat) : Int)))
      (cnd (decide ((0 : Int) < i))
        (cnd (decide ((0 : Int) ≤ (Go.IntKind.wrap Go.IntKind.i64 (i - (1 : Int)))))
          (cnd (decide ((Go.IntKind.wrap Go.IntKind.i64 (i - (1 : Int))) < (((List.length (if (((wValid T M) && (edgesB l)) = Bool.true) then (runS T M s0 l) else ([] : List (List Int)))) : Nat) : Int)))
            (cnd (decide ((List.getD (List.getD (if (((wValid T M) && (edgesB l)) = Bool.true) then (runS T M s0 l) else ([] : List (List Int))) (Int.toNat i) ([] : List Int)) 0 (0 : Int)) = (0 : Int)))
              (cnd (!(decide ((List.getD (List.getD (if (((wValid T M) && (edgesB l)) = Bool.true) then (runS T M s0 l) else ([] : List (List Int))) (Int.toNat (Go.IntKind.wrap Go.IntKind.i64 (i - (1 : Int)))) ([] : List Int)) 0 (0 : Int)) = (2 : Int))))
                (Bool.false = Bool.true)
                ((seeks_L1_I T M l (Go.IntKind.wrap Go.IntKind.i64 (i + (1 : Int)))) ∧ (((seeks_L1_m T M l (Go.IntKind.wrap Go.IntKind.i64 (i + (1 : Int)))) < (seeks_L1_m T M l i)) ∧ (((Go.IntKind.wrap Go.IntKind.i64 (i + (1 : Int))) = (Go.IntKind.wrap Go.IntKind.i64 (i + (1 : Int)))) ∧ (((((List.length (if (((wValid T M) && (edgesB l)) = Bool.true) then (runS T M s0 l) else ([] : List (List Int)))) : Nat) : Int) = (((List.length (if (((wValid T M) && (edgesB l)) = Bool.true) then (runS T M s0 l) else ([] : List (List Int)))) : Nat) : Int)) ∧ (True ∧ (True ∧ ((Bool.false = Bool.false) ∧ (True ∧ (True ∧ (((T = T) ∧ (M = M)) ∧ ((l = l) ∧ (((if (((wValid T M) && (edgesB l)) = Bool.true) then (runS T M s0 l) else ([] : List (List Int))) = (if (((wValid T M) && (edgesB l)) = Bool.true) then (runS T M s0 l) else ([] : List (List Int)))) ∧ True)))))))))))))
              (cnd (decide ((List.getD (List.getD (if (((wValid T M) && (edgesB l)) = Bool.true) then (runS T M s0 l) else ([] : List (List Int))) (Int.toNat i) ([] : List Int)) 0 (0 : Int)) = (1 : Int)))
                (cnd ((!((decide ((List.getD (List.getD (if (((wValid T M) && (edgesB l)) = Bool.true) then (runS T M s0 l) else ([] : List (List Int))) (Int.toNat (Go.IntKind.wrap Go.IntKind.i64 (i - (1 : Int)))) ([] : List Int)) 0 (0 : Int)) = (2 : Int))) == Bool.false)) || (decide ((0 : Int) ≤ i)))
                  (cnd ((!((decide ((List.getD (List.getD (if (((wValid T M) && (edgesB l)) = Bool.true) then (runS T M s0 l) else ([] : List (List Int))) (Int.toNat (Go.IntKind.wrap Go.IntKind.i64 (i - (1 : Int)))) ([] : List Int)) 0 (0 : Int)) = (2 : Int))) == Bool.false)) || (decide (i < (((List.length l) : Nat) : Int))))
                    (cnd ((decide ((List.getD (List.getD (if (((wValid T M) && (edgesB l)) = Bool.true) then (runS T M s0 l) else ([] : List (List Int))) (Int.toNat (Go.IntKind.wrap Go.IntKind.i64 (i - (1 : Int)))) ([] : List Int)) 0 (0 : Int)) = (2 : Int))) || (!(decide ((List.getD (List.getD (if (((wValid T M) && (edgesB l)) = Bool.true) then (runS T M s0 l) else ([] : List (List Int))) (Int.toNat i) ([] : List Int)) ((0 + 1) + 1) (0 : Int)) = (List.getD l (Int.toNat i) (0 : Int))))))
                      (Bool.false = Bool.true)
                      ((seeks_L1_I T M l (Go.IntKind.wrap Go.IntKind.i64 (i + (1 : Int)))) ∧ (((seeks_L1_m T M l (Go.IntKind.wrap Go.IntKind.i64 (i + (1 : Int)))) < (seeks_L1_m T M l i)) ∧ (((Go.IntKind.wrap Go.IntKind.i64 (i + (1 : Int))) = (Go.IntKind.wrap Go.IntKind.i64 (i + (1 : Int)))) ∧ (((((List.length (if (((wValid T M) && (edgesB l)) = Bool.true) then (runS T M s0 l) else ([] : List (List Int)))) : Nat) : Int) = (((List.length (if (((wValid T M) && (edgesB l)) = Bool.true) then (runS T M s0 l) else ([] : List (List Int)))) : Nat) : Int)) ∧ (True ∧ (True ∧ ((Bool.false = Bool.false) ∧ (True ∧ (True ∧ (((T = T) ∧ (M = M)) ∧ ((l = l) ∧ (((if (((wValid T M) && (edgesB l)) = Bool.true) then (runS T M s0 l) else ([] : List (List Int))) = (if (((wValid T M) && (edgesB l)) = Bool.true) then (runS T M s0 l) else ([] : List (List Int)))) ∧ True)))))))))))))
                    False)
                  False)
                (cnd (decide ((List.getD (List.getD (if (((wValid T M) && (edgesB l)) = Bool.true) then (runS T M s0 l) else ([] : List (List Int))) (Int.toNat i) ([] : List Int)) 0 (0 : Int)) = (2 : Int)))
                  (cnd (decide ((0 : Int) ≤ i))
                    (cnd (decide (i < (((List.length l) : Nat) : Int)))
                      (cnd ((!(((!(decide ((List.getD (List.getD (if (((wValid T M) && (edgesB l)) = Bool.true) then (runS T M s0 l) else ([] : List (List Int))) (Int.toNat i) ([] : List Int)) ((0 + 1) + 1) (0 : Int)) = (List.getD l (Int.toNat i) (0 : Int))))) || (decide (i < (3 : Int)))) == Bool.false)) || (decide ((0 : Int) ≤ i)))
                        (cnd ((!(((!(decide ((List.getD (List.getD (if (((wValid T M) && (edgesB l)) = Bool.true) then (runS T M s0 l) else ([] : List (List Int))) (Int.toNat i) ([] : List Int)) ((0 + 1) + 1) (0 : Int)) = (List.getD l (Int.toNat i) (0 : Int))))) || (decide (i < (3 : Int)))) == Bool.false)) || (decide (i < (((List.length l) : Nat) : Int))))
                          (cnd ((!(((!(decide ((List.getD (List.getD (if (((wValid T M) && (edgesB l)) = Bool.true) then (runS T M s0 l) else ([] : List (List Int))) (Int.toNat i) ([] : List Int)) ((0 + 1) + 1) (0 : Int)) = (List.getD l (Int.toNat i) (0 : Int))))) || (decide (i < (3 : Int)))) == Bool.false)) || (decide ((0 : Int) ≤ (Go.IntKind.wrap Go.IntKind.i64 (i - (1 : Int))))))
                            (cnd ((!(((!(decide ((List.getD (List.getD (if (((wValid T M) && (edgesB l)) = Bool.true) then (runS T M s0 l) else ([] : List (List Int))) (Int.toNat i) ([] : List Int)) ((0 + 1) + 1) (0 : Int)) = (List.getD l (Int.toNat i) (0 : Int))))) || (decide (i < (3 : Int)))) == Bool.false)) || (decide ((Go.IntKind.wrap Go.IntKind.i64 (i - (1 : Int))) < (((List.length l) : Nat) : Int))))
                              (cnd (((!(decide ((List.getD (List.getD (if (((wValid T M) && (edgesB l)) = Bool.true) then (runS T M s0 l) else ([] : List (List Int))) (Int.toNat i) ([] : List Int)) ((0 + 1) + 1) (0 : Int)) = (List.getD l (Int.toNat i) (0 : Int))))) || (decide (i < (3 : Int)))) || (!(decide ((List.getD (List.getD (if (((wValid T M) && (edgesB l)) = Bool.true) then (runS T M s0 l) else ([] : List (List Int))) (Int.toNat i) ([] : List Int)) (((0 + 1) + 1) + 1) (0 : Int)) = (Go.IntKind.wrap Go.IntKind.i64 ((List.getD l (Int.toNat i) (0 : Int)) - (List.getD l (Int.toNat (Go.IntKind.wrap Go.IntKind.i64 (i - (1 : Int)))) (0 : Int))))))))
                                (Bool.false = Bool.true)
                                (cnd (decide ((List.getD (List.getD (if (((wValid T M) && (edgesB l)) = Bool.true) then (runS T M s0 l) else ([] : List (List Int))) (Int.toNat (Go.IntKind.wrap Go.IntKind.i64 (i - (1 : Int)))) ([] : List Int)) 0 (0 : Int)) = (2 : Int)))
                                  (cnd (decide ((tth T M) ≠ (0 : Int)))
                                    (cnd (!(decide ((List.getD (List.getD (if (((wValid T M) && (edgesB l)) = Bool.true) then (runS T M s0 l) else ([] : List (List Int))) (Int.toNat i) ([] : List Int)) (0 + 1) (0 : Int)) = (Int.tmod (Go.IntKind.wrap Go.IntKind.i64 ((List.getD (List.getD (if (((wValid T M) && (edgesB l)) = Bool.true) then (runS T M s0 l) else ([] : List (List Int))) (Int.toNat (Go.IntKind.wrap Go.IntKind.i64 (i - (1 : Int)))) ([] : List Int)) (0 + 1) (0 : Int)) + (1 : Int))) (tth T M)))))
                                      (Bool.false = Bool.true)
                                      ((seeks_L1_I T M l (Go.IntKind.wrap Go.IntKind.i64 (i + (1 : Int)))) ∧ (((seeks_L1_m T M l (Go.IntKind.wrap Go.IntKind.i64 (i + (1 : Int)))) < (seeks_L1_m T M l i)) ∧ (((Go.IntKind.wrap Go.IntKind.i64 (i + (1 : Int))) = (Go.IntKind.wrap Go.IntKind.i64 (i + (1 : Int)))) ∧ (((((List.length (if (((wValid T M) && (edgesB l)) = Bool.true) then (runS T M s0 l) else ([] : List (List Int)))) : Nat) : Int) = (((List.length (if (((wValid T M) && (edgesB l)) = Bool.true) then (runS T M s0 l) else ([] : List (List Int)))) : Nat) : Int)) ∧ (True ∧ (True ∧ ((Bool.false = Bool.false) ∧ (True ∧ (True ∧ (((T = T) ∧ (M = M)) ∧ ((l = l) ∧ (((if (((wValid T M) && (edgesB l)) = Bool.true) then (runS T M s0 l) else ([] : List (List Int))) = (if (((wValid T M) && (edgesB l)) = Bool.true) then (runS T M s0 l) else ([] : List (List Int)))) ∧ True)))))))))))))
                                    False)
                                  (cnd (decide ((0 : Int) ≤ (Go.IntKind.wrap Go.IntKind.i64 (i - (2 : Int)))))
                                    (cnd (decide ((Go.IntKind.wrap Go.IntKind.i64 (i - (2 : Int))) < (((List.length l) : Nat) : Int)))
                                      (cnd (decide ((0 : Int) ≤ (Go.IntKind.wrap Go.IntKind.i64 (i - (3 : Int)))))
                                        (cnd (decide ((Go.IntKind.wrap Go.IntKind.i64 (i - (3 : Int))) < (((List.length l) : Nat) : Int)))
                                          (cnd (decide ((0 : Int) ≤ (Go.IntKind.wrap Go.IntKind.i64 (i - (1 : Int)))))
                                            (cnd (decide ((Go.IntKind.wrap Go.IntKind.i64 (i - (1 : Int))) < (((List.length l) : Nat) : Int)))
                                              (cnd (decide ((0 : Int) ≤ (Go.IntKind.wrap Go.IntKind.i64 (i - (2 : Int)))))
                                                (cnd (decide ((Go.IntKind.wrap Go.IntKind.i64 (i - (2 : Int))) < (((List.length l) : Nat) : Int)))
                                                  (cnd ((((!(decide ((List.getD (List.getD (if (((wValid T M) && (edgesB l)) = Bool.true) then (runS T M s0 l) else ([] : List (List Int))) (Int.toNat (Go.IntKind.wrap Go.IntKind.i64 (i - (1 : Int)))) ([] : List Int)) 0 (0 : Int)) = (1 : Int)))) || (!(decide ((List.getD (List.getD (if (((wValid T M) && (edgesB l)) = Bool.true) then (runS T M s0 l) else ([] : List (List Int))) (Int.toNat i) ([] : List Int)) (0 + 1) (0 : Int)) = (0 : Int))))) || (decide ((Go.IntKind.wrap Go.IntKind.i64 ((List.getD l (Int.toNat (Go.IntKind.wrap Go.IntKind.i64 (i - (2 : Int)))) (0 : Int)) - (List.getD l (Int.toNat (Go.IntKind.wrap Go.IntKind.i64 (i - (3 : Int)))) (0 : Int)))) < (Go.IntKind.wrap Go.IntKind.i64 ((4 : Int) * (gmax (Go.IntKind.wrap Go.IntKind.i64 ((Go.IntKind.wrap Go.IntKind.i64 ((List.getD l (Int.toNat (Go.IntKind.wrap Go.IntKind.i64 (i - (2 : Int)))) (0 : Int)) - (List.getD l (Int.toNat (Go.IntKind.wrap Go.IntKind.i64 (i - (3 : Int)))) (0 : Int)))) - (Go.IntKind.wrap Go.IntKind.i64 ((List.getD l (Int.toNat (Go.IntKind.wrap Go.IntKind.i64 (i - (1 : Int)))) (0 : Int)) - (List.getD l (Int.toNat (Go.IntKind.wrap Go.IntKind.i64 (i - (2 : Int)))) (0 : Int)))))) (Go.IntKind.wrap Go.IntKind.i64 ((Go.IntKind.wrap Go.IntKind.i64 ((List.getD l (Int.toNat (Go.IntKind.wrap Go.IntKind.i64 (i - (1 : Int)))) (0 : Int)) - (List.getD l (Int.toNat (Go.IntKind.wrap Go.IntKind.i64 (i - (2 : Int)))) (0 : Int)))) - (Go.IntKind.wrap Go.IntKind.i64 ((List.getD l (Int.toNat (Go.IntKind.wrap Go.IntKind.i64 (i - (2 : Int)))) (0 : Int)) - (List.getD l (Int.toNat (Go.IntKind.wrap Go.IntKind.i64 (i - (3 : Int)))) (0 : Int)))))))))))) || (!((((((wValid T M) && (decide ((1 : Int) ≤ (Go.IntKind.wrap Go.IntKind.i64 ((List.getD l (Int.toNat (Go.IntKind.wrap Go.IntKind.i64 (i - (1 : Int)))) (0 : Int)) - (List.getD l (Int.toNat (Go.IntKind.wrap Go.IntKind.i64 (i - (2 : Int)))) (0 : Int))))))) && (decide ((Go.IntKind.wrap Go.IntKind.i64 ((List.getD l (Int.toNat (Go.IntKind.wrap Go.IntKind.i64 (i - (1 : Int)))) (0 : Int)) - (List.getD l (Int.toNat (Go.IntKind.wrap Go.IntKind.i64 (i - (2 : Int)))) (0 : Int)))) ≤ (1099511627776 : Int)))) && (decide ((1 : Int) ≤ (List.getD (List.getD (if (((wValid T M) && (edgesB l)) = Bool.true) then (runS T M s0 l) else ([] : List (List Int))) (Int.toNat i) ([] : List Int)) (((0 + 1) + 1) + 1) (0 : Int))))) && (decide ((List.getD (List.getD (if (((wValid T M) && (edgesB l)) = Bool.true) then (runS T M s0 l) else ([] : List (List Int))) (Int.toNat i) ([] : List Int)) (((0 + 1) + 1) + 1) (0 : Int)) ≤ (1099511627776 : Int)))) && (gapB M (Go.IntKind.wrap Go.IntKind.i64 ((List.getD l (Int.toNat (Go.IntKind.wrap Go.IntKind.i64 (i - (1 : Int)))) (0 : Int)) - (List.getD l (Int.toNat (Go.IntKind.wrap Go.IntKind.i64 (i - (2 : Int)))) (0 : Int)))) (List.getD (List.getD (if (((wValid T M) && (edgesB l)) = Bool.true) then (runS T M s0 l) else ([] : List (List Int))) (Int.toNat i) ([] : List Int)) (((0 + 1) + 1) + 1) (0 : Int))))))
                                                    (Bool.false = Bool.true)
                                                    ((seeks_L1_I T M l (Go.IntKind.wrap Go.IntKind.i64 (i + (1 : Int)))) ∧ (((seeks_L1_m T M l (Go.IntKind.wrap Go.IntKind.i64 (i + (1 : Int)))) < (seeks_L1_m T M l i)) ∧ (((Go.IntKind.wrap Go.IntKind.i64 (i + (1 : Int))) = (Go.IntKind.wrap Go.IntKind.i64 (i + (1 : Int)))) ∧ (((((List.length (if (((wValid T M) && (edgesB l)) = Bool.true) then (runS T M s0 l) else ([] : List (List Int)))) : Nat) : Int) = (((List.length (if (((wValid T M) && (edgesB l)) = Bool.true) then (runS T M s0 l) else ([] : List (List Int)))) : Nat) : Int)) ∧ (True ∧ (True ∧ ((Bool.false = Bool.false) ∧ (True ∧ (True ∧ (((T = T) ∧ (M = M)) ∧ ((l = l) ∧ (((if (((wValid T M) && (edgesB l)) = Bool.true) then (runS T M s0 l) else ([] : List (List Int))) = (if (((wValid T M) && (edgesB l)) = Bool.true) then (runS T M s0 l) else ([] : List (List Int)))) ∧ True)))))))))))))
                                                  False)
                                                False)
                                              False)
                                            False)
                                          False)
                                        False)
                                      False)
                                    False)))
                              False)
                            False)
                          False)
                        False)
                      False)
                    False)
                  (Bool.false = Bool.true))))
            False)
          False)
        (cnd (decide ((List.getD (List.getD (if (((wValid T M) && (edgesB l)) = Bool.true) then (runS T M s0 l) else ([] : List (List Int))) (Int.toNat i) ([] : List Int)) 0 (0 : Int)) = (0 : Int)))
          (Bool.false = Bool.true)
          (cnd (decide ((List.getD (List.getD (if (((wValid T M) && (edgesB l)) = Bool.true) then (runS T M s0 l) else ([] : List (List Int))) (Int.toNat i) ([] : List Int)) 0 (0 : Int)) = (1 : Int)))
            (cnd ((!((decide ((0 : Int) = (2 : Int))) == Bool.false)) || (decide ((0 : Int) ≤ i)))
              (cnd ((!((decide ((0 : Int) = (2 : Int))) == Bool.false)) || (decide (i < (((List.length l) : Nat) : Int))))
                (cnd ((decide ((0 : Int) = (2 : Int))) || (!(decide ((List.getD (List.getD (if (((wValid T M) && (edgesB l)) = Bool.true) then (runS T M s0 l) else ([] : List (List Int))) (Int.toNat i) ([] : List Int)) ((0 + 1) + 1) (0 : Int)) = (List.getD l (Int.toNat i) (0 : Int))))))
                  (Bool.false = Bool.true)
                  ((seeks_L1_I T M l (Go.IntKind.wrap Go.IntKind.i64 (i + (1 : Int)))) ∧ (((seeks_L1_m T M l (Go.IntKind.wrap Go.IntKind.i64 (i + (1 : Int)))) < (seeks_L1_m T M l i)) ∧ (((Go.IntKind.wrap Go.IntKind.i64 (i + (1 : Int))) = (Go.IntKind.wrap Go.IntKind.i64 (i + (1 : Int)))) ∧ (((((List.length (if (((wValid T M) && (edgesB l)) = Bool.true) then (runS T M s0 l) else ([] : List (List Int)))) : Nat) : Int) = (((List.length (if (((wValid T M) && (edgesB l)) = Bool.true) then (runS T M s0 l) else ([] : List (List Int)))) : Nat) : Int)) ∧ (True ∧ (True ∧ ((Bool.false = Bool.false) ∧ (True ∧ (True ∧ (((T = T) ∧ (M = M)) ∧ ((l = l) ∧ (((if (((wValid T M) && (edgesB l)) = Bool.true) then (runS T M s0 l) else ([] : List (List Int))) = (if (((wValid T M) && (edgesB l)) = Bool.true) then (runS T M s0 l) else ([] : List (List Int)))) ∧ True)))))))))))))
                False)
              False)
            (cnd (decide ((List.getD (List.getD (if (((wValid T M) && (edgesB l)) = Bool.true) then (runS T M s0 l) else ([] : List (List Int))) (Int.toNat i) ([] : List Int)) 0 (0 : Int)) = (2 : Int)))
              (cnd (decide ((0 : Int) ≤ i))
                (cnd (decide (i < (((List.length l) : Nat) : Int)))
                  (cnd ((!(((!(decide ((List.getD (List.getD (if (((wValid T M) && (edgesB l)) = Bool.true) then (runS T M s0 l) else ([] : List (List Int))) (Int.toNat i) ([] : List Int)) ((0 + 1) + 1) (0 : Int)) = (List.getD l (Int.toNat i) (0 : Int))))) || (decide (i < (3 : Int)))) == Bool.false)) || (decide ((0 : Int) ≤ i)))
                    (cnd ((!(((!(decide ((List.getD (List.getD (if (((wValid T M) && (edgesB l)) = Bool.true) then (runS T M s0 l) else ([] : List (List Int))) (Int.toNat i) ([] : List Int)) ((0 + 1) + 1) (0 : Int)) = (List.getD l (Int.toNat i) (0 : Int))))) || (decide (i < (3 : Int)))) == Bool.false)) || (decide (i < (((List.length l) : Nat) : Int))))
                      (cnd ((!(((!(decide ((List.getD (List.getD (if (((wValid T M) && (edgesB l)) = Bool.true) then (runS T M s0 l) else ([] : List (List Int))) (Int.toNat i) ([] : List Int)) ((0 + 1) + 1) (0 : Int)) = (List.getD l (Int.toNat i) (0 : Int))))) || (decide (i < (3 : Int)))) == Bool.false)) || (decide ((0 : Int) ≤ (Go.IntKind.wrap Go.IntKind.i64 (i - (1 : Int))))))
                        (cnd ((!(((!(decide ((List.getD (List.getD (if (((wValid T M) && (edgesB l)) = Bool.true) then (runS T M s0 l) else ([] : List (List Int))) (Int.toNat i) ([] : List Int)) ((0 + 1) + 1) (0 : Int)) = (List.getD l (Int.toNat i) (0 : Int))))) || (decide (i < (3 : Int)))) == Bool.false)) || (decide ((Go.IntKind.wrap Go.IntKind.i64 (i - (1 : Int))) < (((List.length l) : Nat) : Int))))
                          (cnd (((!(decide ((List.getD (List.getD (if (((wValid T M) && (edgesB l)) = Bool.true) then (runS T M s0 l) else ([] : List (List Int))) (Int.toNat i) ([] : List Int)) ((0 + 1) + 1) (0 : Int)) = (List.getD l (Int.toNat i) (0 : Int))))) || (decide (i < (3 : Int)))) || (!(decide ((List.getD (List.getD (if (((wValid T M) && (edgesB l)) = Bool.true) then (runS T M s0 l) else ([] : List (List Int))) (Int.toNat i) ([] : List Int)) (((0 + 1) + 1) + 1) (0 : Int)) = (Go.IntKind.wrap Go.IntKind.i64 ((List.getD l (Int.toNat i) (0 : Int)) - (List.getD l (Int.toNat (Go.IntKind.wrap Go.IntKind.i64 (i - (1 : Int)))) (0 : Int))))))))
                            (Bool.false = Bool.true)
                            (cnd (decide ((0 : Int) ≤ (Go.IntKind.wrap Go.IntKind.i64 (i - (2 : Int)))))
                              (cnd (decide ((Go.IntKind.wrap Go.IntKind.i64 (i - (2 : Int))) < (((List.length l) : Nat) : Int)))
                                (cnd (decide ((0 : Int) ≤ (Go.IntKind.wrap Go.IntKind.i64 (i - (3 : Int)))))
                                  (cnd (decide ((Go.IntKind.wrap Go.IntKind.i64 (i - (3 : Int))) < (((List.length l) : Nat) : Int)))
                                    (cnd (decide ((0 : Int) ≤ (Go.IntKind.wrap Go.IntKind.i64 (i - (1 : Int)))))
                                      (cnd (decide ((Go.IntKind.wrap Go.IntKind.i64 (i - (1 : Int))) < (((List.length l) : Nat) : Int)))
                                        (cnd (decide ((0 : Int) ≤ (Go.IntKind.wrap Go.IntKind.i64 (i - (2 : Int)))))
                                          (cnd (decide ((Go.IntKind.wrap Go.IntKind.i64 (i - (2 : Int))) < (((List.length l) : Nat) : Int)))
                                            (Bool.false = Bool.true)
                                            False)
                                          False)
                                        False)
                                      False)
                                    False)
                                  False)
                                False)
                              False))
                          False)
                        False)
                      False)
                    False)
                  False)
                False)
              (Bool.false = Bool.true)))))
      False)
    False)
  (Bool.true = Bool.true))
set_option maxRecDepth 100000 in
theorem seeks_L1_tree (T : Int) (M : Int) (l : List Int) (i : Int) : seeks_L1_T T M l i = ex Try.prog (conOf [awake_e, srun_e, sGap_e, snew_e, wteeth_e]) (subC (bodyOf Try.f4) [1, 1, 1, 1, 1, 0, 1, 0, 0]) (nextE (seeks_L1_N T M l i) (kont Try.prog (conOf [awake_e, srun_e, sGap_e, snew_e, wteeth_e]) (bodyOf Try.f4) [1, 1, 1, 1, 1, 0, 1, 0] (retPost Try.prog Try.f4 1 (seeks_res T M l)))) (seeks_L1_F T M l i) := by kernel_rfl
set_option maxRecDepth 100000 in
theorem seeks_L1_round (T : Int) (M : Int) (l : List Int) (i : Int) (p0 : wfI .i64 T = true) (p1 : wfI .i64 M = true) (p2 : wfL .i64 l = true) (hI_L1 : seeks_L1_I T M l i) : seeks_L1_T T M l i := by
  obtain ⟨⟨a1, a2⟩, a3⟩ := hI_L1
  unfold seeks_L1_T
  obtain ⟨hw, he⟩ := (Bool.and_eq_true _ _ ▸ a3 : wValid T M = true ∧ edgesB l = true)
  obtain ⟨b1, b2, b3⟩ := edgesB_iff.1 he
  have hlen := runS_length (T := T) (M := M) l s0
  have htt : tth T M = T - M := by unfold tth; rw [if_pos hw]
  have hwv := wValid_iff.1 hw
  simp only [hw, he, Bool.and_self, if_true, hlen, htt]
  rw [decide_eq_true a1, w64 (n := i + 1) (by omega) (by omega), w64 (n := i - 1) (by omega) (by omega), w64 (n := i - 2) (by omega) (by omega), w64 (n := i - 3) (by omega) (by omega)]
  by_cases hi : i < l.length
  · have hF : seeks_L1_I T M l (i + 1) := ⟨⟨by omega, by omega⟩, a3⟩
    have hμ : seeks_L1_m T M l (i + 1) < seeks_L1_m T M l i := by unfold seeks_L1_m; omega
    rw [decide_eq_true hi]
    have hg := runS_get T M l s0 i.toNat (by omega)
    have ht := isT_iff.1 (edge_isT b2 (j := i.toNat) (by omega))
    by_cases h0 : 0 < i
    · have hH := hist hw he (i.toNat - 1) (by omega)
      have hbe : bef (runS T M s0 l) s0 i.toNat = (runS T M s0 l).getD (i - 1).toNat [] := by
        obtain ⟨k, hk⟩ : ∃ k, i.toNat = k + 1 := ⟨i.toNat - 1, by omega⟩
        rw [hk, show (i - 1).toNat = k by omega]; rfl
      rw [hbe] at hg
      rw [show i.toNat - 1 = (i - 1).toNat by omega] at hH
      have ht1 := isT_iff.1 (edge_isT b2 (j := (i - 1).toNat) (by omega))
      have hi1 := incr_get b3 (j := (i - 1).toNat) (by omega)
      rw [show (i - 1).toNat + 1 = i.toNat by omega] at hi1
      rw [decide_eq_true h0, decide_eq_true (show 0 ≤ i - 1 by omega), decide_eq_true (show i - 1 < (l.length : Int) by omega)]
      generalize (runS T M s0 l).getD (i - 1).toNat [] = b at *
      obtain ⟨g1, g2, g3, g4⟩ := hH
      have e2 : q b 0 = 0 ∨ q b 2 = l.getD (i - 1).toNat 0 := g2
      rw [show (i - 1).toNat - 1 = (i - 2).toNat by omega, show (i - 1).toNat - 2 = (i - 3).toNat by omega] at g3
      rcases stq_cases g1 (l.getD i.toNat 0) with c | c | c | c | c | c
      · obtain ⟨c1, c⟩ := c
        rw [hg, c]
        have c1' : b.getD 0 0 = 0 := c1
        simp only [c1', List.getD_cons_zero, List.getD_cons_succ, Nat.zero_add]
        simp [cnd, hF, hμ]
      · obtain ⟨c1, c2, c3, c⟩ := c
        rw [hg, c]
        have e2 : q b 2 = l.getD (i - 1).toNat 0 := g2.resolve_left (by omega)
        have c1' : b.getD 0 0 = 1 := c1
        obtain ⟨g5, g6, g7⟩ : 1 ≤ (i - 1).toNat ∧ q b 4 = l.getD (i - 1).toNat 0 - l.getD (i - 2).toNat 0 ∧ (q b 5 = 2 → 2 ≤ (i - 1).toNat ∧ fitB (l.getD (i - 1).toNat 0 - l.getD (i - 2).toNat 0) (l.getD (i - 2).toNat 0 - l.getD (i - 3).toNat 0) = true) := by
          rcases g3 c1 with h | h
          · omega
          · exact h
        obtain ⟨g8, g9⟩ := g7 c2
        have ht2 := isT_iff.1 (edge_isT b2 (j := (i - 2).toNat) (by omega))
        have ht3 := isT_iff.1 (edge_isT b2 (j := (i - 3).toNat) (by omega))
        have hi2 := incr_get b3 (j := (i - 2).toNat) (by omega)
        rw [show (i - 2).toNat + 1 = (i - 1).toNat by omega] at hi2
        have hi3 := incr_get b3 (j := (i - 3).toNat) (by omega)
        rw [show (i - 3).toNat + 1 = (i - 2).toNat by omega] at hi3
        rw [g6, e2] at c3
        rw [e2]
        rw [decide_eq_true (show 0 ≤ i - 2 by omega), decide_eq_true (show i - 2 < (l.length : Int) by omega), decide_eq_true (show 0 ≤ i - 3 by omega), decide_eq_true (show i - 3 < (l.length : Int) by omega), decide_eq_false (show ¬ i < 3 by omega)]
        generalize l.getD i.toNat 0 = t0 at *
        generalize l.getD (i - 1).toNat 0 = t1 at *
        generalize l.getD (i - 2).toNat 0 = t2 at *
        generalize l.getD (i - 3).toNat 0 = t3 at *
        rw [w64 (n := t0 - t1) (by omega) (by omega), w64 (n := t1 - t2) (by omega) (by omega), w64 (n := t2 - t3) (by omega) (by omega), w64 (n := t2 - t3 - (t1 - t2)) (by omega) (by omega), w64 (n := t1 - t2 - (t2 - t3)) (by omega) (by omega)]
        have e : gmax (t2 - t3 - (t1 - t2)) (t1 - t2 - (t2 - t3)) = max (t2 - t3 - (t1 - t2)) (t1 - t2 - (t2 - t3)) := by unfold gmax; omega
        rw [e, w64 (n := 4 * max _ _) (by omega) (by omega)]
        simp only [fitB, decide_eq_true_eq] at g9
        rw [decide_eq_false (show ¬ (t2 - t3 < 4 * max (t2 - t3 - (t1 - t2)) (t1 - t2 - (t2 - t3))) by omega)]
        simp only [c1', List.getD_cons_zero, List.getD_cons_succ, Nat.zero_add, c3]
        rw [decide_eq_true (show 1 ≤ t1 - t2 by omega), decide_eq_true (show t1 - t2 ≤ 1099511627776 by omega), decide_eq_true (show 1 ≤ t0 - t1 by omega), decide_eq_true (show t0 - t1 ≤ 1099511627776 by omega)]
        simp [cnd, hF, hμ]
      · obtain ⟨c1, c⟩ := c
        rw [hg, c]
        have c1' : b.getD 0 0 = 1 := c1
        simp only [c1', List.getD_cons_zero, List.getD_cons_succ, Nat.zero_add]
        simp [cnd, hF, hμ]
      · obtain ⟨c1, c⟩ := c
        rw [hg, c]
        have c1' : b.getD 0 0 = 2 := c1
        simp only [c1', List.getD_cons_zero, List.getD_cons_succ, Nat.zero_add]
        simp [cnd, hF, hμ]
      · obtain ⟨c1, c2, c⟩ := c
        rw [hg, c]
        have e2 : q b 2 = l.getD (i - 1).toNat 0 := g2.resolve_left (by omega)
        have c1' : b.getD 0 0 = 2 := c1
        have c2' : b.getD 1 0 = T - M - 1 := c2
        have h3 := g4 c1
        rw [e2]
        rw [w64 (n := l.getD i.toNat 0 - l.getD (i - 1).toNat 0) (by omega) (by omega), decide_eq_false (show ¬ i < 3 by omega), decide_eq_true (show T - M ≠ 0 by omega)]
        simp only [c1', List.getD_cons_zero, List.getD_cons_succ, Nat.zero_add]
        rw [c2', w64 (n := T - M - 1 + 1) (by omega) (by omega), show T - M - 1 + 1 = T - M by omega, tmod_pos (by omega : 0 ≤ T - M), Int.emod_self]
        simp [cnd, hF, hμ]
      · obtain ⟨c1, c2, c⟩ := c
        rw [hg, c]
        have e2 : q b 2 = l.getD (i - 1).toNat 0 := g2.resolve_left (by omega)
        have c1' : b.getD 0 0 = 2 := c1
        have c2' : 0 ≤ b.getD 1 0 ∧ b.getD 1 0 < T - M - 1 := c2
        have h3 := g4 c1
        rw [e2]
        rw [w64 (n := l.getD i.toNat 0 - l.getD (i - 1).toNat 0) (by omega) (by omega), decide_eq_false (show ¬ i < 3 by omega), decide_eq_true (show T - M ≠ 0 by omega)]
        simp only [c1', List.getD_cons_zero, List.getD_cons_succ, Nat.zero_add]
        show cnd _ _ _
        have e5 : q b 1 = b.getD 1 0 := rfl
        rw [e5, w64 (n := b.getD 1 0 + 1) (by omega) (by omega), tmod_pos (by omega : 0 ≤ b.getD 1 0 + 1), Int.emod_eq_of_lt (by omega) (by omega)]
        simp [cnd, hF, hμ]
    · have hi0 : i = 0 := by omega
      subst hi0
      have hg0 : (runS T M s0 l).getD (0 : Int).toNat [] = [1, 0, l.getD (0 : Int).toNat 0, 0, 0, 0] := by
        rw [hg]; rfl
      rw [hg0]
      simp only [List.getD_cons_zero, List.getD_cons_succ, Nat.zero_add]
      simp [cnd]
      exact ⟨hF, hμ⟩
  · rw [decide_eq_false hi]
    simp only [cnd]
set_option maxRecDepth 100000 in
theorem seeks_L1_entry1 (T : Int) (M : Int) (l : List Int) : (((seeks_L1_I T M l (0 : Int)) ∧ (((0 : Int) = (0 : Int)) ∧ (((((List.length (if (((wValid T M) && (edgesB l)) = Bool.true) then (runS T M s0 l) else ([] : List (List Int)))) : Nat) : Int) = (((List.length (if (((wValid T M) && (edgesB l)) = Bool.true) then (runS T M s0 l) else ([] : List (List Int)))) : Nat) : Int)) ∧ (True ∧ (True ∧ ((Bool.false = Bool.false) ∧ (True ∧ (True ∧ (((T = T) ∧ (M = M)) ∧ ((l = l) ∧ (((if (((wValid T M) && (edgesB l)) = Bool.true) then (runS T M s0 l) else ([] : List (List Int))) = (if (((wValid T M) && (edgesB l)) = Bool.true) then (runS T M s0 l) else ([] : List (List Int)))) ∧ True)))))))))))) = seeks_L1_E T M l (seeks_L1_S1 T M l) := by kernel_rfl
theorem seeks_L1_1 (T : Int) (M : Int) (l : List Int) (p0 : wfI .i64 T = true) (p1 : wfI .i64 M = true) (p2 : wfL .i64 l = true) (h : ((seeks_L1_I T M l (0 : Int)) ∧ (((0 : Int) = (0 : Int)) ∧ (((((List.length (if (((wValid T M) && (edgesB l)) = Bool.true) then (runS T M s0 l) else ([] : List (List Int)))) : Nat) : Int) = (((List.length (if (((wValid T M) && (edgesB l)) = Bool.true) then (runS T M s0 l) else ([] : List (List Int)))) : Nat) : Int)) ∧ (True ∧ (True ∧ ((Bool.false = Bool.false) ∧ (True ∧ (True ∧ (((T = T) ∧ (M = M)) ∧ ((l = l) ∧ (((if (((wValid T M) && (edgesB l)) = Bool.true) then (runS T M s0 l) else ([] : List (List Int))) = (if (((wValid T M) && (edgesB l)) = Bool.true) then (runS T M s0 l) else ([] : List (List Int)))) ∧ True)))))))))))) : LoopP (ex Try.prog (conOf [awake_e, srun_e, sGap_e, snew_e, wteeth_e]) (subC (bodyOf Try.f4) [1, 1, 1, 1, 1, 0, 1, 0, 0])) (kont Try.prog (conOf [awake_e, srun_e, sGap_e, snew_e, wteeth_e]) (bodyOf Try.f4) [1, 1, 1, 1, 1, 0, 1, 0] (retPost Try.prog Try.f4 1 (seeks_res T M l))) (seeks_L1_S1 T M l) := by
  have hE : seeks_L1_E T M l (seeks_L1_S1 T M l) := Eq.mp (seeks_L1_entry1 T M l) h
  unfold seeks_L1_E at hE
  obtain ⟨i, hE⟩ := getI_of hE
  refine loop_of (α := (Int)) (fun xx_ => seeks_L1_F T M l xx_) (fun xx_ => seeks_L1_I T M l xx_) (fun xx_ => seeks_L1_m T M l xx_) (fun xx_ => seeks_L1_N T M l xx_) (fun xx_ => seeks_L1_T T M l xx_) (fun xx_ s_ h => ?_) ⟨i, hE⟩ (fun xx_ => seeks_L1_tree T M l xx_) (fun xx_ hI => seeks_L1_round T M l xx_ p0 p1 p2 hI)
  unfold seeks_L1_N at h
  obtain ⟨i, h⟩ := getI_of h
  exact ⟨i, h⟩
set_option maxRecDepth 100000 in
theorem seeks_tree (T : Int) (M : Int) (l : List Int) : ((cnd ((!Bool.true) || (decide ((300 : Int) < (((List.length l) : Nat) : Int))))
  (Bool.true = Bool.true)
  (cnd (!(decide ((if (((wValid T M) && (edgesB l)) = Bool.true) then (0 : Int) else (1 : Int)) = (0 : Int))))
    ((decide ((((List.length (if (((wValid T M) && (edgesB l)) = Bool.true) then (runS T M s0 l) else ([] : List (List Int)))) : Nat) : Int) = (0 : Int))) = Bool.true)
    (cnd (!(decide ((((List.length (if (((wValid T M) && (edgesB l)) = Bool.true) then (runS T M s0 l) else ([] : List (List Int)))) : Nat) : Int) = (((List.length l) : Nat) : Int))))
      (Bool.false = Bool.true)
      (LoopP (ex Try.prog (conOf [awake_e, srun_e, sGap_e, snew_e, wteeth_e]) (subC (bodyOf Try.f4) [1, 1, 1, 1, 1, 0, 1, 0, 0])) (kont Try.prog (conOf [awake_e, srun_e, sGap_e, snew_e, wteeth_e]) (bodyOf Try.f4) [1, 1, 1, 1, 1, 0, 1, 0] (retPost Try.prog Try.f4 1 (seeks_res T M l))) (seeks_L1_S1 T M l)))))) = EXD Try.prog (conOf [awake_e, srun_e, sGap_e, snew_e, wteeth_e]) Try.f4 [.agg [.int .i64 T, .int .i64 M], .cel (.row 0)] [.ints .i64 l] (seeks_res T M l) := by kernel_rfl
theorem seeks_holds (T : Int) (M : Int) (l : List Int) (p0 : wfI .i64 T = true) (p1 : wfI .i64 M = true) (p2 : wfL .i64 l = true) : (cnd ((!Bool.true) || (decide ((300 : Int) < (((List.length l) : Nat) : Int))))
  (Bool.true = Bool.true)
  (cnd (!(decide ((if (((wValid T M) && (edgesB l)) = Bool.true) then (0 : Int) else (1 : Int)) = (0 : Int))))
    ((decide ((((List.length (if (((wValid T M) && (edgesB l)) = Bool.true) then (runS T M s0 l) else ([] : List (List Int)))) : Nat) : Int) = (0 : Int))) = Bool.true)
    (cnd (!(decide ((((List.length (if (((wValid T M) && (edgesB l)) = Bool.true) then (runS T M s0 l) else ([] : List (List Int)))) : Nat) : Int) = (((List.length l) : Nat) : Int))))
      (Bool.false = Bool.true)
      (LoopP (ex Try.prog (conOf [awake_e, srun_e, sGap_e, snew_e, wteeth_e]) (subC (bodyOf Try.f4) [1, 1, 1, 1, 1, 0, 1, 0, 0])) (kont Try.prog (conOf [awake_e, srun_e, sGap_e, snew_e, wteeth_e]) (bodyOf Try.f4) [1, 1, 1, 1, 1, 0, 1, 0] (retPost Try.prog Try.f4 1 (seeks_res T M l))) (seeks_L1_S1 T M l))))) := by
  refine cnd_i (fun _ => rfl) (fun h => ?_)
  have hl : (l.length : Int) ≤ 300 := by simpa using h
  cases hv : (wValid T M && edgesB l) with
  | false => simp [cnd]
  | true =>
    have hlen := runS_length (T := T) (M := M) l s0
    refine cnd_i (fun h => by simp at h) (fun _ => ?_)
    refine cnd_i (fun h => by simp [hlen] at h) (fun _ => ?_)
    exact seeks_L1_1 T M l p0 p1 p2 ⟨⟨⟨by omega, by omega⟩, hv⟩, by simp⟩
set_option maxHeartbeats 2000000 in
theorem seeks_ok : SoundEnt Try.prog seeks_e := by
  refine ent_of_ex (Γ := (conOf [awake_e, srun_e, sGap_e, snew_e, wteeth_e])) (conOf_sound (scons awake_ok (scons srun_ok (scons sGap_ok (scons snew_ok (scons wteeth_ok snil)))))) (by kernel_rfl) Try.func4 (by kernel_rfl) (by kernel_rfl) (fun args rows res h ho => ?_)
  change seeks_go args rows = some res at h
  unfold seeks_go at h
  split at h
  · simp only [Option.some.injEq] at h
    subst h
    rename_i q0_ q1_ q2_
    obtain ⟨p0, p1, p2, _⟩ := ho
    exact EX.of (seeks_tree q0_ q1_ q2_) (seeks_holds q0_ q1_ q2_ p0 p1 p2)
  · cases h
end Go.Proofs.Ytcaadikffaflnaa

