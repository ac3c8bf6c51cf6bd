/- The law of times. -/
import Derived.Test.YthfliohfkhnpiaaJ7
namespace Go.Proofs.Ythfliohfkhnpiaa
set_option linter.unusedVariables false
set_option linter.unusedSimpArgs false
open Go.RowKit

theorem way_lip : ∀ (l : List (List Int)) (e u d : Int), vL e l = true → 0 ≤ u → 0 ≤ d → way (u + d) l ≤ way u l + d * 524288
  | [], _, _, _, _, _, _ => by simp only [way]; omega
  | r :: l, e, u, d, hv, h0, h1 => by
    obtain ⟨⟨a1, a2, a3, a4⟩, a5, a6⟩ := vL_cons hv
    simp only [way]
    by_cases h : u < r0 r
    · have hz := way_zero l _ a6
      rw [show min u (r0 r) = u by omega, show u - u = 0 by omega, hz]
      have hb := (way_bd l _ (u + d - min (u + d) (r0 r)) a6 (by omega)).2
      have hm : (min (u + d) (r0 r) - u) * r1 r ≤ (min (u + d) (r0 r) - u) * 524288 := Int.mul_le_mul_of_nonneg_left a4 (by omega)
      have e1 : (min (u + d) (r0 r) - u) * r1 r = min (u + d) (r0 r) * r1 r - u * r1 r := Int.sub_mul _ _ _
      generalize min (u + d) (r0 r) * r1 r = x at *
      generalize u * r1 r = y at *
      generalize min (u + d) (r0 r) = z at *
      omega
    · rw [show min u (r0 r) = r0 r by omega, show min (u + d) (r0 r) = r0 r by omega]
      have := way_lip l _ (u - r0 r) d a6 (by omega) h1
      rw [show u + d - r0 r = u - r0 r + d by omega]
      omega
theorem incr_of : ∀ {l : List Int}, l.Pairwise (· < ·) → incr l = true
  | [], _ => rfl
  | [_], _ => rfl
  | a :: b :: l, h => by
    obtain ⟨h1, h2⟩ := List.pairwise_cons.1 h
    simp only [incr, Bool.and_eq_true, decide_eq_true_eq]
    exact ⟨h1 b (by simp), incr_of h2⟩
theorem pos_at {s : Int} {l : List (List Int)} {t : Int} (h : mErr s l t = 0) : posOf s l t = s + way t l / 65536 := by unfold posOf; rw [if_pos h]
/-- What is known of the time of a crank's edge. -/
theorem cr_time {T M s : Int} {l : List (List Int)} {e : Int} (h : crE (wValid T M) s l e = 0) (hf : fewB s l e = true) {x : Int} (hx : x ∈ eL T M s (posOf s l e)) :
    1 ≤ (tmOf s l x).1 ∧ (tmOf s l x).1 ≤ e ∧ mErr s l (tmOf s l x).1 = 0 ∧ mErr s l ((tmOf s l x).1 - 1) = 0 ∧ x ≤ posOf s l (tmOf s l x).1 ∧ posOf s l ((tmOf s l x).1 - 1) < x ∧ posOf s l (tmOf s l x).1 ≤ x + 8 := by
  obtain ⟨f1, f2, f3, f4, f5, f6, f7, f8, f9⟩ := cr_facts h hf
  obtain ⟨g1, g2, g3, g4, g5⟩ := f9 x hx
  obtain ⟨k1, k2, k3, k4⟩ := tm_key (p := x) f2
  obtain ⟨m1, m2, m3⟩ := k4 g3
  have v := (mV_iff.1 f2).2.2
  have hz := way_zero l 0 v
  have h0 := m3 0 (by omega)
  rw [hz] at h0
  have ht : 1 ≤ (tmOf s l x).1 := by omega
  have e1 : mErr s l (tmOf s l x).1 = 0 := mErr_zero.2 ⟨f2, by omega, by omega⟩
  have e2 : mErr s l ((tmOf s l x).1 - 1) = 0 := mErr_zero.2 ⟨f2, by omega, by omega⟩
  have c1 := (m3 (tmOf s l x).1 (by omega)).2 (Int.le_refl _)
  have c2 : ¬ x ≤ s + way ((tmOf s l x).1 - 1) l / 65536 := fun hc => by
    have := (m3 ((tmOf s l x).1 - 1) (by omega)).1 hc
    omega
  have c3 := way_lip l 0 ((tmOf s l x).1 - 1) 1 v (by omega) (by omega)
  rw [show (tmOf s l x).1 - 1 + 1 = (tmOf s l x).1 by omega] at c3
  rw [pos_at e1, pos_at e2]
  exact ⟨ht, g5, e1, e2, c1, by omega, by omega⟩
theorem cr_lt {T M s : Int} {l : List (List Int)} {e : Int} (h : crE (wValid T M) s l e = 0) (hf : fewB s l e = true) {x y : Int} (hx : x ∈ eL T M s (posOf s l e)) (hy : y ∈ eL T M s (posOf s l e)) (hxy : x + 192 ≤ y) : (tmOf s l x).1 < (tmOf s l y).1 := by
  obtain ⟨a1, a2, a3, a4, a5, a6, a7⟩ := cr_time h hf hx
  obtain ⟨b1, b2, b3, b4, b5, b6, b7⟩ := cr_time h hf hy
  obtain ⟨f1, f2, f3, f4, f5, f6, f7, f8, f9⟩ := cr_facts h hf
  have v := (mV_iff.1 f2).2.2
  rcases Int.lt_or_le (tmOf s l x).1 (tmOf s l y).1 with hl | hl
  · exact hl
  · have hm := way_more l 0 (tmOf s l y).1 ((tmOf s l x).1 - (tmOf s l y).1) v (by omega) (by omega)
    rw [show (tmOf s l y).1 + ((tmOf s l x).1 - (tmOf s l y).1) = (tmOf s l x).1 by omega] at hm
    rw [pos_at a3] at a7
    rw [pos_at b3] at b5
    omega
theorem cr_valid {T M s : Int} {l : List (List Int)} {e : Int} (h : crE (wValid T M) s l e = 0) (hf : fewB s l e = true) : vE (crT T M s l e) = true ∧ (crT T M s l e).length = (eL T M s (posOf s l e)).length ∧ (eL T M s (posOf s l e)).length ≤ 481 := by
  obtain ⟨f1, f2, f3, f4, f5, f6, f7, f8, f9⟩ := cr_facts h hf
  obtain ⟨_, e2, e3⟩ := eL_spec (b := posOf s l e) f1 f4.1
  have e3 := e3 f7
  have hP : crP T M s l e = eL T M s (posOf s l e) := by unfold crP; rw [if_pos h]
  have hT : crT T M s l e = (eL T M s (posOf s l e)).map fun p => (tmOf s l p).1 := by unfold crT; rw [hP]
  have hlen : (crT T M s l e).length = (eL T M s (posOf s l e)).length := by rw [hT, List.length_map]
  refine ⟨vE_iff.2 ⟨by omega, ?_, ?_⟩, hlen, by omega⟩
  · rw [hT, List.all_eq_true]
    intro t ht
    obtain ⟨x, hx, rfl⟩ := List.mem_map.1 ht
    have := cr_time h hf hx
    exact isT_iff.2 (by omega)
  · refine incr_of ?_
    rw [hT, List.pairwise_map]
    exact e2.imp_of_mem fun {x y} hx hy hxy => cr_lt h hf hx hy hxy
def times_res (T : Int) (M : Int) (s : Int) (l : List (List Int)) (e : Int) : CRes := ⟨[wfI .i64 T, wfI .i64 M, wfI .i64 s, wfR [.int .i64, .int .i64] l, wfI .i64 e, lenB l], .one (.cel (.bool (true))), []⟩
def times_go : List TV → List RowA → List (List CV) → Option CRes := fun args rows caps =>
  match args, rows, caps with
  | [.agg [.int .i64 T, .int .i64 M], .agg [.int .i64 s, .row 0], .cel (.int .i64 e)], [.recs [.int .i64, .int .i64] l], [] => some (times_res T M s l e)
  | _, _, _ => none
def times_e : Ent := ⟨5, [.recs [.int .i64, .int .i64] []], times_go⟩
def times_L1_F (T : Int) (M : Int) (s : Int) (l : List (List Int)) (e : Int) (i : Int) : St := ⟨117, [], [(71, (.one (.cel (.int .i64 i)))), (70, (.one (.cel (.int .i64 (((List.length (crT T M s l e)) : Nat) : Int))))), (69, (.one (.cel (.row 1)))), (11, (.one (.cel (.row 2)))), (6, (.one (.cel (.bool Bool.false)))), (4, (.one (.cel (.ptr 1 0)))), (2, (.one (.cel (.int .i64 e))))], [[(.int .i64 T), (.int .i64 M)], [(.int .i64 s), (.row 0)]], [⟨(.recs [.int .i64, .int .i64] l), none⟩, ⟨(.ints .i64 (crT T M s l e)), none⟩, ⟨(.ints .i64 (if ((wValid T M) = Bool.true) then (eL T M s (posOf s l e)) else ([] : List Int))), none⟩], 0⟩
def times_L1_I (T : Int) (M : Int) (s : Int) (l : List (List Int)) (e : Int) (i : Int) : Prop := (crE (wValid T M) s l e = 0 ∧ fewB s l e = true) ∧ (0 ≤ i ∧ i ≤ (crT T M s l e).length)
def times_L1_m (T : Int) (M : Int) (s : Int) (l : List (List Int)) (e : Int) (i : Int) : Nat := ((crT T M s l e).length - i).toNat
def times_L1_N (T : Int) (M : Int) (s : Int) (l : List (List Int)) (e : Int) (i' : Int) (st_ : St) : Prop := getI st_ 71 fun i => times_L1_I T M s l e i ∧ times_L1_m T M s l e i < times_L1_m T M s l e i' ∧ SubA st_ (times_L1_F T M s l e i)
def times_L1_E (T : Int) (M : Int) (s : Int) (l : List (List Int)) (e : Int) (st_ : St) : Prop := getI st_ 71 fun i => times_L1_I T M s l e i ∧ SubA st_ (times_L1_F T M s l e i)
def times_L1_S1 (T : Int) (M : Int) (s : Int) (l : List (List Int)) (e : Int) : St := ⟨117, [64, 57, 53], [(71, (.one (.cel (.int .i64 (0 : Int))))), (70, (.one (.cel (.int .i64 (((List.length (crT T M s l e)) : Nat) : Int))))), (69, (.one (.cel (.row 1)))), (68, (.one (.cel (.bool ((((!(decide ((mErr s l e) = (0 : Int)))) || (!(decide ((if ((wValid T M) = Bool.true) then (0 : Int) else (1 : Int)) = (0 : Int))))) || (!(decide ((((List.length (if ((wValid T M) = Bool.true) then (eL T M s (posOf s l e)) else ([] : List Int))) : Nat) : Int) = (((List.length (crT T M s l e)) : Nat) : Int))))) || (!(vE (crT T M s l e)))))))), (67, (.spec 64 Bool.false (.cel (.bool (!(vE (crT T M s l e))))))), (66, (.spec 64 Bool.false (.cel (.bool (vE (crT T M s l e)))))), (65, (.spec 64 Bool.false (.cel (.row 1)))), (64, (.one (.cel (.bool (((!(decide ((mErr s l e) = (0 : Int)))) || (!(decide ((if ((wValid T M) = Bool.true) then (0 : Int) else (1 : Int)) = (0 : Int))))) || (!(decide ((((List.length (if ((wValid T M) = Bool.true) then (eL T M s (posOf s l e)) else ([] : List Int))) : Nat) : Int) = (((List.length (crT T M s l e)) : Nat) : Int))))))))), (63, (.one (.cel (.bool (((!(decide ((mErr s l e) = (0 : Int)))) || (!(decide ((if ((wValid T M) = Bool.true) then (0 : Int) else (1 : Int)) = (0 : Int))))) || (!(decide ((((List.length (if ((wValid T M) = Bool.true) then (eL T M s (posOf s l e)) else ([] : List Int))) : Nat) : Int) = (((List.length (crT T M s l e)) : Nat) : Int))))))))), (62, (.spec 57 Bool.false (.cel (.bool (!(decide ((((List.length (if ((wValid T M) = Bool.true) then (eL T M s (posOf s l e)) else ([] : List Int))) : Nat) : Int) = (((List.length (crT T M s l e)) : Nat) : Int)))))))), (61, (.spec 57 Bool.false (.cel (.int .i64 (((List.length (crT T M s l e)) : Nat) : Int))))), (60, (.spec 57 Bool.false (.cel (.row 1)))), (59, (.spec 57 Bool.false (.cel (.int .i64 (((List.length (if ((wValid T M) = Bool.true) then (eL T M s (posOf s l e)) else ([] : List Int))) : Nat) : Int))))), (58, (.spec 57 Bool.false (.cel (.row 2)))), (57, (.one (.cel (.bool ((!(decide ((mErr s l e) = (0 : Int)))) || (!(decide ((if ((wValid T M) = Bool.true) then (0 : Int) else (1 : Int)) = (0 : Int))))))))), (56, (.one (.cel (.bool ((!(decide ((mErr s l e) = (0 : Int)))) || (!(decide ((if ((wValid T M) = Bool.true) then (0 : Int) else (1 : Int)) = (0 : Int))))))))), (55, (.spec 53 Bool.false (.cel (.bool (!(decide ((if ((wValid T M) = Bool.true) then (0 : Int) else (1 : Int)) = (0 : Int)))))))), (54, (.spec 53 Bool.false (.cel (.int .i64 (if ((wValid T M) = Bool.true) then (0 : Int) else (1 : Int)))))), (53, (.one (.cel (.bool (!(decide ((mErr s l e) = (0 : Int)))))))), (52, (.one (.cel (.bool (!(decide ((mErr s l e) = (0 : Int)))))))), (51, (.one (.cel (.int .i64 (mErr s l e))))), (12, (.one (.cel (.int .i64 (if ((wValid T M) = Bool.true) then (0 : Int) else (1 : Int)))))), (11, (.one (.cel (.row 2)))), (50, (.one (.cel (.int .i64 (if ((wValid T M) = Bool.true) then (0 : Int) else (1 : Int)))))), (49, (.one (.cel (.row 2)))), (43, (.tup [(.cel (.row 2)), (.cel (.int .i64 (if ((wValid T M) = Bool.true) then (0 : Int) else (1 : Int))))])), (48, (.tup [(.cel (.row 2)), (.cel (.int .i64 (if ((wValid T M) = Bool.true) then (0 : Int) else (1 : Int))))])), (47, (.one (.cel (.int .i64 (posOf s l e))))), (46, (.one (.cel (.int .i64 s)))), (45, (.one (.cel (.ptr 1 0)))), (44, (.one (.agg [(.int .i64 T), (.int .i64 M)]))), (10, (.one (.cel (.int .i64 (mErr s l e))))), (9, (.one (.cel (.int .i64 (posOf s l e))))), (42, (.one (.cel (.int .i64 (mErr s l e))))), (41, (.one (.cel (.int .i64 (posOf s l e))))), (37, (.tup [(.cel (.int .i64 (posOf s l e))), (.cel (.int .i64 (mErr s l e)))])), (40, (.tup [(.cel (.int .i64 (posOf s l e))), (.cel (.int .i64 (mErr s l e)))])), (39, (.one (.cel (.int .i64 e)))), (38, (.one (.agg [(.int .i64 s), (.row 0)]))), (33, (.one (.cel (.bool (!(decide ((crE (wValid T M) s l e) = (0 : Int)))))))), (32, (.one (.cel (.int .i64 (crE (wValid T M) s l e))))), (8, (.one (.cel (.int .i64 (crE (wValid T M) s l e))))), (7, (.one (.cel (.row 1)))), (31, (.one (.cel (.int .i64 (crE (wValid T M) s l e))))), (30, (.one (.cel (.row 1)))), (25, (.tup [(.cel (.row 1)), (.cel (.int .i64 (crE (wValid T M) s l e)))])), (29, (.tup [(.cel (.row 1)), (.cel (.int .i64 (crE (wValid T M) s l e)))])), (28, (.one (.cel (.int .i64 e)))), (27, (.one (.agg [(.int .i64 s), (.row 0)]))), (26, (.one (.agg [(.int .i64 T), (.int .i64 M)]))), (24, (.one (.cel (.bool (!((decide ((((List.length l) : Nat) : Int) ≤ (60 : Int))) && (fewB s l e))))))), (23, (.one (.cel (.bool ((decide ((((List.length l) : Nat) : Int) ≤ (60 : Int))) && (fewB s l e)))))), (22, (.one (.cel (.int .i64 e)))), (21, (.one (.agg [(.int .i64 s), (.row 0)]))), (20, (.one (.cel (.bool (!Bool.true))))), (19, (.one (.cel (.bool Bool.true)))), (6, (.one (.cel (.bool Bool.false)))), (4, (.one (.cel (.ptr 1 0)))), (3, (.one (.cel (.ptr 0 0)))), (0, (.one (.agg [(.int .i64 T), (.int .i64 M)]))), (1, (.one (.agg [(.int .i64 s), (.row 0)]))), (2, (.one (.cel (.int .i64 e))))], [[(.int .i64 T), (.int .i64 M)], [(.int .i64 s), (.row 0)]], [⟨(.recs [.int .i64, .int .i64] l), none⟩, ⟨(.ints .i64 (crT T M s l e)), none⟩, ⟨(.ints .i64 (if ((wValid T M) = Bool.true) then (eL T M s (posOf s l e)) else ([] : List Int))), none⟩], 0⟩
def times_L1_T (T : Int) (M : Int) (s : Int) (l : List (List Int)) (e : Int) (i : Int) : Prop := (cnd (decide (i < (((List.length (crT T M s l e)) : Nat) : Int)))
  (cnd (decide ((0 : Int) ≤ i))
    (cnd (decide (i < (((List.length (crT T M s l e)) : Nat) : Int)))
      (cnd ((!((!(decide ((mErr s l (List.getD (crT T M s l e) (Int.toNat i) (0 : Int))) = (0 : Int)))) == Bool.false)) || (decide ((0 : Int) ≤ i)))
        (cnd ((!((!(decide ((mErr s l (List.getD (crT T M s l e) (Int.toNat i) (0 : Int))) = (0 : Int)))) == Bool.false)) || (decide (i < (((List.length (if ((wValid T M) = Bool.true) then (eL T M s (posOf s l e)) else ([] : List Int))) : Nat) : Int))))
          (cnd (((!(decide ((mErr s l (List.getD (crT T M s l e) (Int.toNat i) (0 : Int))) = (0 : Int)))) || (decide ((posOf s l (List.getD (crT T M s l e) (Int.toNat i) (0 : Int))) < (List.getD (if ((wValid T M) = Bool.true) then (eL T M s (posOf s l e)) else ([] : List Int)) (Int.toNat i) (0 : Int))))) || (decide (e < (List.getD (crT T M s l e) (Int.toNat i) (0 : Int)))))
            (Bool.false = Bool.true)
            (cnd (decide ((List.getD (crT T M s l e) (Int.toNat i) (0 : Int)) = (0 : Int)))
              (Bool.false = Bool.true)
              (cnd ((!((!(decide ((mErr s l (Go.IntKind.wrap Go.IntKind.i64 ((List.getD (crT T M s l e) (Int.toNat i) (0 : Int)) - (1 : Int)))) = (0 : Int)))) == Bool.false)) || (decide ((0 : Int) ≤ i)))
                (cnd ((!((!(decide ((mErr s l (Go.IntKind.wrap Go.IntKind.i64 ((List.getD (crT T M s l e) (Int.toNat i) (0 : Int)) - (1 : Int)))) = (0 : Int)))) == Bool.false)) || (decide (i < (((List.length (if ((wValid T M) = Bool.true) then (eL T M s (posOf s l e)) else ([] : List Int))) : Nat) : Int))))
                  (cnd ((!(decide ((mErr s l (Go.IntKind.wrap Go.IntKind.i64 ((List.getD (crT T M s l e) (Int.toNat i) (0 : Int)) - (1 : Int)))) = (0 : Int)))) || (decide ((List.getD (if ((wValid T M) = Bool.true) then (eL T M s (posOf s l e)) else ([] : List Int)) (Int.toNat i) (0 : Int)) ≤ (posOf s l (Go.IntKind.wrap Go.IntKind.i64 ((List.getD (crT T M s l e) (Int.toNat i) (0 : Int)) - (1 : Int)))))))
                    (Bool.false = Bool.true)
                    ((times_L1_I T M s l e (Go.IntKind.wrap Go.IntKind.i64 (i + (1 : Int)))) ∧ (((times_L1_m T M s l e (Go.IntKind.wrap Go.IntKind.i64 (i + (1 : Int)))) < (times_L1_m T M s l e i)) ∧ (((Go.IntKind.wrap Go.IntKind.i64 (i + (1 : Int))) = (Go.IntKind.wrap Go.IntKind.i64 (i + (1 : Int)))) ∧ (((((List.length (crT T M s l e)) : Nat) : Int) = (((List.length (crT T M s l e)) : Nat) : Int)) ∧ (True ∧ (True ∧ ((Bool.false = Bool.false) ∧ (True ∧ ((e = e) ∧ (((T = T) ∧ (M = M)) ∧ (((s = s) ∧ True) ∧ ((l = l) ∧ (((crT T M s l e) = (crT T M s l e)) ∧ (((if ((wValid T M) = Bool.true) then (eL T M s (posOf s l e)) else ([] : List Int)) = (if ((wValid T M) = Bool.true) then (eL T M s (posOf s l e)) else ([] : List Int))) ∧ True)))))))))))))))
                  False)
                False)))
          False)
        False)
      False)
    False)
  (Bool.true = Bool.true))
set_option maxRecDepth 100000 in
theorem times_L1_tree (T : Int) (M : Int) (s : Int) (l : List (List Int)) (e : Int) (i : Int) : times_L1_T T M s l e i = ex Try.prog (conOf [awake_e, few_e, Crank_e, position_e, between_e, sValid_e]) (subC (bodyOf Try.f5) [1, 1, 1, 1, 1, 1, 1, 1, 0, 1, 0, 0]) (nextE (times_L1_N T M s l e i) (kont Try.prog (conOf [awake_e, few_e, Crank_e, position_e, between_e, sValid_e]) (bodyOf Try.f5) [1, 1, 1, 1, 1, 1, 1, 1, 0, 1, 0] (retPost Try.prog Try.f5 1 (times_res T M s l e)))) (times_L1_F T M s l e i) := by kernel_rfl
set_option maxRecDepth 100000 in
theorem times_L1_round (T : Int) (M : Int) (s : Int) (l : List (List Int)) (e : Int) (i : Int) (p0 : (wfI .i64 T) = true) (p1 : (wfI .i64 M) = true) (p2 : (wfI .i64 s) = true) (p3 : (wfR [.int .i64, .int .i64] l) = true) (p4 : (wfI .i64 e) = true) (p5 : (lenB l) = true) (hI_L1 : times_L1_I T M s l e i) : times_L1_T T M s l e i := by
  obtain ⟨⟨a0, a9⟩, a1, a2⟩ := hI_L1
  obtain ⟨f1, f2, f3, f4, f5, f6, f7, f8, f9⟩ := cr_facts a0 a9
  obtain ⟨v1, v2, v3⟩ := cr_valid a0 a9
  unfold times_L1_T
  simp only [f1, if_true]
  by_cases hi : i < (crT T M s l e).length
  · have hF : times_L1_I T M s l e (i + 1) := ⟨⟨a0, a9⟩, by omega, by omega⟩
    have hμ : times_L1_m T M s l e (i + 1) < times_L1_m T M s l e i := by unfold times_L1_m; omega
    have hx : (eL T M s (posOf s l e)).getD i.toNat 0 ∈ eL T M s (posOf s l e) := by
      rw [List.getD_eq_getElem?_getD, List.getElem?_eq_getElem (by omega)]
      exact List.getElem_mem (by omega)
    have hg : (crT T M s l e).getD i.toNat 0 = (tmOf s l ((eL T M s (posOf s l e)).getD i.toNat 0)).1 := by
      have hP : crP T M s l e = eL T M s (posOf s l e) := by unfold crP; rw [if_pos a0]
      unfold crT
      rw [hP, List.getD_eq_getElem?_getD, List.getElem?_map, List.getD_eq_getElem?_getD, List.getElem?_eq_getElem (by omega)]
      rfl
    obtain ⟨c1, c2, c3, c4, c5, c6, c7⟩ := cr_time a0 a9 hx
    rw [hg]
    generalize (eL T M s (posOf s l e)).getD i.toNat 0 = x at *
    generalize (tmOf s l x).1 = t at *
    rw [decide_eq_true hi, decide_eq_true a1, w64 (n := i + 1) (by omega) (by omega), w64 (n := t - 1) (by omega) (by omega), c3, c4, decide_eq_true (show i < ((eL T M s (posOf s l e)).length : Int) by omega), decide_eq_false (show ¬ posOf s l t < x by omega), decide_eq_false (show ¬ e < t by omega), decide_eq_false (show ¬ t = 0 by omega), decide_eq_false (show ¬ x ≤ posOf s l (t - 1) by omega)]
    simp [cnd, hF, hμ]
  · rw [decide_eq_false hi]
    simp only [cnd]
set_option maxRecDepth 100000 in
theorem times_L1_entry1 (T : Int) (M : Int) (s : Int) (l : List (List Int)) (e : Int) : (((times_L1_I T M s l e (0 : Int)) ∧ (((0 : Int) = (0 : Int)) ∧ (((((List.length (crT T M s l e)) : Nat) : Int) = (((List.length (crT T M s l e)) : Nat) : Int)) ∧ (True ∧ (True ∧ ((Bool.false = Bool.false) ∧ (True ∧ ((e = e) ∧ (((T = T) ∧ (M = M)) ∧ (((s = s) ∧ True) ∧ ((l = l) ∧ (((crT T M s l e) = (crT T M s l e)) ∧ (((if ((wValid T M) = Bool.true) then (eL T M s (posOf s l e)) else ([] : List Int)) = (if ((wValid T M) = Bool.true) then (eL T M s (posOf s l e)) else ([] : List Int))) ∧ True)))))))))))))) = times_L1_E T M s l e (times_L1_S1 T M s l e) := by kernel_rfl
theorem times_L1_1 (T : Int) (M : Int) (s : Int) (l : List (List Int)) (e : Int) (p0 : (wfI .i64 T) = true) (p1 : (wfI .i64 M) = true) (p2 : (wfI .i64 s) = true) (p3 : (wfR [.int .i64, .int .i64] l) = true) (p4 : (wfI .i64 e) = true) (p5 : (lenB l) = true) (h : ((times_L1_I T M s l e (0 : Int)) ∧ (((0 : Int) = (0 : Int)) ∧ (((((List.length (crT T M s l e)) : Nat) : Int) = (((List.length (crT T M s l e)) : Nat) : Int)) ∧ (True ∧ (True ∧ ((Bool.false = Bool.false) ∧ (True ∧ ((e = e) ∧ (((T = T) ∧ (M = M)) ∧ (((s = s) ∧ True) ∧ ((l = l) ∧ (((crT T M s l e) = (crT T M s l e)) ∧ (((if ((wValid T M) = Bool.true) then (eL T M s (posOf s l e)) else ([] : List Int)) = (if ((wValid T M) = Bool.true) then (eL T M s (posOf s l e)) else ([] : List Int))) ∧ True)))))))))))))) : LoopP (ex Try.prog (conOf [awake_e, few_e, Crank_e, position_e, between_e, sValid_e]) (subC (bodyOf Try.f5) [1, 1, 1, 1, 1, 1, 1, 1, 0, 1, 0, 0])) (kont Try.prog (conOf [awake_e, few_e, Crank_e, position_e, between_e, sValid_e]) (bodyOf Try.f5) [1, 1, 1, 1, 1, 1, 1, 1, 0, 1, 0] (retPost Try.prog Try.f5 1 (times_res T M s l e))) (times_L1_S1 T M s l e) := by
  have hE : times_L1_E T M s l e (times_L1_S1 T M s l e) := Eq.mp (times_L1_entry1 T M s l e) h
  unfold times_L1_E at hE
  obtain ⟨i, hE⟩ := getI_of hE
  refine loop_of (α := (Int)) (fun xx_ => times_L1_F T M s l e xx_) (fun xx_ => times_L1_I T M s l e xx_) (fun xx_ => times_L1_m T M s l e xx_) (fun xx_ => times_L1_N T M s l e xx_) (fun xx_ => times_L1_T T M s l e xx_) (fun xx_ s_ h => ?_) ⟨i, hE⟩ (fun xx_ => times_L1_tree T M s l e xx_) (fun xx_ hI => times_L1_round T M s l e xx_ p0 p1 p2 p3 p4 p5 hI)
  unfold times_L1_N at h
  obtain ⟨i, h⟩ := getI_of h
  exact ⟨i, h⟩
set_option maxRecDepth 100000 in
theorem times_tree (T : Int) (M : Int) (s : Int) (l : List (List Int)) (e : Int) : ((cnd (decide ((((List.length l) : Nat) : Int) ≤ (9223372036854775807 : Int)))
  (cnd (!((decide ((((List.length l) : Nat) : Int) ≤ (60 : Int))) && (fewB s l e)))
    (Bool.true = Bool.true)
    (cnd (fewB s l e)
      (cnd (!(decide ((crE (wValid T M) s l e) = (0 : Int))))
        ((decide ((((List.length (crT T M s l e)) : Nat) : Int) = (0 : Int))) = Bool.true)
        (cnd ((isT s) && (isT (posOf s l e)))
          (cnd (decide (s ≤ (posOf s l e)))
            (cnd (decide ((posOf s l e) ≤ (s + (115200 : Int))))
              (cnd ((((!(decide ((mErr s l e) = (0 : Int)))) || (!(decide ((if ((wValid T M) = Bool.true) then (0 : Int) else (1 : Int)) = (0 : Int))))) || (!(decide ((((List.length (if ((wValid T M) = Bool.true) then (eL T M s (posOf s l e)) else ([] : List Int))) : Nat) : Int) = (((List.length (crT T M s l e)) : Nat) : Int))))) || (!(vE (crT T M s l e))))
                (Bool.false = Bool.true)
                (LoopP (ex Try.prog (conOf [awake_e, few_e, Crank_e, position_e, between_e, sValid_e]) (subC (bodyOf Try.f5) [1, 1, 1, 1, 1, 1, 1, 1, 0, 1, 0, 0])) (kont Try.prog (conOf [awake_e, few_e, Crank_e, position_e, between_e, sValid_e]) (bodyOf Try.f5) [1, 1, 1, 1, 1, 1, 1, 1, 0, 1, 0] (retPost Try.prog Try.f5 1 (times_res T M s l e))) (times_L1_S1 T M s l e)))
              False)
            False)
          False))
      False))
  False)) = EXD Try.prog (conOf [awake_e, few_e, Crank_e, position_e, between_e, sValid_e]) Try.f5 [.agg [.int .i64 T, .int .i64 M], .agg [.int .i64 s, .row 0], .cel (.int .i64 e)] [.recs [.int .i64, .int .i64] l] [] (times_res T M s l e) := by kernel_rfl
theorem times_holds (T : Int) (M : Int) (s : Int) (l : List (List Int)) (e : Int) (p0 : (wfI .i64 T) = true) (p1 : (wfI .i64 M) = true) (p2 : (wfI .i64 s) = true) (p3 : (wfR [.int .i64, .int .i64] l) = true) (p4 : (wfI .i64 e) = true) (p5 : (lenB l) = true) : (cnd (decide ((((List.length l) : Nat) : Int) ≤ (9223372036854775807 : Int)))
  (cnd (!((decide ((((List.length l) : Nat) : Int) ≤ (60 : Int))) && (fewB s l e)))
    (Bool.true = Bool.true)
    (cnd (fewB s l e)
      (cnd (!(decide ((crE (wValid T M) s l e) = (0 : Int))))
        ((decide ((((List.length (crT T M s l e)) : Nat) : Int) = (0 : Int))) = Bool.true)
        (cnd ((isT s) && (isT (posOf s l e)))
          (cnd (decide (s ≤ (posOf s l e)))
            (cnd (decide ((posOf s l e) ≤ (s + (115200 : Int))))
              (cnd ((((!(decide ((mErr s l e) = (0 : Int)))) || (!(decide ((if ((wValid T M) = Bool.true) then (0 : Int) else (1 : Int)) = (0 : Int))))) || (!(decide ((((List.length (if ((wValid T M) = Bool.true) then (eL T M s (posOf s l e)) else ([] : List Int))) : Nat) : Int) = (((List.length (crT T M s l e)) : Nat) : Int))))) || (!(vE (crT T M s l e))))
                (Bool.false = Bool.true)
                (LoopP (ex Try.prog (conOf [awake_e, few_e, Crank_e, position_e, between_e, sValid_e]) (subC (bodyOf Try.f5) [1, 1, 1, 1, 1, 1, 1, 1, 0, 1, 0, 0])) (kont Try.prog (conOf [awake_e, few_e, Crank_e, position_e, between_e, sValid_e]) (bodyOf Try.f5) [1, 1, 1, 1, 1, 1, 1, 1, 0, 1, 0] (retPost Try.prog Try.f5 1 (times_res T M s l e))) (times_L1_S1 T M s l e)))
              False)
            False)
          False))
      False))
  False) := by
  have hl := lenB_iff.1 p5
  rw [decide_eq_true (show (l.length : Int) ≤ 9223372036854775807 by omega)]
  refine cnd_i (fun _ => ?_) (fun h => by cases h)
  refine cnd_i (fun _ => rfl) (fun h => ?_)
  have hf : fewB s l e = true := by
    cases hf : fewB s l e with
    | true => rfl
    | false => rw [hf] at h; simp at h
  refine cnd_i (fun _ => ?_) (fun h => by rw [hf] at h; cases h)
  by_cases hz : crE (wValid T M) s l e = 0
  · obtain ⟨f1, f2, f3, f4, f5, f6, f7, f8, f9⟩ := cr_facts hz hf
    obtain ⟨v1, v2, v3⟩ := cr_valid hz hf
    refine cnd_i (fun h => by rw [hz] at h; simp at h) (fun _ => ?_)
    refine cnd_i (fun _ => ?_) (fun h => by rw [isT_iff.2 (show 0 ≤ s ∧ s ≤ 1099511627776 by omega), isT_iff.2 (show 0 ≤ posOf s l e ∧ posOf s l e ≤ 1099511627776 by omega)] at h; cases h)
    refine cnd_i (fun _ => ?_) (fun h => by rw [decide_eq_true f7] at h; cases h)
    refine cnd_i (fun _ => ?_) (fun h => by rw [decide_eq_true (show posOf s l e ≤ s + 115200 by omega)] at h; cases h)
    refine cnd_i (fun h => by rw [f5, f1, v1] at h; simp [v2] at h) (fun _ => ?_)
    exact times_L1_1 T M s l e p0 p1 p2 p3 p4 p5 ⟨⟨⟨hz, hf⟩, by omega, by omega⟩, by simp⟩
  · rw [decide_eq_false hz]
    have hT : crT T M s l e = [] := by unfold crT crP; rw [if_neg hz]; rfl
    rw [hT]
    rfl
set_option maxHeartbeats 2000000 in
theorem times_ok : SoundEnt Try.prog times_e := by
  refine ent_of_ex (Γ := (conOf [awake_e, few_e, Crank_e, position_e, between_e, sValid_e])) (conOf_sound (scons awake_ok (scons few_ok (scons Crank_ok (scons position_ok (scons between_ok (scons sValid_ok snil))))))) (by kernel_rfl) Try.func5 (by kernel_rfl) (by kernel_rfl) (fun args rows caps res h ho => ?_)
  change times_go args rows caps = some res at h
  unfold times_go at h
  split at h
  · simp only [Option.some.injEq] at h
    subst h
    rename_i q0_ q1_ q2_ q4_ q3_
    obtain ⟨p0, p1, p2, p3, p4, p5, _⟩ := ho
    exact EX.of (times_tree q0_ q1_ q2_ q3_ q4_) (times_holds q0_ q1_ q2_ q3_ q4_ p0 p1 p2 p3 p4 p5)
  · cases h
end Go.Proofs.Ythfliohfkhnpiaa

