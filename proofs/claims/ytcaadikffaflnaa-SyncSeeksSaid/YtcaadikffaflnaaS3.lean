/- The wheel's synchronization by the symbolic run: the reference's runs, equal lists, the laws. -/
import Derived.Test.YtcaadikffaflnaaS2
namespace Go.Proofs.Ytcaadikffaflnaa
set_option linter.unusedVariables false
set_option linter.unusedSimpArgs false
open Go.RowKit

theorem edgesB_iff {l : List Int} : edgesB l = true ↔ (l.length : Int) ≤ 1000 ∧ l.all isT = true ∧ incr l = true := by
  simp only [edgesB, Bool.and_eq_true, decide_eq_true_eq, and_assoc]
def six (r : List Int) : List Int := [q r 0, q r 1, q r 2, q r 3, q r 4, q r 5]
theorem take_succR {l : List (List Int)} {i : Int} (h0 : 0 ≤ i) (h1 : i < l.length) : l.take (i + 1).toNat = l.take i.toNat ++ [l.getD i.toNat []] := by
  rw [show (i + 1).toNat = i.toNat + 1 by omega, List.take_add_one, List.getElem?_eq_getElem (by omega), List.getD_eq_getElem?_getD, List.getElem?_eq_getElem (by omega)]; rfl
theorem six_dec (a b : List Int) : ((decide ((List.getD a 0 (0 : Int)) = (List.getD b 0 (0 : Int)))) && ((decide ((List.getD a (0 + 1) (0 : Int)) = (List.getD b (0 + 1) (0 : Int)))) && ((decide ((List.getD a ((0 + 1) + 1) (0 : Int)) = (List.getD b ((0 + 1) + 1) (0 : Int)))) && ((decide ((List.getD a (((0 + 1) + 1) + 1) (0 : Int)) = (List.getD b (((0 + 1) + 1) + 1) (0 : Int)))) && ((decide ((List.getD a ((((0 + 1) + 1) + 1) + 1) (0 : Int)) = (List.getD b ((((0 + 1) + 1) + 1) + 1) (0 : Int)))) && ((decide ((List.getD a (((((0 + 1) + 1) + 1) + 1) + 1) (0 : Int)) = (List.getD b (((((0 + 1) + 1) + 1) + 1) + 1) (0 : Int)))) && Bool.true)))))) = decide (six a = six b) := by
  simp [six, q]
def rrun_res (T : Int) (M : Int) (l : List Int) : CRes := ⟨[wValid T M, edgesB l], .one (.cel (.row 1)), [.recs [.int .i64, .int .i64, .int .i64, .int .i64, .int .i64, .int .i64] (runS T M s0 l)]⟩
def rrun_go : List TV → List RowA → Option CRes := fun args rows =>
  match args, rows with
  | [.agg [.int .i64 T, .int .i64 M], .cel (.row 0)], [.ints .i64 l] => some (rrun_res T M l)
  | _, _ => none
def rrun_e : Ent := ⟨25, [.ints .i64 []], rrun_go⟩
def rrun_L1_F (T : Int) (M : Int) (l : List Int) (k : Int) (c0 : Int) (c1 : Int) (c2 : Int) (c3 : Int) (c4 : Int) (c5 : Int) (ml : List (List Int)) : St := ⟨27, [], [(7, (.one (.cel (.int .i64 k)))), (6, (.one (.cel (.ptr 1 0)))), (5, (.one (.cel (.row 1)))), (4, (.one (.cel .nilS))), (2, (.one (.cel (.ptr 0 0)))), (1, (.one (.cel (.row 0))))], [[(.int .i64 T), (.int .i64 M)], [(.int .i64 c0), (.int .i64 c1), (.int .i64 c2), (.int .i64 c3), (.int .i64 c4), (.int .i64 c5)]], [⟨(.ints .i64 l), none⟩, ⟨(.recs [.int .i64, .int .i64, .int .i64, .int .i64, .int .i64, .int .i64] ml), some 34⟩]⟩
def rrun_L1_I (T : Int) (M : Int) (l : List Int) (k : Int) (c0 : Int) (c1 : Int) (c2 : Int) (c3 : Int) (c4 : Int) (c5 : Int) (ml : List (List Int)) : Prop := (0 ≤ k ∧ k ≤ l.length) ∧ (sVd T M c0 c1 c2 c3 c4 c5 = true ∧ (c0 = 0 ∨ (1 ≤ k ∧ c2 = l.getD (k - 1).toNat 0))) ∧ ((ml.length : Int) = k) ∧ (ml ++ runS T M [c0, c1, c2, c3, c4, c5] (l.drop k.toNat) = runS T M s0 l)
def rrun_L1_m (T : Int) (M : Int) (l : List Int) (k : Int) (c0 : Int) (c1 : Int) (c2 : Int) (c3 : Int) (c4 : Int) (c5 : Int) (ml : List (List Int)) : Nat := (l.length - k).toNat
def rrun_L1_N (T : Int) (M : Int) (l : List Int) (k' : Int) (c0' : Int) (c1' : Int) (c2' : Int) (c3' : Int) (c4' : Int) (c5' : Int) (ml' : List (List Int)) (st_ : St) : Prop := getI st_ 7 fun k => getCI st_ 1 0 fun c0 => getCI st_ 1 1 fun c1 => getCI st_ 1 2 fun c2 => getCI st_ 1 3 fun c3 => getCI st_ 1 4 fun c4 => getCI st_ 1 5 fun c5 => getRR st_ 5 fun ml => rrun_L1_I T M l k c0 c1 c2 c3 c4 c5 ml ∧ rrun_L1_m T M l k c0 c1 c2 c3 c4 c5 ml < rrun_L1_m T M l k' c0' c1' c2' c3' c4' c5' ml' ∧ SubA st_ (rrun_L1_F T M l k c0 c1 c2 c3 c4 c5 ml)
def rrun_L1_E (T : Int) (M : Int) (l : List Int) (st_ : St) : Prop := getI st_ 7 fun k => getCI st_ 1 0 fun c0 => getCI st_ 1 1 fun c1 => getCI st_ 1 2 fun c2 => getCI st_ 1 3 fun c3 => getCI st_ 1 4 fun c4 => getCI st_ 1 5 fun c5 => getRR st_ 5 fun ml => rrun_L1_I T M l k c0 c1 c2 c3 c4 c5 ml ∧ SubA st_ (rrun_L1_F T M l k c0 c1 c2 c3 c4 c5 ml)
def rrun_L1_S1 (T : Int) (M : Int) (l : List Int) : St := ⟨27, [], [(7, (.one (.cel (.int .i64 (0 : Int))))), (6, (.one (.cel (.ptr 1 0)))), (8, (.one (.agg [(.int .i64 (0 : Int)), (.int .i64 (0 : Int)), (.int .i64 (0 : Int)), (.int .i64 (0 : Int)), (.int .i64 (0 : Int)), (.int .i64 (0 : Int))]))), (5, (.one (.cel .nilS))), (4, (.one (.cel .nilS))), (2, (.one (.cel (.ptr 0 0)))), (0, (.one (.agg [(.int .i64 T), (.int .i64 M)]))), (1, (.one (.cel (.row 0))))], [[(.int .i64 T), (.int .i64 M)], [(.int .i64 (0 : Int)), (.int .i64 (0 : Int)), (.int .i64 (0 : Int)), (.int .i64 (0 : Int)), (.int .i64 (0 : Int)), (.int .i64 (0 : Int))]], [⟨(.ints .i64 l), none⟩]⟩
def rrun_L1_T (T : Int) (M : Int) (l : List Int) (k : Int) (c0 : Int) (c1 : Int) (c2 : Int) (c3 : Int) (c4 : Int) (c5 : Int) (ml : List (List Int)) : Prop := (cnd (decide (k < (((List.length l) : Nat) : Int)))
  (cnd (decide ((0 : Int) ≤ k))
    (cnd (decide (k < (((List.length l) : Nat) : Int)))
      (cnd (sVd T M c0 c1 c2 c3 c4 c5)
        (cnd (isT (List.getD l (Int.toNat k) (0 : Int)))
          (cnd ((decide (c0 = (0 : Int))) || (decide (c2 < (List.getD l (Int.toNat k) (0 : Int)))))
            (cnd (decide ((List.length (ml ++ [[(q (stp T M c0 c1 c2 c3 c4 c5 (List.getD l (Int.toNat k) (0 : Int))) 0), (q (stp T M c0 c1 c2 c3 c4 c5 (List.getD l (Int.toNat k) (0 : Int))) 1), (q (stp T M c0 c1 c2 c3 c4 c5 (List.getD l (Int.toNat k) (0 : Int))) 2), (q (stp T M c0 c1 c2 c3 c4 c5 (List.getD l (Int.toNat k) (0 : Int))) 3), (q (stp T M c0 c1 c2 c3 c4 c5 (List.getD l (Int.toNat k) (0 : Int))) 4), (q (stp T M c0 c1 c2 c3 c4 c5 (List.getD l (Int.toNat k) (0 : Int))) 5)]])) ≤ 4294967296))
              ((rrun_L1_I T M l (Go.IntKind.wrap Go.IntKind.i64 (k + (1 : Int))) (q (stp T M c0 c1 c2 c3 c4 c5 (List.getD l (Int.toNat k) (0 : Int))) 0) (q (stp T M c0 c1 c2 c3 c4 c5 (List.getD l (Int.toNat k) (0 : Int))) 1) (q (stp T M c0 c1 c2 c3 c4 c5 (List.getD l (Int.toNat k) (0 : Int))) 2) (q (stp T M c0 c1 c2 c3 c4 c5 (List.getD l (Int.toNat k) (0 : Int))) 3) (q (stp T M c0 c1 c2 c3 c4 c5 (List.getD l (Int.toNat k) (0 : Int))) 4) (q (stp T M c0 c1 c2 c3 c4 c5 (List.getD l (Int.toNat k) (0 : Int))) 5) (ml ++ [[(q (stp T M c0 c1 c2 c3 c4 c5 (List.getD l (Int.toNat k) (0 : Int))) 0), (q (stp T M c0 c1 c2 c3 c4 c5 (List.getD l (Int.toNat k) (0 : Int))) 1), (q (stp T M c0 c1 c2 c3 c4 c5 (List.getD l (Int.toNat k) (0 : Int))) 2), (q (stp T M c0 c1 c2 c3 c4 c5 (List.getD l (Int.toNat k) (0 : Int))) 3), (q (stp T M c0 c1 c2 c3 c4 c5 (List.getD l (Int.toNat k) (0 : Int))) 4), (q (stp T M c0 c1 c2 c3 c4 c5 (List.getD l (Int.toNat k) (0 : Int))) 5)]])) ∧ (((rrun_L1_m T M l (Go.IntKind.wrap Go.IntKind.i64 (k + (1 : Int))) (q (stp T M c0 c1 c2 c3 c4 c5 (List.getD l (Int.toNat k) (0 : Int))) 0) (q (stp T M c0 c1 c2 c3 c4 c5 (List.getD l (Int.toNat k) (0 : Int))) 1) (q (stp T M c0 c1 c2 c3 c4 c5 (List.getD l (Int.toNat k) (0 : Int))) 2) (q (stp T M c0 c1 c2 c3 c4 c5 (List.getD l (Int.toNat k) (0 : Int))) 3) (q (stp T M c0 c1 c2 c3 c4 c5 (List.getD l (Int.toNat k) (0 : Int))) 4) (q (stp T M c0 c1 c2 c3 c4 c5 (List.getD l (Int.toNat k) (0 : Int))) 5) (ml ++ [[(q (stp T M c0 c1 c2 c3 c4 c5 (List.getD l (Int.toNat k) (0 : Int))) 0), (q (stp T M c0 c1 c2 c3 c4 c5 (List.getD l (Int.toNat k) (0 : Int))) 1), (q (stp T M c0 c1 c2 c3 c4 c5 (List.getD l (Int.toNat k) (0 : Int))) 2), (q (stp T M c0 c1 c2 c3 c4 c5 (List.getD l (Int.toNat k) (0 : Int))) 3), (q (stp T M c0 c1 c2 c3 c4 c5 (List.getD l (Int.toNat k) (0 : Int))) 4), (q (stp T M c0 c1 c2 c3 c4 c5 (List.getD l (Int.toNat k) (0 : Int))) 5)]])) < (rrun_L1_m T M l k c0 c1 c2 c3 c4 c5 ml)) ∧ (((Go.IntKind.wrap Go.IntKind.i64 (k + (1 : Int))) = (Go.IntKind.wrap Go.IntKind.i64 (k + (1 : Int)))) ∧ (True ∧ (True ∧ (True ∧ (True ∧ (True ∧ (((T = T) ∧ (M = M)) ∧ ((((q (stp T M c0 c1 c2 c3 c4 c5 (List.getD l (Int.toNat k) (0 : Int))) 0) = (q (stp T M c0 c1 c2 c3 c4 c5 (List.getD l (Int.toNat k) (0 : Int))) 0)) ∧ (((q (stp T M c0 c1 c2 c3 c4 c5 (List.getD l (Int.toNat k) (0 : Int))) 1) = (q (stp T M c0 c1 c2 c3 c4 c5 (List.getD l (Int.toNat k) (0 : Int))) 1)) ∧ (((q (stp T M c0 c1 c2 c3 c4 c5 (List.getD l (Int.toNat k) (0 : Int))) 2) = (q (stp T M c0 c1 c2 c3 c4 c5 (List.getD l (Int.toNat k) (0 : Int))) 2)) ∧ (((q (stp T M c0 c1 c2 c3 c4 c5 (List.getD l (Int.toNat k) (0 : Int))) 3) = (q (stp T M c0 c1 c2 c3 c4 c5 (List.getD l (Int.toNat k) (0 : Int))) 3)) ∧ (((q (stp T M c0 c1 c2 c3 c4 c5 (List.getD l (Int.toNat k) (0 : Int))) 4) = (q (stp T M c0 c1 c2 c3 c4 c5 (List.getD l (Int.toNat k) (0 : Int))) 4)) ∧ ((q (stp T M c0 c1 c2 c3 c4 c5 (List.getD l (Int.toNat k) (0 : Int))) 5) = (q (stp T M c0 c1 c2 c3 c4 c5 (List.getD l (Int.toNat k) (0 : Int))) 5))))))) ∧ ((l = l) ∧ (((ml ++ [[(q (stp T M c0 c1 c2 c3 c4 c5 (List.getD l (Int.toNat k) (0 : Int))) 0), (q (stp T M c0 c1 c2 c3 c4 c5 (List.getD l (Int.toNat k) (0 : Int))) 1), (q (stp T M c0 c1 c2 c3 c4 c5 (List.getD l (Int.toNat k) (0 : Int))) 2), (q (stp T M c0 c1 c2 c3 c4 c5 (List.getD l (Int.toNat k) (0 : Int))) 3), (q (stp T M c0 c1 c2 c3 c4 c5 (List.getD l (Int.toNat k) (0 : Int))) 4), (q (stp T M c0 c1 c2 c3 c4 c5 (List.getD l (Int.toNat k) (0 : Int))) 5)]]) = (ml ++ [[(q (stp T M c0 c1 c2 c3 c4 c5 (List.getD l (Int.toNat k) (0 : Int))) 0), (q (stp T M c0 c1 c2 c3 c4 c5 (List.getD l (Int.toNat k) (0 : Int))) 1), (q (stp T M c0 c1 c2 c3 c4 c5 (List.getD l (Int.toNat k) (0 : Int))) 2), (q (stp T M c0 c1 c2 c3 c4 c5 (List.getD l (Int.toNat k) (0 : Int))) 3), (q (stp T M c0 c1 c2 c3 c4 c5 (List.getD l (Int.toNat k) (0 : Int))) 4), (q (stp T M c0 c1 c2 c3 c4 c5 (List.getD l (Int.toNat k) (0 : Int))) 5)]])) ∧ True))))))))))))
              False)
            False)
          False)
        False)
      False)
    False)
  (True ∧ ((ml = (runS T M s0 l)) ∧ True)))
set_option maxRecDepth 100000 in
theorem rrun_L1_tree (T : Int) (M : Int) (l : List Int) (k : Int) (c0 : Int) (c1 : Int) (c2 : Int) (c3 : Int) (c4 : Int) (c5 : Int) (ml : List (List Int)) : rrun_L1_T T M l k c0 c1 c2 c3 c4 c5 ml = ex Try.prog (conOf [rstep_e]) (subC (bodyOf Try.f25) [1, 1, 1, 0, 1, 0, 0]) (nextE (rrun_L1_N T M l k c0 c1 c2 c3 c4 c5 ml) (kont Try.prog (conOf [rstep_e]) (bodyOf Try.f25) [1, 1, 1, 0, 1, 0] (retPost Try.prog Try.f25 1 (rrun_res T M l)))) (rrun_L1_F T M l k c0 c1 c2 c3 c4 c5 ml) := by kernel_rfl
set_option maxRecDepth 100000 in
theorem rrun_L1_round (T : Int) (M : Int) (l : List Int) (k : Int) (c0 : Int) (c1 : Int) (c2 : Int) (c3 : Int) (c4 : Int) (c5 : Int) (ml : List (List Int)) (p0 : wValid T M = true) (p1 : edgesB l = true) (hI_L1 : rrun_L1_I T M l k c0 c1 c2 c3 c4 c5 ml) : rrun_L1_T T M l k c0 c1 c2 c3 c4 c5 ml := by
  obtain ⟨⟨k0, k1⟩, ⟨hv, hc⟩, hm, hr⟩ := hI_L1
  obtain ⟨a3, ha, hinc⟩ := edgesB_iff.1 p1
  unfold rrun_L1_T
  by_cases hk : k < l.length
  · have hd := drop_consI (l := l) (i := k) k0 hk
    have ht : isT (l.getD k.toNat 0) = true := by
      rw [List.all_eq_true] at ha
      refine ha _ ?_
      rw [List.getD_eq_getElem?_getD, List.getElem?_eq_getElem (by omega)]
      exact List.getElem_mem (by omega)
    have hcc : c0 = 0 ∨ c2 < l.getD k.toNat 0 := by
      rcases hc with hc | ⟨hk1, hc⟩
      · exact .inl hc
      · have := incr_get (l := l) (j := (k - 1).toNat) hinc (by omega)
        rw [show (k - 1).toNat + 1 = k.toNat by omega] at this
        exact .inr (by omega)
    have jc : (decide (c0 = 0) || decide (c2 < l.getD k.toNat 0)) = true := by
      simp only [Bool.or_eq_true, decide_eq_true_eq]; exact hcc
    obtain ⟨g1, g2⟩ := stp_ok hv ht hcc
    have hL := stp_len T M c0 c1 c2 c3 c4 c5 (l.getD k.toNat 0)
    rw [hL]
    have hlen : ∀ r : List Int, (ml ++ [r]).length = ml.length + 1 := fun r => by rw [List.length_append]; rfl
    have jl : ∀ r : List Int, decide ((ml ++ [r]).length ≤ 4294967296) = true := fun r => by rw [decide_eq_true_eq, hlen]; omega
    have e1 : (k + 1).toNat = k.toNat + 1 := by omega
    rw [hv, ht, jc, jl, decide_eq_true hk, decide_eq_true k0, w64 (n := k + 1) (by omega) (by omega)]
    refine ⟨⟨⟨by omega, by omega⟩, ⟨g1, ?_⟩, by rw [hlen]; omega, ?_⟩, ?_, by simp⟩
    · rcases g2 with g2 | g2
      · exact .inl g2
      · exact .inr ⟨by omega, by rw [g2, show k + 1 - 1 = k by omega]⟩
    · rw [hL, e1, ← hr, hd, runS, List.append_assoc]
      rfl
    · unfold rrun_L1_m
      omega
  · rw [decide_eq_false hk]
    rw [List.drop_eq_nil_of_le (show l.length ≤ k.toNat by omega)] at hr
    simp only [runS, List.append_nil] at hr
    simp [cnd, hr]
set_option maxRecDepth 100000 in
theorem rrun_L1_entry1 (T : Int) (M : Int) (l : List Int) : (((rrun_L1_I T M l (0 : Int) (0 : Int) (0 : Int) (0 : Int) (0 : Int) (0 : Int) (0 : Int) ([] : List (List Int))) ∧ (((0 : Int) = (0 : Int)) ∧ (True ∧ (True ∧ (True ∧ (True ∧ (True ∧ (((T = T) ∧ (M = M)) ∧ ((((0 : Int) = (0 : Int)) ∧ (((0 : Int) = (0 : Int)) ∧ (((0 : Int) = (0 : Int)) ∧ (((0 : Int) = (0 : Int)) ∧ (((0 : Int) = (0 : Int)) ∧ ((0 : Int) = (0 : Int))))))) ∧ ((l = l) ∧ ((([] : List (List Int)) = ([] : List (List Int))) ∧ True)))))))))))) = rrun_L1_E T M l (rrun_L1_S1 T M l) := by kernel_rfl
theorem rrun_L1_1 (T : Int) (M : Int) (l : List Int) (p0 : wValid T M = true) (p1 : edgesB l = true) (h : ((rrun_L1_I T M l (0 : Int) (0 : Int) (0 : Int) (0 : Int) (0 : Int) (0 : Int) (0 : Int) ([] : List (List Int))) ∧ (((0 : Int) = (0 : Int)) ∧ (True ∧ (True ∧ (True ∧ (True ∧ (True ∧ (((T = T) ∧ (M = M)) ∧ ((((0 : Int) = (0 : Int)) ∧ (((0 : Int) = (0 : Int)) ∧ (((0 : Int) = (0 : Int)) ∧ (((0 : Int) = (0 : Int)) ∧ (((0 : Int) = (0 : Int)) ∧ ((0 : Int) = (0 : Int))))))) ∧ ((l = l) ∧ ((([] : List (List Int)) = ([] : List (List Int))) ∧ True)))))))))))) : LoopP (ex Try.prog (conOf [rstep_e]) (subC (bodyOf Try.f25) [1, 1, 1, 0, 1, 0, 0])) (kont Try.prog (conOf [rstep_e]) (bodyOf Try.f25) [1, 1, 1, 0, 1, 0] (retPost Try.prog Try.f25 1 (rrun_res T M l))) (rrun_L1_S1 T M l) := by
  have hE : rrun_L1_E T M l (rrun_L1_S1 T M l) := Eq.mp (rrun_L1_entry1 T M l) h
  unfold rrun_L1_E at hE
  obtain ⟨k, hE⟩ := getI_of hE
  obtain ⟨c0, hE⟩ := getCI_of hE
  obtain ⟨c1, hE⟩ := getCI_of hE
  obtain ⟨c2, hE⟩ := getCI_of hE
  obtain ⟨c3, hE⟩ := getCI_of hE
  obtain ⟨c4, hE⟩ := getCI_of hE
  obtain ⟨c5, hE⟩ := getCI_of hE
  obtain ⟨ml, hE⟩ := getRR_of hE
  refine loop_of (α := (Int) × (Int) × (Int) × (Int) × (Int) × (Int) × (Int) × (List (List Int))) (fun xx_ => rrun_L1_F T M l xx_.1 xx_.2.1 xx_.2.2.1 xx_.2.2.2.1 xx_.2.2.2.2.1 xx_.2.2.2.2.2.1 xx_.2.2.2.2.2.2.1 xx_.2.2.2.2.2.2.2) (fun xx_ => rrun_L1_I T M l xx_.1 xx_.2.1 xx_.2.2.1 xx_.2.2.2.1 xx_.2.2.2.2.1 xx_.2.2.2.2.2.1 xx_.2.2.2.2.2.2.1 xx_.2.2.2.2.2.2.2) (fun xx_ => rrun_L1_m T M l xx_.1 xx_.2.1 xx_.2.2.1 xx_.2.2.2.1 xx_.2.2.2.2.1 xx_.2.2.2.2.2.1 xx_.2.2.2.2.2.2.1 xx_.2.2.2.2.2.2.2) (fun xx_ => rrun_L1_N T M l xx_.1 xx_.2.1 xx_.2.2.1 xx_.2.2.2.1 xx_.2.2.2.2.1 xx_.2.2.2.2.2.1 xx_.2.2.2.2.2.2.1 xx_.2.2.2.2.2.2.2) (fun xx_ => rrun_L1_T T M l xx_.1 xx_.2.1 xx_.2.2.1 xx_.2.2.2.1 xx_.2.2.2.2.1 xx_.2.2.2.2.2.1 xx_.2.2.2.2.2.2.1 xx_.2.2.2.2.2.2.2) (fun xx_ s_ h => ?_) ⟨⟨k, c0, c1, c2, c3, c4, c5, ml⟩, hE⟩ (fun xx_ => rrun_L1_tree T M l xx_.1 xx_.2.1 xx_.2.2.1 xx_.2.2.2.1 xx_.2.2.2.2.1 xx_.2.2.2.2.2.1 xx_.2.2.2.2.2.2.1 xx_.2.2.2.2.2.2.2) (fun xx_ hI => rrun_L1_round T M l xx_.1 xx_.2.1 xx_.2.2.1 xx_.2.2.2.1 xx_.2.2.2.2.1 xx_.2.2.2.2.2.1 xx_.2.2.2.2.2.2.1 xx_.2.2.2.2.2.2.2 p0 p1 hI)
  unfold rrun_L1_N at h
  obtain ⟨k, h⟩ := getI_of h
  obtain ⟨c0, h⟩ := getCI_of h
  obtain ⟨c1, h⟩ := getCI_of h
  obtain ⟨c2, h⟩ := getCI_of h
  obtain ⟨c3, h⟩ := getCI_of h
  obtain ⟨c4, h⟩ := getCI_of h
  obtain ⟨c5, h⟩ := getCI_of h
  obtain ⟨ml, h⟩ := getRR_of h
  exact ⟨⟨k, c0, c1, c2, c3, c4, c5, ml⟩, h⟩
set_option maxRecDepth 100000 in
theorem rrun_tree (T : Int) (M : Int) (l : List Int) : ((LoopP (ex Try.prog (conOf [rstep_e]) (subC (bodyOf Try.f25) [1, 1, 1, 0, 1, 0, 0])) (kont Try.prog (conOf [rstep_e]) (bodyOf Try.f25) [1, 1, 1, 0, 1, 0] (retPost Try.prog Try.f25 1 (rrun_res T M l))) (rrun_L1_S1 T M l))) = EXD Try.prog (conOf [rstep_e]) Try.f25 [.agg [.int .i64 T, .int .i64 M], .cel (.row 0)] [.ints .i64 l] (rrun_res T M l) := by kernel_rfl
theorem rrun_holds (T : Int) (M : Int) (l : List Int) (p0 : wValid T M = true) (p1 : edgesB l = true) : (LoopP (ex Try.prog (conOf [rstep_e]) (subC (bodyOf Try.f25) [1, 1, 1, 0, 1, 0, 0])) (kont Try.prog (conOf [rstep_e]) (bodyOf Try.f25) [1, 1, 1, 0, 1, 0] (retPost Try.prog Try.f25 1 (rrun_res T M l))) (rrun_L1_S1 T M l)) := by
  have hv : sVd T M 0 0 0 0 0 0 = true := by unfold sVd; rw [p0]; rfl
  exact rrun_L1_1 T M l p0 p1 ⟨⟨⟨by omega, by omega⟩, ⟨hv, .inl rfl⟩, by simp, by simp [s0]⟩, by simp⟩
set_option maxHeartbeats 2000000 in
theorem rrun_ok : SoundEnt Try.prog rrun_e := by
  refine ent_of_ex (Γ := (conOf [rstep_e])) (conOf_sound (scons rstep_ok snil)) (by kernel_rfl) Try.func25 (by kernel_rfl) (by kernel_rfl) (fun args rows res h ho => ?_)
  change rrun_go args rows = some res at h
  unfold rrun_go at h
  split at h
  · simp only [Option.some.injEq] at h
    subst h
    rename_i q0_ q1_ q2_
    obtain ⟨p0, p1, _⟩ := ho
    exact EX.of (rrun_tree q0_ q1_ q2_) (rrun_holds q0_ q1_ q2_ p0 p1)
  · cases h
def equal_res (l : List (List Int)) (m : List (List Int)) : CRes := ⟨[decide (l.length ≤ 1000), decide (m.length ≤ 1000)], .one (.cel (.bool (decide (l.map six = m.map six)))), []⟩
def equal_go : List TV → List RowA → Option CRes := fun args rows =>
  match args, rows with
  | [.cel (.row 0), .cel (.row 1)], [.recs [.int .i64, .int .i64, .int .i64, .int .i64, .int .i64, .int .i64] l, .recs [.int .i64, .int .i64, .int .i64, .int .i64, .int .i64, .int .i64] m] => some (equal_res l m)
  | _, _ => none
def equal_e : Ent := ⟨24, [.recs [.int .i64, .int .i64, .int .i64, .int .i64, .int .i64, .int .i64] [], .recs [.int .i64, .int .i64, .int .i64, .int .i64, .int .i64, .int .i64] []], equal_go⟩
def equal_L1_F (l : List (List Int)) (m : List (List Int)) (i : Int) : St := ⟨26, [], [(13, (.one (.cel (.int .i64 i)))), (12, (.one (.cel (.int .i64 (((List.length l) : Nat) : Int))))), (4, (.one (.cel (.bool Bool.false)))), (0, (.one (.cel (.row 0)))), (1, (.one (.cel (.row 1))))], [], [⟨(.recs [.int .i64, .int .i64, .int .i64, .int .i64, .int .i64, .int .i64] l), none⟩, ⟨(.recs [.int .i64, .int .i64, .int .i64, .int .i64, .int .i64, .int .i64] m), none⟩]⟩
def equal_L1_I (l : List (List Int)) (m : List (List Int)) (i : Int) : Prop := (0 ≤ i ∧ i ≤ l.length ∧ l.length = m.length) ∧ ((l.take i.toNat).map six = (m.take i.toNat).map six)
def equal_L1_m (l : List (List Int)) (m : List (List Int)) (i : Int) : Nat := (l.length - i).toNat
def equal_L1_N (l : List (List Int)) (m : List (List Int)) (i' : Int) (st_ : St) : Prop := getI st_ 13 fun i => equal_L1_I l m i ∧ equal_L1_m l m i < equal_L1_m l m i' ∧ SubA st_ (equal_L1_F l m i)
def equal_L1_E (l : List (List Int)) (m : List (List Int)) (st_ : St) : Prop := getI st_ 13 fun i => equal_L1_I l m i ∧ SubA st_ (equal_L1_F l m i)
def equal_L1_S1 (l : List (List Int)) (m : List (List Int)) : St := ⟨26, [], [(13, (.one (.cel (.int .i64 (0 : Int))))), (12, (.one (.cel (.int .i64 (((List.length l) : Nat) : Int))))), (11, (.one (.cel (.row 0)))), (10, (.one (.cel (.bool (!(decide ((((List.length l) : Nat) : Int) = (((List.length m) : Nat) : Int)))))))), (9, (.one (.cel (.int .i64 (((List.length m) : Nat) : Int))))), (8, (.one (.cel (.row 1)))), (7, (.one (.cel (.int .i64 (((List.length l) : Nat) : Int))))), (6, (.one (.cel (.row 0)))), (4, (.one (.cel (.bool Bool.false)))), (0, (.one (.cel (.row 0)))), (1, (.one (.cel (.row 1))))], [], [⟨(.recs [.int .i64, .int .i64, .int .i64, .int .i64, .int .i64, .int .i64] l), none⟩, ⟨(.recs [.int .i64, .int .i64, .int .i64, .int .i64, .int .i64, .int .i64] m), none⟩]⟩
def equal_L1_T (l : List (List Int)) (m : List (List Int)) (i : Int) : Prop := (cnd (decide (i < (((List.length l) : Nat) : Int)))
  (cnd (decide ((0 : Int) ≤ i))
    (cnd (decide (i < (((List.length l) : Nat) : Int)))
      (cnd (decide ((0 : Int) ≤ i))
        (cnd (decide (i < (((List.length m) : Nat) : Int)))
          (cnd (!((decide ((List.getD (List.getD l (Int.toNat i) ([] : List Int)) 0 (0 : Int)) = (List.getD (List.getD m (Int.toNat i) ([] : List Int)) 0 (0 : Int)))) && ((decide ((List.getD (List.getD l (Int.toNat i) ([] : List Int)) (0 + 1) (0 : Int)) = (List.getD (List.getD m (Int.toNat i) ([] : List Int)) (0 + 1) (0 : Int)))) && ((decide ((List.getD (List.getD l (Int.toNat i) ([] : List Int)) ((0 + 1) + 1) (0 : Int)) = (List.getD (List.getD m (Int.toNat i) ([] : List Int)) ((0 + 1) + 1) (0 : Int)))) && ((decide ((List.getD (List.getD l (Int.toNat i) ([] : List Int)) (((0 + 1) + 1) + 1) (0 : Int)) = (List.getD (List.getD m (Int.toNat i) ([] : List Int)) (((0 + 1) + 1) + 1) (0 : Int)))) && ((decide ((List.getD (List.getD l (Int.toNat i) ([] : List Int)) ((((0 + 1) + 1) + 1) + 1) (0 : Int)) = (List.getD (List.getD m (Int.toNat i) ([] : List Int)) ((((0 + 1) + 1) + 1) + 1) (0 : Int)))) && ((decide ((List.getD (List.getD l (Int.toNat i) ([] : List Int)) (((((0 + 1) + 1) + 1) + 1) + 1) (0 : Int)) = (List.getD (List.getD m (Int.toNat i) ([] : List Int)) (((((0 + 1) + 1) + 1) + 1) + 1) (0 : Int)))) && Bool.true)))))))
            (Bool.false = (decide ((List.map six l) = (List.map six m))))
            ((equal_L1_I l m (Go.IntKind.wrap Go.IntKind.i64 (i + (1 : Int)))) ∧ (((equal_L1_m l m (Go.IntKind.wrap Go.IntKind.i64 (i + (1 : Int)))) < (equal_L1_m l m i)) ∧ (((Go.IntKind.wrap Go.IntKind.i64 (i + (1 : Int))) = (Go.IntKind.wrap Go.IntKind.i64 (i + (1 : Int)))) ∧ (((((List.length l) : Nat) : Int) = (((List.length l) : Nat) : Int)) ∧ ((Bool.false = Bool.false) ∧ (True ∧ (True ∧ ((l = l) ∧ ((m = m) ∧ True))))))))))
          False)
        False)
      False)
    False)
  (Bool.true = (decide ((List.map six l) = (List.map six m)))))
set_option maxRecDepth 100000 in
theorem equal_L1_tree (l : List (List Int)) (m : List (List Int)) (i : Int) : equal_L1_T l m i = ex Try.prog (conOf []) (subC (bodyOf Try.f24) [1, 1, 0, 1, 0, 0]) (nextE (equal_L1_N l m i) (kont Try.prog (conOf []) (bodyOf Try.f24) [1, 1, 0, 1, 0] (retPost Try.prog Try.f24 2 (equal_res l m)))) (equal_L1_F l m i) := by kernel_rfl
set_option maxRecDepth 100000 in
theorem equal_L1_round (l : List (List Int)) (m : List (List Int)) (i : Int) (p0 : decide (l.length ≤ 1000) = true) (p1 : decide (m.length ≤ 1000) = true) (hI_L1 : equal_L1_I l m i) : equal_L1_T l m i := by
  obtain ⟨⟨a1, a2, a3⟩, a4⟩ := hI_L1
  simp only [decide_eq_true_eq] at p0 p1
  unfold equal_L1_T
  rw [w64 (n := i + 1) (by omega) (by omega)]
  by_cases hl : i < l.length
  · have hl2 : i < (m.length : Int) := by omega
    rw [decide_eq_true hl, decide_eq_true hl2, decide_eq_true a1, six_dec]
    by_cases hx : six (l.getD i.toNat []) = six (m.getD i.toNat [])
    · rw [decide_eq_true hx]
      refine ⟨⟨⟨by omega, by omega, a3⟩, ?_⟩, ?_, by simp⟩
      · rw [take_succR a1 hl, take_succR a1 hl2, List.map_append, List.map_append, a4, List.map_singleton, List.map_singleton, hx]
      · unfold equal_L1_m
        omega
    · rw [decide_eq_false hx]
      have hne : ¬ l.map six = m.map six := by
        intro h
        apply hx
        have h2 := congrArg (fun z => z[i.toNat]?) h
        simp only [List.getElem?_map] at h2
        rw [List.getElem?_eq_getElem (by omega), List.getElem?_eq_getElem (by omega)] at h2
        rw [List.getD_eq_getElem?_getD, List.getElem?_eq_getElem (by omega), List.getD_eq_getElem?_getD, List.getElem?_eq_getElem (by omega)]
        simpa using h2
      exact (decide_eq_false hne).symm
  · rw [decide_eq_false hl]
    rw [List.take_of_length_le (by omega), List.take_of_length_le (by omega)] at a4
    exact (decide_eq_true a4).symm
set_option maxRecDepth 100000 in
theorem equal_L1_entry1 (l : List (List Int)) (m : List (List Int)) : (((equal_L1_I l m (0 : Int)) ∧ (((0 : Int) = (0 : Int)) ∧ (((((List.length l) : Nat) : Int) = (((List.length l) : Nat) : Int)) ∧ ((Bool.false = Bool.false) ∧ (True ∧ (True ∧ ((l = l) ∧ ((m = m) ∧ True))))))))) = equal_L1_E l m (equal_L1_S1 l m) := by kernel_rfl
theorem equal_L1_1 (l : List (List Int)) (m : List (List Int)) (p0 : decide (l.length ≤ 1000) = true) (p1 : decide (m.length ≤ 1000) = true) (h : ((equal_L1_I l m (0 : Int)) ∧ (((0 : Int) = (0 : Int)) ∧ (((((List.length l) : Nat) : Int) = (((List.length l) : Nat) : Int)) ∧ ((Bool.false = Bool.false) ∧ (True ∧ (True ∧ ((l = l) ∧ ((m = m) ∧ True))))))))) : LoopP (ex Try.prog (conOf []) (subC (bodyOf Try.f24) [1, 1, 0, 1, 0, 0])) (kont Try.prog (conOf []) (bodyOf Try.f24) [1, 1, 0, 1, 0] (retPost Try.prog Try.f24 2 (equal_res l m))) (equal_L1_S1 l m) := by
  have hE : equal_L1_E l m (equal_L1_S1 l m) := Eq.mp (equal_L1_entry1 l m) h
  unfold equal_L1_E at hE
  obtain ⟨i, hE⟩ := getI_of hE
  refine loop_of (α := (Int)) (fun xx_ => equal_L1_F l m xx_) (fun xx_ => equal_L1_I l m xx_) (fun xx_ => equal_L1_m l m xx_) (fun xx_ => equal_L1_N l m xx_) (fun xx_ => equal_L1_T l m xx_) (fun xx_ s_ h => ?_) ⟨i, hE⟩ (fun xx_ => equal_L1_tree l m xx_) (fun xx_ hI => equal_L1_round l m xx_ p0 p1 hI)
  unfold equal_L1_N at h
  obtain ⟨i, h⟩ := getI_of h
  exact ⟨i, h⟩
set_option maxRecDepth 100000 in
theorem equal_tree (l : List (List Int)) (m : List (List Int)) : ((cnd (!(decide ((((List.length l) : Nat) : Int) = (((List.length m) : Nat) : Int))))
  (Bool.false = (decide ((List.map six l) = (List.map six m))))
  (LoopP (ex Try.prog (conOf []) (subC (bodyOf Try.f24) [1, 1, 0, 1, 0, 0])) (kont Try.prog (conOf []) (bodyOf Try.f24) [1, 1, 0, 1, 0] (retPost Try.prog Try.f24 2 (equal_res l m))) (equal_L1_S1 l m)))) = EXD Try.prog (conOf []) Try.f24 [.cel (.row 0), .cel (.row 1)] [.recs [.int .i64, .int .i64, .int .i64, .int .i64, .int .i64, .int .i64] l, .recs [.int .i64, .int .i64, .int .i64, .int .i64, .int .i64, .int .i64] m] (equal_res l m) := by kernel_rfl
theorem equal_holds (l : List (List Int)) (m : List (List Int)) (p0 : decide (l.length ≤ 1000) = true) (p1 : decide (m.length ≤ 1000) = true) : (cnd (!(decide ((((List.length l) : Nat) : Int) = (((List.length m) : Nat) : Int))))
  (Bool.false = (decide ((List.map six l) = (List.map six m))))
  (LoopP (ex Try.prog (conOf []) (subC (bodyOf Try.f24) [1, 1, 0, 1, 0, 0])) (kont Try.prog (conOf []) (bodyOf Try.f24) [1, 1, 0, 1, 0] (retPost Try.prog Try.f24 2 (equal_res l m))) (equal_L1_S1 l m))) := by
  by_cases h : l.length = m.length
  · have j : (!decide ((l.length : Int) = (m.length : Int))) = false := by simp [h]
    rw [j]
    exact equal_L1_1 l m p0 p1 ⟨⟨⟨by omega, by omega, h⟩, by simp⟩, by simp⟩
  · have h2 : ¬ (l.length : Int) = (m.length : Int) := by omega
    have h3 : ¬ l.map six = m.map six := fun e => h (by have := congrArg List.length e; simpa using this)
    rw [decide_eq_false h2]
    exact (decide_eq_false h3).symm
set_option maxHeartbeats 2000000 in
theorem equal_ok : SoundEnt Try.prog equal_e := by
  refine ent_of_ex (Γ := (conOf [])) (conOf_sound snil) (by kernel_rfl) Try.func24 (by kernel_rfl) (by kernel_rfl) (fun args rows res h ho => ?_)
  change equal_go args rows = some res at h
  unfold equal_go at h
  split at h
  · simp only [Option.some.injEq] at h
    subst h
    rename_i q0_ q1_
    obtain ⟨p0, p1, _⟩ := ho
    exact EX.of (equal_tree q0_ q1_) (equal_holds q0_ q1_ p0 p1)
  · cases h
end Go.Proofs.Ytcaadikffaflnaa

