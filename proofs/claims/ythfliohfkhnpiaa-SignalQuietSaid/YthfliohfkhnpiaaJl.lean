/- The law of quiet noise. -/
import Derived.Test.YthfliohfkhnpiaaJo
namespace Go.Proofs.Ythfliohfkhnpiaa
set_option linter.unusedVariables false
set_option linter.unusedSimpArgs false
open Go.RowKit

theorem quiet_facts {T M s : Int} {m : List (List Int)} {j d u : List Int} {e : Int} (z : crE (wValid T M) s m e = 0) (hf : fewB s m e = true) (hT : toB T M s m j d u e = true) :
    crP T M s m e = eL T M s (posOf s m e) ∧ calmF (crT T M s m e) (spsL T M (crP T M s m e)) j ∧ ∀ n, n + 1 < (crT T M s m e).length → (spsL T M (crP T M s m e)).getD n 0 * spc T M = (eL T M s (posOf s m e)).getD (n + 1) 0 - (eL T M s (posOf s m e)).getD n 0 ∧ 1 ≤ (spsL T M (crP T M s m e)).getD n 0 ∧ (spsL T M (crP T M s m e)).getD n 0 ≤ 120 := by
  obtain ⟨t1, t2, t3, t4, t5⟩ := tb_facts hT
  obtain ⟨f1, f2, f3, f4, f5, f6, f7, f8, f9⟩ := cr_facts z hf
  obtain ⟨c1, c2, c3⟩ := cr_valid z hf
  obtain ⟨d1, d2, d3⟩ := cr_pos z hf
  have hP : crP T M s m e = eL T M s (posOf s m e) := by unfold crP; rw [if_pos z]
  have hk : ∀ n, n + 1 < (crT T M s m e).length → (spsL T M (crP T M s m e)).getD n 0 * spc T M = (eL T M s (posOf s m e)).getD (n + 1) 0 - (eL T M s (posOf s m e)).getD n 0 ∧ 1 ≤ (spsL T M (crP T M s m e)).getD n 0 ∧ (spsL T M (crP T M s m e)).getD n 0 ≤ 120 := fun n hn => by
    have h1 := k_step (b := posOf s m e) f1 f4.1 (n := n) (by omega)
    have h2 := k_bd d3 (j := n) (by omega)
    rw [hP] at h2 ⊢
    exact ⟨h1.1, h1.2, h2.2⟩
  exact ⟨hP, calm_of t3 d2 (fun n hn => (hk n hn).2.1), hk⟩
def quiet_res (T : Int) (M : Int) (s : Int) (m : List (List Int)) (j : List Int) (d : List Int) (u : List Int) (e : Int) : CRes := ⟨[wfI .i64 T, wfI .i64 M, wfI .i64 s, wfR [.int .i64, .int .i64] m, wfL .i64 j, wfL .i64 d, wfL .i64 u, wfI .i64 e, lenB m, lenB j, lenB d, lenB u], .one (.cel (.bool (true))), []⟩
def quiet_go : List TV → List RowA → List (List CV) → Option CRes := fun args rows caps =>
  match args, rows, caps with
  | [.agg [.int .i64 T, .int .i64 M], .agg [.int .i64 s, .row 0], .agg [.row 1, .row 2, .row 3], .cel (.int .i64 e)], [.recs [.int .i64, .int .i64] m, .ints .i64 j, .ints .i64 d, .ints .i64 u], [] => some (quiet_res T M s m j d u e)
  | _, _, _ => none
def quiet_e : Ent := ⟨12, [.recs [.int .i64, .int .i64] [], .ints .i64 [], .ints .i64 [], .ints .i64 []], quiet_go⟩
def quiet_L1_F (T : Int) (M : Int) (s : Int) (m : List (List Int)) (j : List Int) (d : List Int) (u : List Int) (e : Int) (i : Int) (o : List Int) : St := ⟨266, [], [(130, (.one (.cel (.int .i64 i)))), (129, (.one (.cel (.int .i64 (((List.length (crT T M s m e)) : Nat) : Int))))), (128, (.one (.cel (.row 4)))), (18, (.one (.cel (.row 7)))), (17, (.one (.cel (.int .i64 (spc T M))))), (15, (.one (.cel (.row 6)))), (13, (.one (.cel (.row 5)))), (11, (.one (.cel (.row 4)))), (8, (.one (.cel (.bool Bool.false)))), (6, (.one (.cel (.ptr 2 0))))], [[(.int .i64 T), (.int .i64 M)], [(.int .i64 s), (.row 0)], [(.row 1), (.row 2), (.row 3)]], [⟨(.recs [.int .i64, .int .i64] m), none⟩, ⟨(.ints .i64 j), none⟩, ⟨(.ints .i64 d), none⟩, ⟨(.ints .i64 u), none⟩, ⟨(.ints .i64 (crT T M s m e)), none⟩, ⟨(.ints .i64 (apL (crT T M s m e) j d u)), none⟩, ⟨(.ints .i64 (if ((wValid T M) = Bool.true) then (eL T M s (Go.IntKind.wrap Go.IntKind.i64 (s + (115200 : Int)))) else ([] : List Int))), none⟩, ⟨(.ints .i64 o), some 3⟩], 0⟩
def quiet_L1_I (T : Int) (M : Int) (s : Int) (m : List (List Int)) (j : List Int) (d : List Int) (u : List Int) (e : Int) (i : Int) (o : List Int) : Prop := (fewB s m e = true ∧ toE T M s m j d u e = 0 ∧ toB T M s m j d u e = true ∧ apE (crT T M s m e) j d u = 0) ∧ (0 ≤ i ∧ i ≤ (crT T M s m e).length) ∧ (o = (kpt j [] 0 (crT T M s m e)).take i.toNat)
def quiet_L1_m (T : Int) (M : Int) (s : Int) (m : List (List Int)) (j : List Int) (d : List Int) (u : List Int) (e : Int) (i : Int) (o : List Int) : Nat := ((crT T M s m e).length - i).toNat
def quiet_L1_N (T : Int) (M : Int) (s : Int) (m : List (List Int)) (j : List Int) (d : List Int) (u : List Int) (e : Int) (i' : Int) (o' : List Int) (st_ : St) : Prop := getI st_ 130 fun i => getR st_ 18 fun o => quiet_L1_I T M s m j d u e i o ∧ quiet_L1_m T M s m j d u e i o < quiet_L1_m T M s m j d u e i' o' ∧ SubA st_ (quiet_L1_F T M s m j d u e i o)
def quiet_L1_E (T : Int) (M : Int) (s : Int) (m : List (List Int)) (j : List Int) (d : List Int) (u : List Int) (e : Int) (st_ : St) : Prop := getI st_ 130 fun i => getR st_ 18 fun o => quiet_L1_I T M s m j d u e i o ∧ SubA st_ (quiet_L1_F T M s m j d u e i o)
def quiet_L1_S1 (T : Int) (M : Int) (s : Int) (m : List (List Int)) (j : List Int) (d : List Int) (u : List Int) (e : Int) : St := ⟨266, [119, 47, 32], [(130, (.one (.cel (.int .i64 (0 : Int))))), (129, (.one (.cel (.int .i64 (((List.length (crT T M s m e)) : Nat) : Int))))), (128, (.one (.cel (.row 4)))), (18, (.one (.cel .nilS))), (17, (.one (.cel (.int .i64 (spc T M))))), (127, (.one (.cel (.int .i64 (spc T M))))), (126, (.one (.agg [(.int .i64 T), (.int .i64 M)]))), (125, (.one (.cel (.bool ((!(decide ((if ((wValid T M) = Bool.true) then (0 : Int) else (1 : Int)) = (0 : Int)))) || (decide ((((List.length (if ((wValid T M) = Bool.true) then (eL T M s (Go.IntKind.wrap Go.IntKind.i64 (s + (115200 : Int)))) else ([] : List Int))) : Nat) : Int) < (((List.length (crT T M s m e)) : Nat) : Int)))))))), (124, (.spec 119 Bool.false (.cel (.bool (decide ((((List.length (if ((wValid T M) = Bool.true) then (eL T M s (Go.IntKind.wrap Go.IntKind.i64 (s + (115200 : Int)))) else ([] : List Int))) : Nat) : Int) < (((List.length (crT T M s m e)) : Nat) : Int))))))), (123, (.spec 119 Bool.false (.cel (.int .i64 (((List.length (crT T M s m e)) : Nat) : Int))))), (122, (.spec 119 Bool.false (.cel (.row 4)))), (121, (.spec 119 Bool.false (.cel (.int .i64 (((List.length (if ((wValid T M) = Bool.true) then (eL T M s (Go.IntKind.wrap Go.IntKind.i64 (s + (115200 : Int)))) else ([] : List Int))) : Nat) : Int))))), (120, (.spec 119 Bool.false (.cel (.row 6)))), (119, (.one (.cel (.bool (!(decide ((if ((wValid T M) = Bool.true) then (0 : Int) else (1 : Int)) = (0 : Int)))))))), (118, (.one (.cel (.bool (!(decide ((if ((wValid T M) = Bool.true) then (0 : Int) else (1 : Int)) = (0 : Int)))))))), (117, (.one (.cel (.int .i64 (if ((wValid T M) = Bool.true) then (0 : Int) else (1 : Int)))))), (16, (.one (.cel (.int .i64 (if ((wValid T M) = Bool.true) then (0 : Int) else (1 : Int)))))), (15, (.one (.cel (.row 6)))), (116, (.one (.cel (.int .i64 (if ((wValid T M) = Bool.true) then (0 : Int) else (1 : Int)))))), (115, (.one (.cel (.row 6)))), (107, (.tup [(.cel (.row 6)), (.cel (.int .i64 (if ((wValid T M) = Bool.true) then (0 : Int) else (1 : Int))))])), (114, (.tup [(.cel (.row 6)), (.cel (.int .i64 (if ((wValid T M) = Bool.true) then (0 : Int) else (1 : Int))))])), (113, (.one (.cel (.int .i64 (Go.IntKind.wrap Go.IntKind.i64 (s + (115200 : Int))))))), (112, (.one (.cel (.int .i64 s)))), (111, (.one (.cel (.ptr 1 0)))), (110, (.one (.cel (.int .i64 s)))), (109, (.one (.cel (.ptr 1 0)))), (108, (.one (.agg [(.int .i64 T), (.int .i64 M)]))), (69, (.one (.cel (.bool (!(decide ((apE (crT T M s m e) j d u) = (0 : Int)))))))), (68, (.one (.cel (.int .i64 (apE (crT T M s m e) j d u))))), (14, (.one (.cel (.int .i64 (apE (crT T M s m e) j d u))))), (13, (.one (.cel (.row 5)))), (67, (.one (.cel (.int .i64 (apE (crT T M s m e) j d u))))), (66, (.one (.cel (.row 5)))), (62, (.tup [(.cel (.row 5)), (.cel (.int .i64 (apE (crT T M s m e) j d u)))])), (65, (.tup [(.cel (.row 5)), (.cel (.int .i64 (apE (crT T M s m e) j d u)))])), (64, (.one (.agg [(.row 1), (.row 2), (.row 3)]))), (63, (.one (.cel (.row 4)))), (61, (.one (.cel (.bool (!(decide ((crE (wValid T M) s m e) = (0 : Int)))))))), (60, (.one (.cel (.int .i64 (crE (wValid T M) s m e))))), (12, (.one (.cel (.int .i64 (crE (wValid T M) s m e))))), (11, (.one (.cel (.row 4)))), (59, (.one (.cel (.int .i64 (crE (wValid T M) s m e))))), (58, (.one (.cel (.row 4)))), (53, (.tup [(.cel (.row 4)), (.cel (.int .i64 (crE (wValid T M) s m e)))])), (57, (.tup [(.cel (.row 4)), (.cel (.int .i64 (crE (wValid T M) s m e)))])), (56, (.one (.cel (.int .i64 e)))), (55, (.one (.agg [(.int .i64 s), (.row 0)]))), (54, (.one (.agg [(.int .i64 T), (.int .i64 M)]))), (50, (.one (.cel (.bool ((!(decide ((toE T M s m j d u e) = (0 : Int)))) || (!(toB T M s m j d u e))))))), (49, (.spec 47 Bool.false (.cel (.bool (!(toB T M s m j d u e)))))), (48, (.spec 47 Bool.false (.cel (.bool (toB T M s m j d u e))))), (47, (.one (.cel (.bool (!(decide ((toE T M s m j d u e) = (0 : Int)))))))), (46, (.one (.cel (.bool (!(decide ((toE T M s m j d u e) = (0 : Int)))))))), (45, (.one (.cel (.int .i64 (toE T M s m j d u e))))), (10, (.one (.cel (.int .i64 (toE T M s m j d u e))))), (9, (.one (.cel (.bool (toB T M s m j d u e))))), (44, (.one (.cel (.int .i64 (toE T M s m j d u e))))), (43, (.one (.cel (.bool (toB T M s m j d u e))))), (37, (.tup [(.cel (.bool (toB T M s m j d u e))), (.cel (.int .i64 (toE T M s m j d u e)))])), (42, (.tup [(.cel (.bool (toB T M s m j d u e))), (.cel (.int .i64 (toE T M s m j d u e)))])), (41, (.one (.cel (.int .i64 e)))), (40, (.one (.agg [(.row 1), (.row 2), (.row 3)]))), (39, (.one (.agg [(.int .i64 s), (.row 0)]))), (38, (.one (.agg [(.int .i64 T), (.int .i64 M)]))), (36, (.one (.cel (.bool ((!((decide ((((List.length m) : Nat) : Int) ≤ (60 : Int))) && (fewB s m e))) || (!(shB j d u))))))), (35, (.spec 32 Bool.false (.cel (.bool (!(shB j d u)))))), (34, (.spec 32 Bool.false (.cel (.bool (shB j d u))))), (33, (.spec 32 Bool.false (.agg [(.row 1), (.row 2), (.row 3)]))), (32, (.one (.cel (.bool (!((decide ((((List.length m) : Nat) : Int) ≤ (60 : Int))) && (fewB s m e))))))), (31, (.one (.cel (.bool (!((decide ((((List.length m) : Nat) : Int) ≤ (60 : Int))) && (fewB s m e))))))), (30, (.one (.cel (.bool ((decide ((((List.length m) : Nat) : Int) ≤ (60 : Int))) && (fewB s m e)))))), (29, (.one (.cel (.int .i64 e)))), (28, (.one (.agg [(.int .i64 s), (.row 0)]))), (27, (.one (.cel (.bool (!Bool.true))))), (26, (.one (.cel (.bool Bool.true)))), (8, (.one (.cel (.bool Bool.false)))), (6, (.one (.cel (.ptr 2 0)))), (5, (.one (.cel (.ptr 1 0)))), (4, (.one (.cel (.ptr 0 0)))), (0, (.one (.agg [(.int .i64 T), (.int .i64 M)]))), (1, (.one (.agg [(.int .i64 s), (.row 0)]))), (2, (.one (.agg [(.row 1), (.row 2), (.row 3)]))), (3, (.one (.cel (.int .i64 e))))], [[(.int .i64 T), (.int .i64 M)], [(.int .i64 s), (.row 0)], [(.row 1), (.row 2), (.row 3)]], [⟨(.recs [.int .i64, .int .i64] m), none⟩, ⟨(.ints .i64 j), none⟩, ⟨(.ints .i64 d), none⟩, ⟨(.ints .i64 u), none⟩, ⟨(.ints .i64 (crT T M s m e)), none⟩, ⟨(.ints .i64 (apL (crT T M s m e) j d u)), none⟩, ⟨(.ints .i64 (if ((wValid T M) = Bool.true) then (eL T M s (Go.IntKind.wrap Go.IntKind.i64 (s + (115200 : Int)))) else ([] : List Int))), none⟩], 0⟩
def quiet_L2_F (T : Int) (M : Int) (s : Int) (m : List (List Int)) (j : List Int) (d : List Int) (u : List Int) (e : Int) (i : Int) (o : List Int) (k : Int) : St := ⟨266, [], [(212, (.one (.cel (.int .i64 k)))), (211, (.one (.cel (.int .i64 (((List.length (apL (crT T M s m e) j d u)) : Nat) : Int))))), (210, (.one (.cel (.row 5)))), (18, (.one (.cel (.row 7)))), (17, (.one (.cel (.int .i64 (spc T M))))), (15, (.one (.cel (.row 6)))), (11, (.one (.cel (.row 4)))), (8, (.one (.cel (.bool Bool.false))))], [[(.int .i64 T), (.int .i64 M)], [(.int .i64 s), (.row 0)], [(.row 1), (.row 2), (.row 3)]], [⟨(.recs [.int .i64, .int .i64] m), none⟩, ⟨(.ints .i64 j), none⟩, ⟨(.ints .i64 d), none⟩, ⟨(.ints .i64 u), none⟩, ⟨(.ints .i64 (crT T M s m e)), none⟩, ⟨(.ints .i64 (apL (crT T M s m e) j d u)), none⟩, ⟨(.ints .i64 (if ((wValid T M) = Bool.true) then (eL T M s (Go.IntKind.wrap Go.IntKind.i64 (s + (115200 : Int)))) else ([] : List Int))), none⟩, ⟨(.ints .i64 o), some 3⟩], 0⟩
def quiet_L2_I (T : Int) (M : Int) (s : Int) (m : List (List Int)) (j : List Int) (d : List Int) (u : List Int) (e : Int) (i : Int) (o : List Int) (k : Int) : Prop := (0 ≤ k ∧ k ≤ (apL (crT T M s m e) j d u).length) ∧ (i = (crT T M s m e).length)
def quiet_L2_m (T : Int) (M : Int) (s : Int) (m : List (List Int)) (j : List Int) (d : List Int) (u : List Int) (e : Int) (i : Int) (o : List Int) (k : Int) : Nat := ((apL (crT T M s m e) j d u).length - k).toNat
def quiet_L2_N (T : Int) (M : Int) (s : Int) (m : List (List Int)) (j : List Int) (d : List Int) (u : List Int) (e : Int) (i : Int) (o : List Int) (k' : Int) (st_ : St) : Prop := getI st_ 212 fun k => quiet_L2_I T M s m j d u e i o k ∧ quiet_L2_m T M s m j d u e i o k < quiet_L2_m T M s m j d u e i o k' ∧ SubA st_ (quiet_L2_F T M s m j d u e i o k)
def quiet_L2_E (T : Int) (M : Int) (s : Int) (m : List (List Int)) (j : List Int) (d : List Int) (u : List Int) (e : Int) (i : Int) (o : List Int) (st_ : St) : Prop := getI st_ 212 fun k => quiet_L2_I T M s m j d u e i o k ∧ SubA st_ (quiet_L2_F T M s m j d u e i o k)
def quiet_L2_S1 (T : Int) (M : Int) (s : Int) (m : List (List Int)) (j : List Int) (d : List Int) (u : List Int) (e : Int) (i : Int) (o : List Int) : St := ⟨266, [], [(212, (.one (.cel (.int .i64 (0 : Int))))), (211, (.one (.cel (.int .i64 (((List.length (apL (crT T M s m e) j d u)) : Nat) : Int))))), (210, (.one (.cel (.row 5)))), (131, (.one (.cel (.bool (decide (i < (((List.length (crT T M s m e)) : Nat) : Int))))))), (130, (.one (.cel (.int .i64 i)))), (129, (.one (.cel (.int .i64 (((List.length (crT T M s m e)) : Nat) : Int))))), (128, (.one (.cel (.row 4)))), (18, (.one (.cel (.row 7)))), (17, (.one (.cel (.int .i64 (spc T M))))), (15, (.one (.cel (.row 6)))), (13, (.one (.cel (.row 5)))), (11, (.one (.cel (.row 4)))), (8, (.one (.cel (.bool Bool.false)))), (6, (.one (.cel (.ptr 2 0))))], [[(.int .i64 T), (.int .i64 M)], [(.int .i64 s), (.row 0)], [(.row 1), (.row 2), (.row 3)]], [⟨(.recs [.int .i64, .int .i64] m), none⟩, ⟨(.ints .i64 j), none⟩, ⟨(.ints .i64 d), none⟩, ⟨(.ints .i64 u), none⟩, ⟨(.ints .i64 (crT T M s m e)), none⟩, ⟨(.ints .i64 (apL (crT T M s m e) j d u)), none⟩, ⟨(.ints .i64 (if ((wValid T M) = Bool.true) then (eL T M s (Go.IntKind.wrap Go.IntKind.i64 (s + (115200 : Int)))) else ([] : List Int))), none⟩, ⟨(.ints .i64 o), some 3⟩], 0⟩
def quiet_L2_T (T : Int) (M : Int) (s : Int) (m : List (List Int)) (j : List Int) (d : List Int) (u : List Int) (e : Int) (i : Int) (o : List Int) (k : Int) : Prop := (cnd (decide (k < (((List.length (apL (crT T M s m e) j d u)) : Nat) : Int)))
  (cnd (decide ((0 : Int) ≤ k))
    (cnd (decide (k < (((List.length (apL (crT T M s m e) j d u)) : Nat) : Int)))
      (cnd (decide ((((List.length o) : Nat) : Int) ≤ (1000000 : Int)))
        (cnd (incr o)
          (cnd (bsF o (List.getD (apL (crT T M s m e) j d u) (Int.toNat k) (0 : Int)))
            ((quiet_L2_I T M s m j d u e i o (Go.IntKind.wrap Go.IntKind.i64 (k + (1 : Int)))) ∧ (((quiet_L2_m T M s m j d u e i o (Go.IntKind.wrap Go.IntKind.i64 (k + (1 : Int)))) < (quiet_L2_m T M s m j d u e i o k)) ∧ (((Go.IntKind.wrap Go.IntKind.i64 (k + (1 : Int))) = (Go.IntKind.wrap Go.IntKind.i64 (k + (1 : Int)))) ∧ (((((List.length (apL (crT T M s m e) j d u)) : Nat) : Int) = (((List.length (apL (crT T M s m e) j d u)) : Nat) : Int)) ∧ (True ∧ (True ∧ (((spc T M) = (spc T M)) ∧ (True ∧ (True ∧ ((Bool.false = Bool.false) ∧ (((T = T) ∧ (M = M)) ∧ (((s = s) ∧ True) ∧ ((True ∧ (True ∧ True)) ∧ ((m = m) ∧ ((j = j) ∧ ((d = d) ∧ ((u = u) ∧ (((crT T M s m e) = (crT T M s m e)) ∧ (((apL (crT T M s m e) j d u) = (apL (crT T M s m e) j d u)) ∧ (((if ((wValid T M) = Bool.true) then (eL T M s (Go.IntKind.wrap Go.IntKind.i64 (s + (115200 : Int)))) else ([] : List Int)) = (if ((wValid T M) = Bool.true) then (eL T M s (Go.IntKind.wrap Go.IntKind.i64 (s + (115200 : Int)))) else ([] : List Int))) ∧ ((o = o) ∧ True)))))))))))))))))))))
            (cnd ((!(((decide ((((bsN o (List.getD (apL (crT T M s m e) j d u) (Int.toNat k) (0 : Int))) : Nat) : Int) < (2 : Int))) || (decide ((((List.length (crT T M s m e)) : Nat) : Int) ≤ (((bsN o (List.getD (apL (crT T M s m e) j d u) (Int.toNat k) (0 : Int))) : Nat) : Int)))) == Bool.false)) || (decide ((0 : Int) ≤ (Go.IntKind.wrap Go.IntKind.i64 ((((bsN o (List.getD (apL (crT T M s m e) j d u) (Int.toNat k) (0 : Int))) : Nat) : Int) - (1 : Int))))))
              (cnd ((!(((decide ((((bsN o (List.getD (apL (crT T M s m e) j d u) (Int.toNat k) (0 : Int))) : Nat) : Int) < (2 : Int))) || (decide ((((List.length (crT T M s m e)) : Nat) : Int) ≤ (((bsN o (List.getD (apL (crT T M s m e) j d u) (Int.toNat k) (0 : Int))) : Nat) : Int)))) == Bool.false)) || (decide ((Go.IntKind.wrap Go.IntKind.i64 ((((bsN o (List.getD (apL (crT T M s m e) j d u) (Int.toNat k) (0 : Int))) : Nat) : Int) - (1 : Int))) < (((List.length o) : Nat) : Int))))
                (cnd ((!(((decide ((((bsN o (List.getD (apL (crT T M s m e) j d u) (Int.toNat k) (0 : Int))) : Nat) : Int) < (2 : Int))) || (decide ((((List.length (crT T M s m e)) : Nat) : Int) ≤ (((bsN o (List.getD (apL (crT T M s m e) j d u) (Int.toNat k) (0 : Int))) : Nat) : Int)))) == Bool.false)) || (decide ((0 : Int) ≤ (((bsN o (List.getD (apL (crT T M s m e) j d u) (Int.toNat k) (0 : Int))) : Nat) : Int))))
                  (cnd ((!(((decide ((((bsN o (List.getD (apL (crT T M s m e) j d u) (Int.toNat k) (0 : Int))) : Nat) : Int) < (2 : Int))) || (decide ((((List.length (crT T M s m e)) : Nat) : Int) ≤ (((bsN o (List.getD (apL (crT T M s m e) j d u) (Int.toNat k) (0 : Int))) : Nat) : Int)))) == Bool.false)) || (decide ((((bsN o (List.getD (apL (crT T M s m e) j d u) (Int.toNat k) (0 : Int))) : Nat) : Int) < (((List.length (if ((wValid T M) = Bool.true) then (eL T M s (Go.IntKind.wrap Go.IntKind.i64 (s + (115200 : Int)))) else ([] : List Int))) : Nat) : Int))))
                    (cnd ((!(((decide ((((bsN o (List.getD (apL (crT T M s m e) j d u) (Int.toNat k) (0 : Int))) : Nat) : Int) < (2 : Int))) || (decide ((((List.length (crT T M s m e)) : Nat) : Int) ≤ (((bsN o (List.getD (apL (crT T M s m e) j d u) (Int.toNat k) (0 : Int))) : Nat) : Int)))) == Bool.false)) || (decide ((0 : Int) ≤ (Go.IntKind.wrap Go.IntKind.i64 ((((bsN o (List.getD (apL (crT T M s m e) j d u) (Int.toNat k) (0 : Int))) : Nat) : Int) - (1 : Int))))))
                      (cnd ((!(((decide ((((bsN o (List.getD (apL (crT T M s m e) j d u) (Int.toNat k) (0 : Int))) : Nat) : Int) < (2 : Int))) || (decide ((((List.length (crT T M s m e)) : Nat) : Int) ≤ (((bsN o (List.getD (apL (crT T M s m e) j d u) (Int.toNat k) (0 : Int))) : Nat) : Int)))) == Bool.false)) || (decide ((Go.IntKind.wrap Go.IntKind.i64 ((((bsN o (List.getD (apL (crT T M s m e) j d u) (Int.toNat k) (0 : Int))) : Nat) : Int) - (1 : Int))) < (((List.length (if ((wValid T M) = Bool.true) then (eL T M s (Go.IntKind.wrap Go.IntKind.i64 (s + (115200 : Int)))) else ([] : List Int))) : Nat) : Int))))
                        (cnd ((!(((decide ((((bsN o (List.getD (apL (crT T M s m e) j d u) (Int.toNat k) (0 : Int))) : Nat) : Int) < (2 : Int))) || (decide ((((List.length (crT T M s m e)) : Nat) : Int) ≤ (((bsN o (List.getD (apL (crT T M s m e) j d u) (Int.toNat k) (0 : Int))) : Nat) : Int)))) == Bool.false)) || (decide ((0 : Int) ≤ (((bsN o (List.getD (apL (crT T M s m e) j d u) (Int.toNat k) (0 : Int))) : Nat) : Int))))
                          (cnd ((!(((decide ((((bsN o (List.getD (apL (crT T M s m e) j d u) (Int.toNat k) (0 : Int))) : Nat) : Int) < (2 : Int))) || (decide ((((List.length (crT T M s m e)) : Nat) : Int) ≤ (((bsN o (List.getD (apL (crT T M s m e) j d u) (Int.toNat k) (0 : Int))) : Nat) : Int)))) == Bool.false)) || (decide ((((bsN o (List.getD (apL (crT T M s m e) j d u) (Int.toNat k) (0 : Int))) : Nat) : Int) < (((List.length (crT T M s m e)) : Nat) : Int))))
                            (cnd ((!(((decide ((((bsN o (List.getD (apL (crT T M s m e) j d u) (Int.toNat k) (0 : Int))) : Nat) : Int) < (2 : Int))) || (decide ((((List.length (crT T M s m e)) : Nat) : Int) ≤ (((bsN o (List.getD (apL (crT T M s m e) j d u) (Int.toNat k) (0 : Int))) : Nat) : Int)))) == Bool.false)) || (decide ((0 : Int) ≤ (Go.IntKind.wrap Go.IntKind.i64 ((((bsN o (List.getD (apL (crT T M s m e) j d u) (Int.toNat k) (0 : Int))) : Nat) : Int) - (1 : Int))))))
                              (cnd ((!(((decide ((((bsN o (List.getD (apL (crT T M s m e) j d u) (Int.toNat k) (0 : Int))) : Nat) : Int) < (2 : Int))) || (decide ((((List.length (crT T M s m e)) : Nat) : Int) ≤ (((bsN o (List.getD (apL (crT T M s m e) j d u) (Int.toNat k) (0 : Int))) : Nat) : Int)))) == Bool.false)) || (decide ((Go.IntKind.wrap Go.IntKind.i64 ((((bsN o (List.getD (apL (crT T M s m e) j d u) (Int.toNat k) (0 : Int))) : Nat) : Int) - (1 : Int))) < (((List.length (crT T M s m e)) : Nat) : Int))))
                                (cnd (((decide ((((bsN o (List.getD (apL (crT T M s m e) j d u) (Int.toNat k) (0 : Int))) : Nat) : Int) < (2 : Int))) || (decide ((((List.length (crT T M s m e)) : Nat) : Int) ≤ (((bsN o (List.getD (apL (crT T M s m e) j d u) (Int.toNat k) (0 : Int))) : Nat) : Int)))) || (decide ((Go.IntKind.wrap Go.IntKind.i64 ((Go.IntKind.wrap Go.IntKind.i64 ((List.getD (crT T M s m e) (Int.toNat (((bsN o (List.getD (apL (crT T M s m e) j d u) (Int.toNat k) (0 : Int))) : Nat) : Int)) (0 : Int)) - (List.getD (crT T M s m e) (Int.toNat (Go.IntKind.wrap Go.IntKind.i64 ((((bsN o (List.getD (apL (crT T M s m e) j d u) (Int.toNat k) (0 : Int))) : Nat) : Int) - (1 : Int)))) (0 : Int)))) * (spc T M))) ≤ (Go.IntKind.wrap Go.IntKind.i64 ((Go.IntKind.wrap Go.IntKind.i64 ((8 : Int) * (Go.IntKind.wrap Go.IntKind.i64 ((List.getD (apL (crT T M s m e) j d u) (Int.toNat k) (0 : Int)) - (List.getD o (Int.toNat (Go.IntKind.wrap Go.IntKind.i64 ((((bsN o (List.getD (apL (crT T M s m e) j d u) (Int.toNat k) (0 : Int))) : Nat) : Int) - (1 : Int)))) (0 : Int)))))) * (Go.IntKind.wrap Go.IntKind.i64 ((List.getD (if ((wValid T M) = Bool.true) then (eL T M s (Go.IntKind.wrap Go.IntKind.i64 (s + (115200 : Int)))) else ([] : List Int)) (Int.toNat (((bsN o (List.getD (apL (crT T M s m e) j d u) (Int.toNat k) (0 : Int))) : Nat) : Int)) (0 : Int)) - (List.getD (if ((wValid T M) = Bool.true) then (eL T M s (Go.IntKind.wrap Go.IntKind.i64 (s + (115200 : Int)))) else ([] : List Int)) (Int.toNat (Go.IntKind.wrap Go.IntKind.i64 ((((bsN o (List.getD (apL (crT T M s m e) j d u) (Int.toNat k) (0 : Int))) : Nat) : Int) - (1 : Int)))) (0 : Int)))))))))
                                  (Bool.false = Bool.true)
                                  ((quiet_L2_I T M s m j d u e i o (Go.IntKind.wrap Go.IntKind.i64 (k + (1 : Int)))) ∧ (((quiet_L2_m T M s m j d u e i o (Go.IntKind.wrap Go.IntKind.i64 (k + (1 : Int)))) < (quiet_L2_m T M s m j d u e i o k)) ∧ (((Go.IntKind.wrap Go.IntKind.i64 (k + (1 : Int))) = (Go.IntKind.wrap Go.IntKind.i64 (k + (1 : Int)))) ∧ (((((List.length (apL (crT T M s m e) j d u)) : Nat) : Int) = (((List.length (apL (crT T M s m e) j d u)) : Nat) : Int)) ∧ (True ∧ (True ∧ (((spc T M) = (spc T M)) ∧ (True ∧ (True ∧ ((Bool.false = Bool.false) ∧ (((T = T) ∧ (M = M)) ∧ (((s = s) ∧ True) ∧ ((True ∧ (True ∧ True)) ∧ ((m = m) ∧ ((j = j) ∧ ((d = d) ∧ ((u = u) ∧ (((crT T M s m e) = (crT T M s m e)) ∧ (((apL (crT T M s m e) j d u) = (apL (crT T M s m e) j d u)) ∧ (((if ((wValid T M) = Bool.true) then (eL T M s (Go.IntKind.wrap Go.IntKind.i64 (s + (115200 : Int)))) else ([] : List Int)) = (if ((wValid T M) = Bool.true) then (eL T M s (Go.IntKind.wrap Go.IntKind.i64 (s + (115200 : Int)))) else ([] : List Int))) ∧ ((o = o) ∧ True))))))))))))))))))))))
                                False)
                              False)
                            False)
                          False)
                        False)
                      False)
                    False)
                  False)
                False)
              False))
          False)
        False)
      False)
    False)
  (Bool.true = Bool.true))
set_option maxRecDepth 100000 in
theorem quiet_L2_tree (T : Int) (M : Int) (s : Int) (m : List (List Int)) (j : List Int) (d : List Int) (u : List Int) (e : Int) (i : Int) (o : List Int) (k : Int) : quiet_L2_T T M s m j d u e i o k = ex Try.prog (conOf [awake_e, few_e, short_e, toler_e, Crank_e, apply_e, between_e, wspace_e, scontains_e, bsearch_e]) (subC (bodyOf Try.f12) [1, 1, 1, 1, 1, 1, 1, 1, 1, 1, 1, 1, 1, 1, 0, 1, 0, 0]) (nextE (quiet_L2_N T M s m j d u e i o k) (kont Try.prog (conOf [awake_e, few_e, short_e, toler_e, Crank_e, apply_e, between_e, wspace_e, scontains_e, bsearch_e]) (bodyOf Try.f12) [1, 1, 1, 1, 1, 1, 1, 1, 1, 1, 1, 1, 1, 1, 0, 1, 0] (retPost Try.prog Try.f12 4 (quiet_res T M s m j d u e)))) (quiet_L2_F T M s m j d u e i o k) := by kernel_rfl
set_option maxRecDepth 100000 in
theorem quiet_L2_round (T : Int) (M : Int) (s : Int) (m : List (List Int)) (j : List Int) (d : List Int) (u : List Int) (e : Int) (i : Int) (o : List Int) (k : Int) (p0 : (wfI .i64 T) = true) (p1 : (wfI .i64 M) = true) (p2 : (wfI .i64 s) = true) (p3 : (wfR [.int .i64, .int .i64] m) = true) (p4 : (wfL .i64 j) = true) (p5 : (wfL .i64 d) = true) (p6 : (wfL .i64 u) = true) (p7 : (wfI .i64 e) = true) (p8 : (lenB m) = true) (p9 : (lenB j) = true) (p10 : (lenB d) = true) (p11 : (lenB u) = true) (hI_L1 : quiet_L1_I T M s m j d u e i o) (hI_L2 : quiet_L2_I T M s m j d u e i o k) : quiet_L2_T T M s m j d u e i o k := by
  have hI1 := hI_L1
  obtain ⟨⟨hf, hE, hT, hA⟩, ⟨a1, a2⟩, a3⟩ := hI1
  obtain ⟨⟨k0, k1⟩, hi⟩ := hI_L2
  obtain ⟨z, z1, z2, z3, z4, z5, z6⟩ := to_facts hE
  obtain ⟨t1, t2, t3, t4, t5⟩ := tb_facts hT
  obtain ⟨f1, f2, f3, f4, f5, f6, f7, f8, f9⟩ := cr_facts z hf
  obtain ⟨c1, c2, c3⟩ := cr_valid z hf
  obtain ⟨d1, d2, d3⟩ := cr_pos z hf
  obtain ⟨v1, v2, v3⟩ := vE_iff.1 c1
  obtain ⟨b0, b1, b2, b3⟩ := spc_bd f1
  obtain ⟨hP, hc, hk⟩ := quiet_facts z hf hT
  obtain ⟨q1, q2⟩ := eL_get (T := T) (M := M) (a := s) (b := posOf s m e) (b' := s + 115200) (by omega)
  subst t2
  have hAl := apL_len (l := crT T M s m e) (j := j) (d := []) (u := u)
  have ho : o = kpt j [] 0 (crT T M s m e) := by rw [a3, List.take_of_length_le (by rw [kpt_len0]; omega)]
  have hol : o.length = (crT T M s m e).length := by rw [ho, kpt_len0]
  have hinc : incr o = true := by rw [ho]; exact mv_incr v3 hc
  unfold quiet_L2_T
  rw [w64 (n := s + 115200) (by omega) (by omega), if_pos f1, w64 (n := k + 1) (by omega) (by omega)]
  by_cases hkl : k < (apL (crT T M s m e) j [] u).length
  · have hmem := (apL_mem hA _).1 (memD (l := apL (crT T M s m e) j [] u) (n := k.toNat) (by omega))
    have hF : quiet_L2_I T M s m j [] u e i o (k + 1) := ⟨⟨by omega, by omega⟩, hi⟩
    have hμ : quiet_L2_m T M s m j [] u e i o (k + 1) < quiet_L2_m T M s m j [] u e i o k := by unfold quiet_L2_m; omega
    rw [decide_eq_true hkl, decide_eq_true k0, decide_eq_true (show ((o.length : Nat) : Int) ≤ 1000000 by omega), hinc]
    generalize (apL (crT T M s m e) j [] u).getD k.toNat 0 = t at *
    cases hb : bsF o t with
    | true => exact ⟨hF, hμ, by simp⟩
    | false =>
      have htu : t ∈ u := by
        rcases hmem with ⟨n, h1, h2, h3⟩ | h
        · have h4 : o.getD n 0 = t := by rw [ho, kpt_mv h1]; exact h3.symm
          rw [← h4, bsF_at hinc (by omega)] at hb
          cases hb
        · exact h
      clear hmem
      obtain ⟨n, hn, hnt⟩ := getD_ofmem htu
      have hs := all_get t4 hn
      rw [hnt] at hs
      have hsi := spar_bs t (mv_incr v3 hc)
      rw [← ho] at hsi
      obtain ⟨w1, w2, w3⟩ := bsN_bd o t
      unfold sparP at hs
      rw [hsi] at hs
      obtain ⟨b, hbb⟩ : ∃ b, b = bsN o t := ⟨_, rfl⟩
      rw [← hbb] at hs w1 w2 w3 ⊢
      simp only [Bool.and_eq_true, decide_eq_true_eq] at hs
      obtain ⟨⟨s1, s2⟩, s3⟩ := hs
      rw [show ((b : Int) - 1).toNat = b - 1 by omega, show b - 1 + 1 = b by omega] at s3
      have hmm := w2 (b - 1) (by omega)
      have hmo : o.getD (b - 1) 0 = mvT (crT T M s m e) j (b - 1) := by rw [ho]; exact kpt_mv (by omega)
      have hmv : mvT (crT T M s m e) j (b - 1) = (crT T M s m e).getD (b - 1) 0 + mvd j ((b : Int) - 1) := by
        unfold mvT
        rw [show ((b - 1 : Nat) : Int) = (b : Int) - 1 by omega]
      obtain ⟨g1, g2, g3⟩ := hk (b - 1) (by omega)
      rw [show b - 1 + 1 = b by omega] at g1
      have x0 := isT_iff.1 (all_get v2 (j := b) (by omega))
      have x1 := isT_iff.1 (all_get v2 (j := b - 1) (by omega))
      have x2 := incr_get v3 (j := b - 1) (by omega)
      rw [show b - 1 + 1 = b by omega] at x2
      have m0 := mul_bd (A := 120) (B := 1920) (show 0 ≤ (spsL T M (crP T M s m e)).getD (b - 1) 0 by omega) g3 (show 0 ≤ spc T M by omega) b1
      have m1 := mul_bd (A := 1099511627776) (B := 1920) (show 0 ≤ (crT T M s m e).getD b 0 - (crT T M s m e).getD (b - 1) 0 by omega) (by omega) (show 0 ≤ spc T M by omega) b1
      have e1 : t - (crT T M s m e).getD (b - 1) 0 - mvd j ((b : Int) - 1) = t - o.getD (b - 1) 0 := by rw [hmo, hmv]; omega
      rw [e1] at s3
      have s4 : 8 * (t - o.getD (b - 1) 0) * ((spsL T M (crP T M s m e)).getD (b - 1) 0 * spc T M) < ((crT T M s m e).getD b 0 - (crT T M s m e).getD (b - 1) 0) * spc T M := by
        have := Int.mul_lt_mul_of_pos_right s3 (show 0 < spc T M by omega)
        rw [Int.mul_assoc (8 * (t - o.getD (b - 1) 0))] at this
        exact this
      have s5 : 8 * (t - o.getD (b - 1) 0) ≤ 8 * (t - o.getD (b - 1) 0) * (spsL T M (crP T M s m e)).getD (b - 1) 0 := by
        have := Int.mul_le_mul_of_nonneg_left g2 (show 0 ≤ 8 * (t - o.getD (b - 1) 0) by omega)
        omega
      have s6 : 0 ≤ 8 * (t - o.getD (b - 1) 0) * ((spsL T M (crP T M s m e)).getD (b - 1) 0 * spc T M) := Int.mul_nonneg (by omega) m0.1
      rw [w64 (n := (b : Int) - 1) (by omega) (by omega), show ((b : Int) - 1).toNat = b - 1 by omega, Int.toNat_natCast, q2 b (by omega), q2 (b - 1) (by omega), ← g1, decide_eq_false (show ¬ ((b : Nat) : Int) < 2 by omega), decide_eq_false (show ¬ ((crT T M s m e).length : Int) ≤ ((b : Nat) : Int) by omega), decide_eq_true (show 0 ≤ (b : Int) - 1 by omega), decide_eq_true (show (b : Int) - 1 < ((o.length : Nat) : Int) by omega), decide_eq_true (show 0 ≤ (b : Int) by omega), decide_eq_true (show (b : Int) < ((eL T M s (s + 115200)).length : Int) by omega), decide_eq_true (show (b : Int) - 1 < ((eL T M s (s + 115200)).length : Int) by omega), decide_eq_true (show (b : Int) < ((crT T M s m e).length : Int) by omega), decide_eq_true (show (b : Int) - 1 < ((crT T M s m e).length : Int) by omega)]
      rw [w64 (n := (crT T M s m e).getD b 0 - (crT T M s m e).getD (b - 1) 0) (by omega) (by omega), w64 (n := t - o.getD (b - 1) 0) (by omega) (by omega), w64 (n := 8 * (t - o.getD (b - 1) 0)) (by omega) (by omega), w64 (n := (spsL T M (crP T M s m e)).getD (b - 1) 0 * spc T M) (by omega) (by omega), w64 (n := 8 * (t - o.getD (b - 1) 0) * ((spsL T M (crP T M s m e)).getD (b - 1) 0 * spc T M)) (by omega) (by omega), w64 (n := ((crT T M s m e).getD b 0 - (crT T M s m e).getD (b - 1) 0) * spc T M) (by omega) (by omega), decide_eq_false (show ¬ ((crT T M s m e).getD b 0 - (crT T M s m e).getD (b - 1) 0) * spc T M ≤ 8 * (t - o.getD (b - 1) 0) * ((spsL T M (crP T M s m e)).getD (b - 1) 0 * spc T M) by omega)]
      exact ⟨hF, hμ, by simp⟩
  · rw [decide_eq_false hkl]
    rfl
set_option maxRecDepth 100000 in
theorem quiet_L2_entry1 (T : Int) (M : Int) (s : Int) (m : List (List Int)) (j : List Int) (d : List Int) (u : List Int) (e : Int) (i : Int) (o : List Int) : (((quiet_L2_I T M s m j d u e i o (0 : Int)) ∧ (((0 : Int) = (0 : Int)) ∧ (((((List.length (apL (crT T M s m e) j d u)) : Nat) : Int) = (((List.length (apL (crT T M s m e) j d u)) : Nat) : Int)) ∧ (True ∧ (True ∧ (((spc T M) = (spc T M)) ∧ (True ∧ (True ∧ ((Bool.false = Bool.false) ∧ (((T = T) ∧ (M = M)) ∧ (((s = s) ∧ True) ∧ ((True ∧ (True ∧ True)) ∧ ((m = m) ∧ ((j = j) ∧ ((d = d) ∧ ((u = u) ∧ (((crT T M s m e) = (crT T M s m e)) ∧ (((apL (crT T M s m e) j d u) = (apL (crT T M s m e) j d u)) ∧ (((if ((wValid T M) = Bool.true) then (eL T M s (Go.IntKind.wrap Go.IntKind.i64 (s + (115200 : Int)))) else ([] : List Int)) = (if ((wValid T M) = Bool.true) then (eL T M s (Go.IntKind.wrap Go.IntKind.i64 (s + (115200 : Int)))) else ([] : List Int))) ∧ ((o = o) ∧ True))))))))))))))))))))) = quiet_L2_E T M s m j d u e i o (quiet_L2_S1 T M s m j d u e i o) := by kernel_rfl
theorem quiet_L2_1 (T : Int) (M : Int) (s : Int) (m : List (List Int)) (j : List Int) (d : List Int) (u : List Int) (e : Int) (i : Int) (o : List Int) (p0 : (wfI .i64 T) = true) (p1 : (wfI .i64 M) = true) (p2 : (wfI .i64 s) = true) (p3 : (wfR [.int .i64, .int .i64] m) = true) (p4 : (wfL .i64 j) = true) (p5 : (wfL .i64 d) = true) (p6 : (wfL .i64 u) = true) (p7 : (wfI .i64 e) = true) (p8 : (lenB m) = true) (p9 : (lenB j) = true) (p10 : (lenB d) = true) (p11 : (lenB u) = true) (hI_L1 : quiet_L1_I T M s m j d u e i o) (h : ((quiet_L2_I T M s m j d u e i o (0 : Int)) ∧ (((0 : Int) = (0 : Int)) ∧ (((((List.length (apL (crT T M s m e) j d u)) : Nat) : Int) = (((List.length (apL (crT T M s m e) j d u)) : Nat) : Int)) ∧ (True ∧ (True ∧ (((spc T M) = (spc T M)) ∧ (True ∧ (True ∧ ((Bool.false = Bool.false) ∧ (((T = T) ∧ (M = M)) ∧ (((s = s) ∧ True) ∧ ((True ∧ (True ∧ True)) ∧ ((m = m) ∧ ((j = j) ∧ ((d = d) ∧ ((u = u) ∧ (((crT T M s m e) = (crT T M s m e)) ∧ (((apL (crT T M s m e) j d u) = (apL (crT T M s m e) j d u)) ∧ (((if ((wValid T M) = Bool.true) then (eL T M s (Go.IntKind.wrap Go.IntKind.i64 (s + (115200 : Int)))) else ([] : List Int)) = (if ((wValid T M) = Bool.true) then (eL T M s (Go.IntKind.wrap Go.IntKind.i64 (s + (115200 : Int)))) else ([] : List Int))) ∧ ((o = o) ∧ True))))))))))))))))))))) : LoopP (ex Try.prog (conOf [awake_e, few_e, short_e, toler_e, Crank_e, apply_e, between_e, wspace_e, scontains_e, bsearch_e]) (subC (bodyOf Try.f12) [1, 1, 1, 1, 1, 1, 1, 1, 1, 1, 1, 1, 1, 1, 0, 1, 0, 0])) (kont Try.prog (conOf [awake_e, few_e, short_e, toler_e, Crank_e, apply_e, between_e, wspace_e, scontains_e, bsearch_e]) (bodyOf Try.f12) [1, 1, 1, 1, 1, 1, 1, 1, 1, 1, 1, 1, 1, 1, 0, 1, 0] (retPost Try.prog Try.f12 4 (quiet_res T M s m j d u e))) (quiet_L2_S1 T M s m j d u e i o) := by
  have hE : quiet_L2_E T M s m j d u e i o (quiet_L2_S1 T M s m j d u e i o) := Eq.mp (quiet_L2_entry1 T M s m j d u e i o) h
  unfold quiet_L2_E at hE
  obtain ⟨k, hE⟩ := getI_of hE
  refine loop_of (α := (Int)) (fun xx_ => quiet_L2_F T M s m j d u e i o xx_) (fun xx_ => quiet_L2_I T M s m j d u e i o xx_) (fun xx_ => quiet_L2_m T M s m j d u e i o xx_) (fun xx_ => quiet_L2_N T M s m j d u e i o xx_) (fun xx_ => quiet_L2_T T M s m j d u e i o xx_) (fun xx_ s_ h => ?_) ⟨k, hE⟩ (fun xx_ => quiet_L2_tree T M s m j d u e i o xx_) (fun xx_ hI => quiet_L2_round T M s m j d u e i o xx_ p0 p1 p2 p3 p4 p5 p6 p7 p8 p9 p10 p11 hI_L1 hI)
  unfold quiet_L2_N at h
  obtain ⟨k, h⟩ := getI_of h
  exact ⟨k, h⟩
def quiet_L1_T (T : Int) (M : Int) (s : Int) (m : List (List Int)) (j : List Int) (d : List Int) (u : List Int) (e : Int) (i : Int) (o : List Int) : Prop := (cnd (decide (i < (((List.length (crT T M s m e)) : Nat) : Int)))
  (cnd (decide ((0 : Int) ≤ i))
    (cnd (decide (i < (((List.length (crT T M s m e)) : Nat) : Int)))
      (cnd (decide ((0 : Int) < (((List.length j) : Nat) : Int)))
        (cnd (decide ((((List.length j) : Nat) : Int) ≠ (0 : Int)))
          (cnd (decide ((0 : Int) ≤ (Int.tmod i (((List.length j) : Nat) : Int))))
            (cnd (decide ((Int.tmod i (((List.length j) : Nat) : Int)) < (((List.length j) : Nat) : Int)))
              (cnd (decide ((List.length (o ++ [(Go.IntKind.wrap Go.IntKind.i64 ((List.getD (crT T M s m e) (Int.toNat i) (0 : Int)) + (List.getD j (Int.toNat (Int.tmod i (((List.length j) : Nat) : Int))) (0 : Int))))])) ≤ 4294967296))
                (cnd (decide ((((List.length (apL (crT T M s m e) j d u)) : Nat) : Int) ≤ (1000000 : Int)))
                  (cnd ((!(((!(hasV (Go.IntKind.wrap Go.IntKind.i64 ((List.getD (crT T M s m e) (Int.toNat i) (0 : Int)) + (List.getD j (Int.toNat (Int.tmod i (((List.length j) : Nat) : Int))) (0 : Int)))) (apL (crT T M s m e) j d u))) == Bool.false) && ((decide ((0 : Int) < i)) == Bool.true))) || (decide ((0 : Int) ≤ i)))
                    (cnd ((!(((!(hasV (Go.IntKind.wrap Go.IntKind.i64 ((List.getD (crT T M s m e) (Int.toNat i) (0 : Int)) + (List.getD j (Int.toNat (Int.tmod i (((List.length j) : Nat) : Int))) (0 : Int)))) (apL (crT T M s m e) j d u))) == Bool.false) && ((decide ((0 : Int) < i)) == Bool.true))) || (decide (i < (((List.length (o ++ [(Go.IntKind.wrap Go.IntKind.i64 ((List.getD (crT T M s m e) (Int.toNat i) (0 : Int)) + (List.getD j (Int.toNat (Int.tmod i (((List.length j) : Nat) : Int))) (0 : Int))))])) : Nat) : Int))))
                      (cnd ((!(((!(hasV (Go.IntKind.wrap Go.IntKind.i64 ((List.getD (crT T M s m e) (Int.toNat i) (0 : Int)) + (List.getD j (Int.toNat (Int.tmod i (((List.length j) : Nat) : Int))) (0 : Int)))) (apL (crT T M s m e) j d u))) == Bool.false) && ((decide ((0 : Int) < i)) == Bool.true))) || (decide ((0 : Int) ≤ (Go.IntKind.wrap Go.IntKind.i64 (i - (1 : Int))))))
                        (cnd ((!(((!(hasV (Go.IntKind.wrap Go.IntKind.i64 ((List.getD (crT T M s m e) (Int.toNat i) (0 : Int)) + (List.getD j (Int.toNat (Int.tmod i (((List.length j) : Nat) : Int))) (0 : Int)))) (apL (crT T M s m e) j d u))) == Bool.false) && ((decide ((0 : Int) < i)) == Bool.true))) || (decide ((Go.IntKind.wrap Go.IntKind.i64 (i - (1 : Int))) < (((List.length (o ++ [(Go.IntKind.wrap Go.IntKind.i64 ((List.getD (crT T M s m e) (Int.toNat i) (0 : Int)) + (List.getD j (Int.toNat (Int.tmod i (((List.length j) : Nat) : Int))) (0 : Int))))])) : Nat) : Int))))
                          (cnd ((!(hasV (Go.IntKind.wrap Go.IntKind.i64 ((List.getD (crT T M s m e) (Int.toNat i) (0 : Int)) + (List.getD j (Int.toNat (Int.tmod i (((List.length j) : Nat) : Int))) (0 : Int)))) (apL (crT T M s m e) j d u))) || ((decide ((0 : Int) < i)) && (decide ((List.getD (o ++ [(Go.IntKind.wrap Go.IntKind.i64 ((List.getD (crT T M s m e) (Int.toNat i) (0 : Int)) + (List.getD j (Int.toNat (Int.tmod i (((List.length j) : Nat) : Int))) (0 : Int))))]) (Int.toNat i) (0 : Int)) ≤ (List.getD (o ++ [(Go.IntKind.wrap Go.IntKind.i64 ((List.getD (crT T M s m e) (Int.toNat i) (0 : Int)) + (List.getD j (Int.toNat (Int.tmod i (((List.length j) : Nat) : Int))) (0 : Int))))]) (Int.toNat (Go.IntKind.wrap Go.IntKind.i64 (i - (1 : Int)))) (0 : Int))))))
                            (Bool.false = Bool.true)
                            (cnd ((!((decide ((Go.IntKind.wrap Go.IntKind.i64 (i + (1 : Int))) < (((List.length (crT T M s m e)) : Nat) : Int))) == Bool.true)) || (decide ((0 : Int) ≤ (Go.IntKind.wrap Go.IntKind.i64 (i + (1 : Int))))))
                              (cnd ((!((decide ((Go.IntKind.wrap Go.IntKind.i64 (i + (1 : Int))) < (((List.length (crT T M s m e)) : Nat) : Int))) == Bool.true)) || (decide ((Go.IntKind.wrap Go.IntKind.i64 (i + (1 : Int))) < (((List.length (if ((wValid T M) = Bool.true) then (eL T M s (Go.IntKind.wrap Go.IntKind.i64 (s + (115200 : Int)))) else ([] : List Int))) : Nat) : Int))))
                                (cnd ((!((decide ((Go.IntKind.wrap Go.IntKind.i64 (i + (1 : Int))) < (((List.length (crT T M s m e)) : Nat) : Int))) == Bool.true)) || (decide ((0 : Int) ≤ i)))
                                  (cnd ((!((decide ((Go.IntKind.wrap Go.IntKind.i64 (i + (1 : Int))) < (((List.length (crT T M s m e)) : Nat) : Int))) == Bool.true)) || (decide (i < (((List.length (if ((wValid T M) = Bool.true) then (eL T M s (Go.IntKind.wrap Go.IntKind.i64 (s + (115200 : Int)))) else ([] : List Int))) : Nat) : Int))))
                                    (cnd ((!((decide ((Go.IntKind.wrap Go.IntKind.i64 (i + (1 : Int))) < (((List.length (crT T M s m e)) : Nat) : Int))) == Bool.true)) || (decide ((0 : Int) ≤ (Go.IntKind.wrap Go.IntKind.i64 (i + (1 : Int))))))
                                      (cnd ((!((decide ((Go.IntKind.wrap Go.IntKind.i64 (i + (1 : Int))) < (((List.length (crT T M s m e)) : Nat) : Int))) == Bool.true)) || (decide ((Go.IntKind.wrap Go.IntKind.i64 (i + (1 : Int))) < (((List.length (crT T M s m e)) : Nat) : Int))))
                                        (cnd ((decide ((Go.IntKind.wrap Go.IntKind.i64 (i + (1 : Int))) < (((List.length (crT T M s m e)) : Nat) : Int))) && (decide ((Go.IntKind.wrap Go.IntKind.i64 ((Go.IntKind.wrap Go.IntKind.i64 ((List.getD (crT T M s m e) (Int.toNat (Go.IntKind.wrap Go.IntKind.i64 (i + (1 : Int)))) (0 : Int)) - (List.getD (crT T M s m e) (Int.toNat i) (0 : Int)))) * (spc T M))) < (Go.IntKind.wrap Go.IntKind.i64 ((Go.IntKind.wrap Go.IntKind.i64 ((64 : Int) * (gmax (List.getD j (Int.toNat (Int.tmod i (((List.length j) : Nat) : Int))) (0 : Int)) (Go.IntKind.wrap Go.IntKind.i64 ((0 : Int) - (List.getD j (Int.toNat (Int.tmod i (((List.length j) : Nat) : Int))) (0 : Int))))))) * (Go.IntKind.wrap Go.IntKind.i64 ((List.getD (if ((wValid T M) = Bool.true) then (eL T M s (Go.IntKind.wrap Go.IntKind.i64 (s + (115200 : Int)))) else ([] : List Int)) (Int.toNat (Go.IntKind.wrap Go.IntKind.i64 (i + (1 : Int)))) (0 : Int)) - (List.getD (if ((wValid T M) = Bool.true) then (eL T M s (Go.IntKind.wrap Go.IntKind.i64 (s + (115200 : Int)))) else ([] : List Int)) (Int.toNat i) (0 : Int)))))))))
                                          (Bool.false = Bool.true)
                                          ((quiet_L1_I T M s m j d u e (Go.IntKind.wrap Go.IntKind.i64 (i + (1 : Int))) (o ++ [(Go.IntKind.wrap Go.IntKind.i64 ((List.getD (crT T M s m e) (Int.toNat i) (0 : Int)) + (List.getD j (Int.toNat (Int.tmod i (((List.length j) : Nat) : Int))) (0 : Int))))])) ∧ (((quiet_L1_m T M s m j d u e (Go.IntKind.wrap Go.IntKind.i64 (i + (1 : Int))) (o ++ [(Go.IntKind.wrap Go.IntKind.i64 ((List.getD (crT T M s m e) (Int.toNat i) (0 : Int)) + (List.getD j (Int.toNat (Int.tmod i (((List.length j) : Nat) : Int))) (0 : Int))))])) < (quiet_L1_m T M s m j d u e i o)) ∧ (((Go.IntKind.wrap Go.IntKind.i64 (i + (1 : Int))) = (Go.IntKind.wrap Go.IntKind.i64 (i + (1 : Int)))) ∧ (((((List.length (crT T M s m e)) : Nat) : Int) = (((List.length (crT T M s m e)) : Nat) : Int)) ∧ (True ∧ (True ∧ (((spc T M) = (spc T M)) ∧ (True ∧ (True ∧ (True ∧ ((Bool.false = Bool.false) ∧ (True ∧ (((T = T) ∧ (M = M)) ∧ (((s = s) ∧ True) ∧ ((True ∧ (True ∧ True)) ∧ ((m = m) ∧ ((j = j) ∧ ((d = d) ∧ ((u = u) ∧ (((crT T M s m e) = (crT T M s m e)) ∧ (((apL (crT T M s m e) j d u) = (apL (crT T M s m e) j d u)) ∧ (((if ((wValid T M) = Bool.true) then (eL T M s (Go.IntKind.wrap Go.IntKind.i64 (s + (115200 : Int)))) else ([] : List Int)) = (if ((wValid T M) = Bool.true) then (eL T M s (Go.IntKind.wrap Go.IntKind.i64 (s + (115200 : Int)))) else ([] : List Int))) ∧ (((o ++ [(Go.IntKind.wrap Go.IntKind.i64 ((List.getD (crT T M s m e) (Int.toNat i) (0 : Int)) + (List.getD j (Int.toNat (Int.tmod i (((List.length j) : Nat) : Int))) (0 : Int))))]) = (o ++ [(Go.IntKind.wrap Go.IntKind.i64 ((List.getD (crT T M s m e) (Int.toNat i) (0 : Int)) + (List.getD j (Int.toNat (Int.tmod i (((List.length j) : Nat) : Int))) (0 : Int))))])) ∧ True))))))))))))))))))))))))
                                        False)
                                      False)
                                    False)
                                  False)
                                False)
                              False))
                          False)
                        False)
                      False)
                    False)
                  False)
                False)
              False)
            False)
          False)
        (cnd (decide ((List.length (o ++ [(Go.IntKind.wrap Go.IntKind.i64 ((List.getD (crT T M s m e) (Int.toNat i) (0 : Int)) + (0 : Int)))])) ≤ 4294967296))
          (cnd (decide ((((List.length (apL (crT T M s m e) j d u)) : Nat) : Int) ≤ (1000000 : Int)))
            (cnd ((!(((!(hasV (Go.IntKind.wrap Go.IntKind.i64 ((List.getD (crT T M s m e) (Int.toNat i) (0 : Int)) + (0 : Int))) (apL (crT T M s m e) j d u))) == Bool.false) && ((decide ((0 : Int) < i)) == Bool.true))) || (decide ((0 : Int) ≤ i)))
              (cnd ((!(((!(hasV (Go.IntKind.wrap Go.IntKind.i64 ((List.getD (crT T M s m e) (Int.toNat i) (0 : Int)) + (0 : Int))) (apL (crT T M s m e) j d u))) == Bool.false) && ((decide ((0 : Int) < i)) == Bool.true))) || (decide (i < (((List.length (o ++ [(Go.IntKind.wrap Go.IntKind.i64 ((List.getD (crT T M s m e) (Int.toNat i) (0 : Int)) + (0 : Int)))])) : Nat) : Int))))
                (cnd ((!(((!(hasV (Go.IntKind.wrap Go.IntKind.i64 ((List.getD (crT T M s m e) (Int.toNat i) (0 : Int)) + (0 : Int))) (apL (crT T M s m e) j d u))) == Bool.false) && ((decide ((0 : Int) < i)) == Bool.true))) || (decide ((0 : Int) ≤ (Go.IntKind.wrap Go.IntKind.i64 (i - (1 : Int))))))
                  (cnd ((!(((!(hasV (Go.IntKind.wrap Go.IntKind.i64 ((List.getD (crT T M s m e) (Int.toNat i) (0 : Int)) + (0 : Int))) (apL (crT T M s m e) j d u))) == Bool.false) && ((decide ((0 : Int) < i)) == Bool.true))) || (decide ((Go.IntKind.wrap Go.IntKind.i64 (i - (1 : Int))) < (((List.length (o ++ [(Go.IntKind.wrap Go.IntKind.i64 ((List.getD (crT T M s m e) (Int.toNat i) (0 : Int)) + (0 : Int)))])) : Nat) : Int))))
                    (cnd ((!(hasV (Go.IntKind.wrap Go.IntKind.i64 ((List.getD (crT T M s m e) (Int.toNat i) (0 : Int)) + (0 : Int))) (apL (crT T M s m e) j d u))) || ((decide ((0 : Int) < i)) && (decide ((List.getD (o ++ [(Go.IntKind.wrap Go.IntKind.i64 ((List.getD (crT T M s m e) (Int.toNat i) (0 : Int)) + (0 : Int)))]) (Int.toNat i) (0 : Int)) ≤ (List.getD (o ++ [(Go.IntKind.wrap Go.IntKind.i64 ((List.getD (crT T M s m e) (Int.toNat i) (0 : Int)) + (0 : Int)))]) (Int.toNat (Go.IntKind.wrap Go.IntKind.i64 (i - (1 : Int)))) (0 : Int))))))
                      (Bool.false = Bool.true)
                      (cnd ((!((decide ((Go.IntKind.wrap Go.IntKind.i64 (i + (1 : Int))) < (((List.length (crT T M s m e)) : Nat) : Int))) == Bool.true)) || (decide ((0 : Int) ≤ (Go.IntKind.wrap Go.IntKind.i64 (i + (1 : Int))))))
                        (cnd ((!((decide ((Go.IntKind.wrap Go.IntKind.i64 (i + (1 : Int))) < (((List.length (crT T M s m e)) : Nat) : Int))) == Bool.true)) || (decide ((Go.IntKind.wrap Go.IntKind.i64 (i + (1 : Int))) < (((List.length (if ((wValid T M) = Bool.true) then (eL T M s (Go.IntKind.wrap Go.IntKind.i64 (s + (115200 : Int)))) else ([] : List Int))) : Nat) : Int))))
                          (cnd ((!((decide ((Go.IntKind.wrap Go.IntKind.i64 (i + (1 : Int))) < (((List.length (crT T M s m e)) : Nat) : Int))) == Bool.true)) || (decide ((0 : Int) ≤ i)))
                            (cnd ((!((decide ((Go.IntKind.wrap Go.IntKind.i64 (i + (1 : Int))) < (((List.length (crT T M s m e)) : Nat) : Int))) == Bool.true)) || (decide (i < (((List.length (if ((wValid T M) = Bool.true) then (eL T M s (Go.IntKind.wrap Go.IntKind.i64 (s + (115200 : Int)))) else ([] : List Int))) : Nat) : Int))))
                              (cnd ((!((decide ((Go.IntKind.wrap Go.IntKind.i64 (i + (1 : Int))) < (((List.length (crT T M s m e)) : Nat) : Int))) == Bool.true)) || (decide ((0 : Int) ≤ (Go.IntKind.wrap Go.IntKind.i64 (i + (1 : Int))))))
                                (cnd ((!((decide ((Go.IntKind.wrap Go.IntKind.i64 (i + (1 : Int))) < (((List.length (crT T M s m e)) : Nat) : Int))) == Bool.true)) || (decide ((Go.IntKind.wrap Go.IntKind.i64 (i + (1 : Int))) < (((List.length (crT T M s m e)) : Nat) : Int))))
                                  (cnd ((decide ((Go.IntKind.wrap Go.IntKind.i64 (i + (1 : Int))) < (((List.length (crT T M s m e)) : Nat) : Int))) && (decide ((Go.IntKind.wrap Go.IntKind.i64 ((Go.IntKind.wrap Go.IntKind.i64 ((List.getD (crT T M s m e) (Int.toNat (Go.IntKind.wrap Go.IntKind.i64 (i + (1 : Int)))) (0 : Int)) - (List.getD (crT T M s m e) (Int.toNat i) (0 : Int)))) * (spc T M))) < (Go.IntKind.wrap Go.IntKind.i64 ((Go.IntKind.wrap Go.IntKind.i64 ((64 : Int) * (gmax (0 : Int) (Go.IntKind.wrap Go.IntKind.i64 ((0 : Int) - (0 : Int)))))) * (Go.IntKind.wrap Go.IntKind.i64 ((List.getD (if ((wValid T M) = Bool.true) then (eL T M s (Go.IntKind.wrap Go.IntKind.i64 (s + (115200 : Int)))) else ([] : List Int)) (Int.toNat (Go.IntKind.wrap Go.IntKind.i64 (i + (1 : Int)))) (0 : Int)) - (List.getD (if ((wValid T M) = Bool.true) then (eL T M s (Go.IntKind.wrap Go.IntKind.i64 (s + (115200 : Int)))) else ([] : List Int)) (Int.toNat i) (0 : Int)))))))))
                                    (Bool.false = Bool.true)
                                    ((quiet_L1_I T M s m j d u e (Go.IntKind.wrap Go.IntKind.i64 (i + (1 : Int))) (o ++ [(Go.IntKind.wrap Go.IntKind.i64 ((List.getD (crT T M s m e) (Int.toNat i) (0 : Int)) + (0 : Int)))])) ∧ (((quiet_L1_m T M s m j d u e (Go.IntKind.wrap Go.IntKind.i64 (i + (1 : Int))) (o ++ [(Go.IntKind.wrap Go.IntKind.i64 ((List.getD (crT T M s m e) (Int.toNat i) (0 : Int)) + (0 : Int)))])) < (quiet_L1_m T M s m j d u e i o)) ∧ (((Go.IntKind.wrap Go.IntKind.i64 (i + (1 : Int))) = (Go.IntKind.wrap Go.IntKind.i64 (i + (1 : Int)))) ∧ (((((List.length (crT T M s m e)) : Nat) : Int) = (((List.length (crT T M s m e)) : Nat) : Int)) ∧ (True ∧ (True ∧ (((spc T M) = (spc T M)) ∧ (True ∧ (True ∧ (True ∧ ((Bool.false = Bool.false) ∧ (True ∧ (((T = T) ∧ (M = M)) ∧ (((s = s) ∧ True) ∧ ((True ∧ (True ∧ True)) ∧ ((m = m) ∧ ((j = j) ∧ ((d = d) ∧ ((u = u) ∧ (((crT T M s m e) = (crT T M s m e)) ∧ (((apL (crT T M s m e) j d u) = (apL (crT T M s m e) j d u)) ∧ (((if ((wValid T M) = Bool.true) then (eL T M s (Go.IntKind.wrap Go.IntKind.i64 (s + (115200 : Int)))) else ([] : List Int)) = (if ((wValid T M) = Bool.true) then (eL T M s (Go.IntKind.wrap Go.IntKind.i64 (s + (115200 : Int)))) else ([] : List Int))) ∧ (((o ++ [(Go.IntKind.wrap Go.IntKind.i64 ((List.getD (crT T M s m e) (Int.toNat i) (0 : Int)) + (0 : Int)))]) = (o ++ [(Go.IntKind.wrap Go.IntKind.i64 ((List.getD (crT T M s m e) (Int.toNat i) (0 : Int)) + (0 : Int)))])) ∧ True))))))))))))))))))))))))
                                  False)
                                False)
                              False)
                            False)
                          False)
                        False))
                    False)
                  False)
                False)
              False)
            False)
          False))
      False)
    False)
  (LoopP (ex Try.prog (conOf [awake_e, few_e, short_e, toler_e, Crank_e, apply_e, between_e, wspace_e, scontains_e, bsearch_e]) (subC (bodyOf Try.f12) [1, 1, 1, 1, 1, 1, 1, 1, 1, 1, 1, 1, 1, 1, 0, 1, 0, 0])) (kont Try.prog (conOf [awake_e, few_e, short_e, toler_e, Crank_e, apply_e, between_e, wspace_e, scontains_e, bsearch_e]) (bodyOf Try.f12) [1, 1, 1, 1, 1, 1, 1, 1, 1, 1, 1, 1, 1, 1, 0, 1, 0] (retPost Try.prog Try.f12 4 (quiet_res T M s m j d u e))) (quiet_L2_S1 T M s m j d u e i o)))
set_option maxRecDepth 100000 in
theorem quiet_L1_tree (T : Int) (M : Int) (s : Int) (m : List (List Int)) (j : List Int) (d : List Int) (u : List Int) (e : Int) (i : Int) (o : List Int) : quiet_L1_T T M s m j d u e i o = ex Try.prog (conOf [awake_e, few_e, short_e, toler_e, Crank_e, apply_e, between_e, wspace_e, scontains_e, bsearch_e]) (subC (bodyOf Try.f12) [1, 1, 1, 1, 1, 1, 1, 1, 1, 1, 1, 1, 1, 0, 1, 0, 0]) (nextE (quiet_L1_N T M s m j d u e i o) (kont Try.prog (conOf [awake_e, few_e, short_e, toler_e, Crank_e, apply_e, between_e, wspace_e, scontains_e, bsearch_e]) (bodyOf Try.f12) [1, 1, 1, 1, 1, 1, 1, 1, 1, 1, 1, 1, 1, 0, 1, 0] (retPost Try.prog Try.f12 4 (quiet_res T M s m j d u e)))) (quiet_L1_F T M s m j d u e i o) := by kernel_rfl
set_option maxRecDepth 100000 in
theorem quiet_L1_round (T : Int) (M : Int) (s : Int) (m : List (List Int)) (j : List Int) (d : List Int) (u : List Int) (e : Int) (i : Int) (o : List Int) (p0 : (wfI .i64 T) = true) (p1 : (wfI .i64 M) = true) (p2 : (wfI .i64 s) = true) (p3 : (wfR [.int .i64, .int .i64] m) = true) (p4 : (wfL .i64 j) = true) (p5 : (wfL .i64 d) = true) (p6 : (wfL .i64 u) = true) (p7 : (wfI .i64 e) = true) (p8 : (lenB m) = true) (p9 : (lenB j) = true) (p10 : (lenB d) = true) (p11 : (lenB u) = true) (hI_L1 : quiet_L1_I T M s m j d u e i o) : quiet_L1_T T M s m j d u e i o := by
  have hI1 := hI_L1
  obtain ⟨⟨hf, hE, hT, hA⟩, ⟨a1, a2⟩, a3⟩ := hI1
  obtain ⟨z, z1, z2, z3, z4, z5, z6⟩ := to_facts hE
  obtain ⟨t1, t2, t3, t4, t5⟩ := tb_facts hT
  obtain ⟨f1, f2, f3, f4, f5, f6, f7, f8, f9⟩ := cr_facts z hf
  obtain ⟨c1, c2, c3⟩ := cr_valid z hf
  obtain ⟨v1, v2, v3⟩ := vE_iff.1 c1
  obtain ⟨b0, b1, b2, b3⟩ := spc_bd f1
  obtain ⟨hP, hc, hk⟩ := quiet_facts z hf hT
  obtain ⟨q1, q2⟩ := eL_get (T := T) (M := M) (a := s) (b := posOf s m e) (b' := s + 115200) (by omega)
  subst t2
  have hAl := apL_len (l := crT T M s m e) (j := j) (d := []) (u := u)
  have holen : (o.length : Int) = i := by rw [a3, List.length_take, kpt_len0]; omega
  unfold quiet_L1_T
  rw [w64 (n := s + 115200) (by omega) (by omega), if_pos f1, w64 (n := i + 1) (by omega) (by omega), w64 (n := i - 1) (by omega) (by omega), show (i + 1).toNat = i.toNat + 1 by omega]
  by_cases hi : i < (crT T M s m e).length
  · have hii : ((i.toNat : Nat) : Int) = i := by omega
    have hJ := mvd_J z2 i
    have hJ2 := isJ_iff.1 hJ
    have x0 := isT_iff.1 (all_get v2 (j := i.toNat) (by omega))
    have hin0 := hasV_iff.2 ((apL_mem hA ((crT T M s m e).getD i.toNat 0 + mvd j i)).2 (.inl ⟨i.toNat, by omega, by simp [hasV, ixOf], by rw [hii]⟩))
    have hpv0 : 0 < i → o.getD (i - 1).toNat 0 < (crT T M s m e).getD i.toNat 0 + mvd j i := fun h => by
      have h1 := calm_gap hc (n := (i - 1).toNat) (by omega)
      have h2 := incr_get v3 (j := (i - 1).toNat) (by omega)
      have h3 : o.getD (i - 1).toNat 0 = mvT (crT T M s m e) j (i - 1).toNat := by
        rw [a3, List.getD_eq_getElem?_getD, List.getElem?_take, if_pos (by omega), ← List.getD_eq_getElem?_getD]
        exact kpt_mv (by omega)
      rw [h3]
      rw [show (i - 1).toNat + 1 = i.toNat by omega] at h1 h2
      have h4 : mvT (crT T M s m e) j i.toNat = (crT T M s m e).getD i.toNat 0 + mvd j i := by unfold mvT; rw [hii]
      omega
    have hnx : i + 1 < ((crT T M s m e).length : Int) → (spsL T M (crP T M s m e)).getD i.toNat 0 * spc T M = (eL T M s (posOf s m e)).getD (i.toNat + 1) 0 - (eL T M s (posOf s m e)).getD i.toNat 0 ∧ 0 ≤ (spsL T M (crP T M s m e)).getD i.toNat 0 * spc T M ∧ (spsL T M (crP T M s m e)).getD i.toNat 0 * spc T M ≤ 230400 ∧ (1 ≤ (crT T M s m e).getD (i.toNat + 1) 0 - (crT T M s m e).getD i.toNat 0 ∧ (crT T M s m e).getD (i.toNat + 1) 0 - (crT T M s m e).getD i.toNat 0 ≤ 1099511627776) ∧ 64 * aab (mvd j i) * (spsL T M (crP T M s m e)).getD i.toNat 0 ≤ (crT T M s m e).getD (i.toNat + 1) 0 - (crT T M s m e).getD i.toNat 0 := fun h => by
      obtain ⟨k1, k2, k3⟩ := hk i.toNat (by omega)
      obtain ⟨l1, l2, l3⟩ := hc i.toNat (by omega)
      rw [hii] at l2
      have x1 := isT_iff.1 (all_get v2 (j := i.toNat + 1) (by omega))
      have x2 := incr_get v3 (j := i.toNat) (by omega)
      have m0 := mul_bd (A := 120) (B := 1920) (show 0 ≤ (spsL T M (crP T M s m e)).getD i.toNat 0 by omega) k3 (show 0 ≤ spc T M by omega) b1
      exact ⟨k1, m0.1, by omega, by omega, l2⟩
    rw [decide_eq_true hi, decide_eq_true a1, decide_eq_true (show 0 ≤ i + 1 by omega)]
    by_cases hj : (0 : Int) < j.length
    · have h0 := Int.emod_nonneg i (show ((j.length : Nat) : Int) ≠ 0 by omega)
      have h1 := Int.emod_lt_of_pos i (show 0 < ((j.length : Nat) : Int) by omega)
      have hm : j.getD (i % ((j.length : Nat) : Int)).toNat 0 = mvd j i := by unfold mvd; rw [if_neg (by omega)]
      rw [decide_eq_true hj, tmod_pos a1, decide_eq_true (show ((j.length : Nat) : Int) ≠ 0 by omega), decide_eq_true h0, decide_eq_true h1, hm]
      have hin := hin0
      have hpv := hpv0
      have hol : (o ++ [(crT T M s m e).getD i.toNat 0 + mvd j i]).length = o.length + 1 := by simp
      have hoi : (o ++ [(crT T M s m e).getD i.toNat 0 + mvd j i]).getD i.toNat 0 = (crT T M s m e).getD i.toNat 0 + mvd j i := by
        rw [List.getD_eq_getElem?_getD, List.getElem?_append_right (by omega), show i.toNat - o.length = 0 by omega]
        rfl
      have hop : 0 < i → (o ++ [(crT T M s m e).getD i.toNat 0 + mvd j i]).getD (i - 1).toNat 0 = o.getD (i - 1).toNat 0 := fun h => by
        rw [List.getD_eq_getElem?_getD, List.getElem?_append_left (by omega), ← List.getD_eq_getElem?_getD]
      have hnew : o ++ [(crT T M s m e).getD i.toNat 0 + mvd j i] = (kpt j [] 0 (crT T M s m e)).take (i + 1).toNat := by
        rw [show (i + 1).toNat = i.toNat + 1 by omega, List.take_add_one, ← a3, List.getElem?_eq_getElem (by rw [kpt_len0]; omega)]
        congr 1
        have h9 := kpt_mv (j := j) (l := crT T M s m e) (n := i.toNat) (by omega)
        rw [List.getD_eq_getElem?_getD, List.getElem?_eq_getElem (by rw [kpt_len0]; omega)] at h9
        simp only [Option.getD_some] at h9
        rw [h9]
        unfold mvT
        rw [hii, (rfl : mvd j i = mvd j i)]
        rfl
      rw [w64 (n := (crT T M s m e).getD i.toNat 0 + mvd j i) (by omega) (by omega), hin, hoi, gm_abs hJ, decide_eq_true (show (o ++ [(crT T M s m e).getD i.toNat 0 + mvd j i]).length ≤ 4294967296 by omega), decide_eq_true (show (((apL (crT T M s m e) j [] u).length : Nat) : Int) ≤ 1000000 by omega), decide_eq_true (show i < (((o ++ [(crT T M s m e).getD i.toNat 0 + mvd j i]).length : Nat) : Int) by omega)]
      simp only [Bool.not_true, Bool.false_or, Bool.or_true, cnd]
      have hgo : quiet_L1_I T M s m j [] u e (i + 1) (o ++ [(crT T M s m e).getD i.toNat 0 + mvd j i]) := ⟨⟨hf, hE, hT, hA⟩, ⟨by omega, by omega⟩, hnew⟩
      have hmu : quiet_L1_m T M s m j [] u e (i + 1) (o ++ [(crT T M s m e).getD i.toNat 0 + mvd j i]) < quiet_L1_m T M s m j [] u e i o := by unfold quiet_L1_m; omega
      refine cnd_i (fun _ => ?_) (fun h => ?_)
      · refine cnd_i (fun _ => ?_) (fun h => ?_)
        · refine cnd_i (fun h => ?_) (fun _ => ?_)
          · simp only [Bool.and_eq_true, decide_eq_true_eq] at h
            rw [hop h.1] at h
            have := hpv h.1
            omega
          · by_cases h1 : i + 1 < ((crT T M s m e).length : Int)
            · obtain ⟨g1, g2, g3, g4, g5⟩ := hnx h1
              rw [q2 i.toNat (by omega), q2 (i.toNat + 1) (by omega), ← g1, decide_eq_true h1, decide_eq_true (show i + 1 < ((eL T M s (s + 115200)).length : Int) by omega), decide_eq_true (show i < ((eL T M s (s + 115200)).length : Int) by omega), w64 (n := (crT T M s m e).getD (i.toNat + 1) 0 - (crT T M s m e).getD i.toNat 0) (by omega) (by omega), w64 (n := (spsL T M (crP T M s m e)).getD i.toNat 0 * spc T M) (by omega) (by omega)]
              have g5' : 64 * aab (mvd j i) * ((spsL T M (crP T M s m e)).getD i.toNat 0 * spc T M) ≤ ((crT T M s m e).getD (i.toNat + 1) 0 - (crT T M s m e).getD i.toNat 0) * spc T M := by
                have := Int.mul_le_mul_of_nonneg_right (g5) (show 0 ≤ spc T M by omega)
                rw [Int.mul_assoc (64 * aab (mvd j i))] at this
                exact this
              have g6 := mul_bd (A := 1099511627776) (B := 1920) (show 0 ≤ (crT T M s m e).getD (i.toNat + 1) 0 - (crT T M s m e).getD i.toNat 0 by omega) (by omega) (show 0 ≤ spc T M by omega) b1
              have g7 : 0 ≤ 64 * aab (mvd j i) * ((spsL T M (crP T M s m e)).getD i.toNat 0 * spc T M) := Int.mul_nonneg (by have := (aab_le (mvd j i)).2.2; omega) (by omega)
              have g8 := aab_bd hJ
              rw [w64 (n := 64 * aab (mvd j i)) (by omega) (by omega), w64 (n := 64 * aab (mvd j i) * ((spsL T M (crP T M s m e)).getD i.toNat 0 * spc T M)) (by omega) (by omega), w64 (n := ((crT T M s m e).getD (i.toNat + 1) 0 - (crT T M s m e).getD i.toNat 0) * spc T M) (by omega) (by omega), decide_eq_false (show ¬ ((crT T M s m e).getD (i.toNat + 1) 0 - (crT T M s m e).getD i.toNat 0) * spc T M < 64 * aab (mvd j i) * ((spsL T M (crP T M s m e)).getD i.toNat 0 * spc T M) by omega)]
              exact ⟨hgo, hmu, by simp⟩
            · rw [decide_eq_false h1]
              exact ⟨hgo, hmu, by simp⟩
        · exfalso
          simp only [Bool.or_eq_false_iff, Bool.not_eq_false', Bool.and_eq_true, beq_iff_eq, decide_eq_true_eq, decide_eq_false_iff_not] at h
          omega
      · exfalso
        simp only [Bool.or_eq_false_iff, Bool.not_eq_false', Bool.and_eq_true, beq_iff_eq, decide_eq_true_eq, decide_eq_false_iff_not] at h
        omega
    · have hm0 : mvd j i = 0 := by unfold mvd; rw [if_pos (by omega)]
      rw [decide_eq_false hj]
      have hin := hin0
      have hpv := hpv0
      rw [hm0] at hin hpv
      have hol : (o ++ [(crT T M s m e).getD i.toNat 0 + 0]).length = o.length + 1 := by simp
      have hoi : (o ++ [(crT T M s m e).getD i.toNat 0 + 0]).getD i.toNat 0 = (crT T M s m e).getD i.toNat 0 + 0 := by
        rw [List.getD_eq_getElem?_getD, List.getElem?_append_right (by omega), show i.toNat - o.length = 0 by omega]
        rfl
      have hop : 0 < i → (o ++ [(crT T M s m e).getD i.toNat 0 + 0]).getD (i - 1).toNat 0 = o.getD (i - 1).toNat 0 := fun h => by
        rw [List.getD_eq_getElem?_getD, List.getElem?_append_left (by omega), ← List.getD_eq_getElem?_getD]
      have hnew : o ++ [(crT T M s m e).getD i.toNat 0 + 0] = (kpt j [] 0 (crT T M s m e)).take (i + 1).toNat := by
        rw [show (i + 1).toNat = i.toNat + 1 by omega, List.take_add_one, ← a3, List.getElem?_eq_getElem (by rw [kpt_len0]; omega)]
        congr 1
        have h9 := kpt_mv (j := j) (l := crT T M s m e) (n := i.toNat) (by omega)
        rw [List.getD_eq_getElem?_getD, List.getElem?_eq_getElem (by rw [kpt_len0]; omega)] at h9
        simp only [Option.getD_some] at h9
        rw [h9]
        unfold mvT
        rw [hii, hm0]
        rfl
      rw [w64 (n := (crT T M s m e).getD i.toNat 0 + 0) (by omega) (by omega), hin, hoi, gm_abs (show isJ 0 = true by rfl), decide_eq_true (show (o ++ [(crT T M s m e).getD i.toNat 0 + 0]).length ≤ 4294967296 by omega), decide_eq_true (show (((apL (crT T M s m e) j [] u).length : Nat) : Int) ≤ 1000000 by omega), decide_eq_true (show i < (((o ++ [(crT T M s m e).getD i.toNat 0 + 0]).length : Nat) : Int) by omega)]
      simp only [Bool.not_true, Bool.false_or, Bool.or_true, cnd]
      have hgo : quiet_L1_I T M s m j [] u e (i + 1) (o ++ [(crT T M s m e).getD i.toNat 0 + 0]) := ⟨⟨hf, hE, hT, hA⟩, ⟨by omega, by omega⟩, hnew⟩
      have hmu : quiet_L1_m T M s m j [] u e (i + 1) (o ++ [(crT T M s m e).getD i.toNat 0 + 0]) < quiet_L1_m T M s m j [] u e i o := by unfold quiet_L1_m; omega
      refine cnd_i (fun _ => ?_) (fun h => ?_)
      · refine cnd_i (fun _ => ?_) (fun h => ?_)
        · refine cnd_i (fun h => ?_) (fun _ => ?_)
          · simp only [Bool.and_eq_true, decide_eq_true_eq] at h
            rw [hop h.1] at h
            have := hpv h.1
            omega
          · by_cases h1 : i + 1 < ((crT T M s m e).length : Int)
            · obtain ⟨g1, g2, g3, g4, g5⟩ := hnx h1
              rw [q2 i.toNat (by omega), q2 (i.toNat + 1) (by omega), ← g1, decide_eq_true h1, decide_eq_true (show i + 1 < ((eL T M s (s + 115200)).length : Int) by omega), decide_eq_true (show i < ((eL T M s (s + 115200)).length : Int) by omega), w64 (n := (crT T M s m e).getD (i.toNat + 1) 0 - (crT T M s m e).getD i.toNat 0) (by omega) (by omega), w64 (n := (spsL T M (crP T M s m e)).getD i.toNat 0 * spc T M) (by omega) (by omega)]
              have g5' : 64 * aab (0) * ((spsL T M (crP T M s m e)).getD i.toNat 0 * spc T M) ≤ ((crT T M s m e).getD (i.toNat + 1) 0 - (crT T M s m e).getD i.toNat 0) * spc T M := by
                have := Int.mul_le_mul_of_nonneg_right ((by rw [hm0] at g5; exact g5)) (show 0 ≤ spc T M by omega)
                rw [Int.mul_assoc (64 * aab (0))] at this
                exact this
              have g6 := mul_bd (A := 1099511627776) (B := 1920) (show 0 ≤ (crT T M s m e).getD (i.toNat + 1) 0 - (crT T M s m e).getD i.toNat 0 by omega) (by omega) (show 0 ≤ spc T M by omega) b1
              have g7 : 0 ≤ 64 * aab (0) * ((spsL T M (crP T M s m e)).getD i.toNat 0 * spc T M) := Int.mul_nonneg (by have := (aab_le (0)).2.2; omega) (by omega)
              have g8 := aab_bd (show isJ 0 = true by rfl)
              rw [w64 (n := 64 * aab (0)) (by omega) (by omega), w64 (n := 64 * aab (0) * ((spsL T M (crP T M s m e)).getD i.toNat 0 * spc T M)) (by omega) (by omega), w64 (n := ((crT T M s m e).getD (i.toNat + 1) 0 - (crT T M s m e).getD i.toNat 0) * spc T M) (by omega) (by omega), decide_eq_false (show ¬ ((crT T M s m e).getD (i.toNat + 1) 0 - (crT T M s m e).getD i.toNat 0) * spc T M < 64 * aab (0) * ((spsL T M (crP T M s m e)).getD i.toNat 0 * spc T M) by omega)]
              exact ⟨hgo, hmu, by simp⟩
            · rw [decide_eq_false h1]
              exact ⟨hgo, hmu, by simp⟩
        · exfalso
          simp only [Bool.or_eq_false_iff, Bool.not_eq_false', Bool.and_eq_true, beq_iff_eq, decide_eq_true_eq, decide_eq_false_iff_not] at h
          omega
      · exfalso
        simp only [Bool.or_eq_false_iff, Bool.not_eq_false', Bool.and_eq_true, beq_iff_eq, decide_eq_true_eq, decide_eq_false_iff_not] at h
        omega
  · rw [decide_eq_false hi]
    exact quiet_L2_1 T M s m j [] u e i o p0 p1 p2 p3 p4 p5 p6 p7 p8 p9 p10 p11 hI_L1 ⟨⟨⟨by omega, by omega⟩, by omega⟩, by simp⟩
set_option maxRecDepth 100000 in
theorem quiet_L1_entry1 (T : Int) (M : Int) (s : Int) (m : List (List Int)) (j : List Int) (d : List Int) (u : List Int) (e : Int) : (((quiet_L1_I T M s m j d u e (0 : Int) ([] : List Int)) ∧ (((0 : Int) = (0 : Int)) ∧ (((((List.length (crT T M s m e)) : Nat) : Int) = (((List.length (crT T M s m e)) : Nat) : Int)) ∧ (True ∧ (True ∧ (((spc T M) = (spc T M)) ∧ (True ∧ (True ∧ (True ∧ ((Bool.false = Bool.false) ∧ (True ∧ (((T = T) ∧ (M = M)) ∧ (((s = s) ∧ True) ∧ ((True ∧ (True ∧ True)) ∧ ((m = m) ∧ ((j = j) ∧ ((d = d) ∧ ((u = u) ∧ (((crT T M s m e) = (crT T M s m e)) ∧ (((apL (crT T M s m e) j d u) = (apL (crT T M s m e) j d u)) ∧ (((if ((wValid T M) = Bool.true) then (eL T M s (Go.IntKind.wrap Go.IntKind.i64 (s + (115200 : Int)))) else ([] : List Int)) = (if ((wValid T M) = Bool.true) then (eL T M s (Go.IntKind.wrap Go.IntKind.i64 (s + (115200 : Int)))) else ([] : List Int))) ∧ ((([] : List Int) = ([] : List Int)) ∧ True))))))))))))))))))))))) = quiet_L1_E T M s m j d u e (quiet_L1_S1 T M s m j d u e) := by kernel_rfl
theorem quiet_L1_1 (T : Int) (M : Int) (s : Int) (m : List (List Int)) (j : List Int) (d : List Int) (u : List Int) (e : Int) (p0 : (wfI .i64 T) = true) (p1 : (wfI .i64 M) = true) (p2 : (wfI .i64 s) = true) (p3 : (wfR [.int .i64, .int .i64] m) = true) (p4 : (wfL .i64 j) = true) (p5 : (wfL .i64 d) = true) (p6 : (wfL .i64 u) = true) (p7 : (wfI .i64 e) = true) (p8 : (lenB m) = true) (p9 : (lenB j) = true) (p10 : (lenB d) = true) (p11 : (lenB u) = true) (h : ((quiet_L1_I T M s m j d u e (0 : Int) ([] : List Int)) ∧ (((0 : Int) = (0 : Int)) ∧ (((((List.length (crT T M s m e)) : Nat) : Int) = (((List.length (crT T M s m e)) : Nat) : Int)) ∧ (True ∧ (True ∧ (((spc T M) = (spc T M)) ∧ (True ∧ (True ∧ (True ∧ ((Bool.false = Bool.false) ∧ (True ∧ (((T = T) ∧ (M = M)) ∧ (((s = s) ∧ True) ∧ ((True ∧ (True ∧ True)) ∧ ((m = m) ∧ ((j = j) ∧ ((d = d) ∧ ((u = u) ∧ (((crT T M s m e) = (crT T M s m e)) ∧ (((apL (crT T M s m e) j d u) = (apL (crT T M s m e) j d u)) ∧ (((if ((wValid T M) = Bool.true) then (eL T M s (Go.IntKind.wrap Go.IntKind.i64 (s + (115200 : Int)))) else ([] : List Int)) = (if ((wValid T M) = Bool.true) then (eL T M s (Go.IntKind.wrap Go.IntKind.i64 (s + (115200 : Int)))) else ([] : List Int))) ∧ ((([] : List Int) = ([] : List Int)) ∧ True))))))))))))))))))))))) : LoopP (ex Try.prog (conOf [awake_e, few_e, short_e, toler_e, Crank_e, apply_e, between_e, wspace_e, scontains_e, bsearch_e]) (subC (bodyOf Try.f12) [1, 1, 1, 1, 1, 1, 1, 1, 1, 1, 1, 1, 1, 0, 1, 0, 0])) (kont Try.prog (conOf [awake_e, few_e, short_e, toler_e, Crank_e, apply_e, between_e, wspace_e, scontains_e, bsearch_e]) (bodyOf Try.f12) [1, 1, 1, 1, 1, 1, 1, 1, 1, 1, 1, 1, 1, 0, 1, 0] (retPost Try.prog Try.f12 4 (quiet_res T M s m j d u e))) (quiet_L1_S1 T M s m j d u e) := by
  have hE : quiet_L1_E T M s m j d u e (quiet_L1_S1 T M s m j d u e) := Eq.mp (quiet_L1_entry1 T M s m j d u e) h
  unfold quiet_L1_E at hE
  obtain ⟨i, hE⟩ := getI_of hE
  obtain ⟨o, hE⟩ := getR_of hE
  refine loop_of (α := (Int) × (List Int)) (fun xx_ => quiet_L1_F T M s m j d u e xx_.1 xx_.2) (fun xx_ => quiet_L1_I T M s m j d u e xx_.1 xx_.2) (fun xx_ => quiet_L1_m T M s m j d u e xx_.1 xx_.2) (fun xx_ => quiet_L1_N T M s m j d u e xx_.1 xx_.2) (fun xx_ => quiet_L1_T T M s m j d u e xx_.1 xx_.2) (fun xx_ s_ h => ?_) ⟨⟨i, o⟩, hE⟩ (fun xx_ => quiet_L1_tree T M s m j d u e xx_.1 xx_.2) (fun xx_ hI => quiet_L1_round T M s m j d u e xx_.1 xx_.2 p0 p1 p2 p3 p4 p5 p6 p7 p8 p9 p10 p11 hI)
  unfold quiet_L1_N at h
  obtain ⟨i, h⟩ := getI_of h
  obtain ⟨o, h⟩ := getR_of h
  exact ⟨⟨i, o⟩, h⟩
set_option maxRecDepth 100000 in
theorem quiet_tree (T : Int) (M : Int) (s : Int) (m : List (List Int)) (j : List Int) (d : List Int) (u : List Int) (e : Int) : ((cnd (decide ((((List.length m) : Nat) : Int) ≤ (9223372036854775807 : Int)))
  (cnd ((!((decide ((((List.length m) : Nat) : Int) ≤ (60 : Int))) && (fewB s m e))) || (!(shB j d u)))
    (Bool.true = Bool.true)
    (cnd (fewB s m e)
      (cnd ((!(decide ((toE T M s m j d u e) = (0 : Int)))) || (!(toB T M s m j d u e)))
        ((!(toB T M s m j d u e)) = Bool.true)
        (cnd (fewB s m e)
          (cnd (!(decide ((crE (wValid T M) s m e) = (0 : Int))))
            (Bool.false = Bool.true)
            (cnd (!(decide ((apE (crT T M s m e) j d u) = (0 : Int))))
              (cnd ((!(((((decide ((((List.length (crT T M s m e)) : Nat) : Int) < (2 : Int))) || (decide ((apE (crT T M s m e) j d u) = (5 : Int)))) == Bool.false) && ((decide ((apE (crT T M s m e) j d u) = (2 : Int))) == Bool.true)) && ((decide ((0 : Int) < (((List.length j) : Nat) : Int))) == Bool.true))) || (decide ((0 : Int) ≤ (0 : Int))))
                (cnd ((!(((((decide ((((List.length (crT T M s m e)) : Nat) : Int) < (2 : Int))) || (decide ((apE (crT T M s m e) j d u) = (5 : Int)))) == Bool.false) && ((decide ((apE (crT T M s m e) j d u) = (2 : Int))) == Bool.true)) && ((decide ((0 : Int) < (((List.length j) : Nat) : Int))) == Bool.true))) || (decide ((0 : Int) < (((List.length (crT T M s m e)) : Nat) : Int))))
                  (cnd ((!(((((decide ((((List.length (crT T M s m e)) : Nat) : Int) < (2 : Int))) || (decide ((apE (crT T M s m e) j d u) = (5 : Int)))) == Bool.false) && ((decide ((apE (crT T M s m e) j d u) = (2 : Int))) == Bool.true)) && ((decide ((0 : Int) < (((List.length j) : Nat) : Int))) == Bool.true))) || (decide ((0 : Int) ≤ (0 : Int))))
                    (cnd ((!(((((decide ((((List.length (crT T M s m e)) : Nat) : Int) < (2 : Int))) || (decide ((apE (crT T M s m e) j d u) = (5 : Int)))) == Bool.false) && ((decide ((apE (crT T M s m e) j d u) = (2 : Int))) == Bool.true)) && ((decide ((0 : Int) < (((List.length j) : Nat) : Int))) == Bool.true))) || (decide ((0 : Int) < (((List.length j) : Nat) : Int))))
                      (cnd ((!(((((decide ((((List.length (crT T M s m e)) : Nat) : Int) < (2 : Int))) || (decide ((apE (crT T M s m e) j d u) = (5 : Int)))) == Bool.false) && ((decide ((apE (crT T M s m e) j d u) = (2 : Int))) == Bool.true)) && (((decide ((0 : Int) < (((List.length j) : Nat) : Int))) && (decide ((Go.IntKind.wrap Go.IntKind.i64 ((List.getD (crT T M s m e) (Int.toNat (0 : Int)) (0 : Int)) + (List.getD j (Int.toNat (0 : Int)) (0 : Int)))) < (0 : Int)))) == Bool.false))) || (decide ((0 : Int) ≤ (Go.IntKind.wrap Go.IntKind.i64 ((((List.length (crT T M s m e)) : Nat) : Int) - (1 : Int))))))
                        (cnd ((!(((((decide ((((List.length (crT T M s m e)) : Nat) : Int) < (2 : Int))) || (decide ((apE (crT T M s m e) j d u) = (5 : Int)))) == Bool.false) && ((decide ((apE (crT T M s m e) j d u) = (2 : Int))) == Bool.true)) && (((decide ((0 : Int) < (((List.length j) : Nat) : Int))) && (decide ((Go.IntKind.wrap Go.IntKind.i64 ((List.getD (crT T M s m e) (Int.toNat (0 : Int)) (0 : Int)) + (List.getD j (Int.toNat (0 : Int)) (0 : Int)))) < (0 : Int)))) == Bool.false))) || (decide ((Go.IntKind.wrap Go.IntKind.i64 ((((List.length (crT T M s m e)) : Nat) : Int) - (1 : Int))) < (((List.length (crT T M s m e)) : Nat) : Int))))
                          ((((decide ((((List.length (crT T M s m e)) : Nat) : Int) < (2 : Int))) || (decide ((apE (crT T M s m e) j d u) = (5 : Int)))) || ((decide ((apE (crT T M s m e) j d u) = (2 : Int))) && (((decide ((0 : Int) < (((List.length j) : Nat) : Int))) && (decide ((Go.IntKind.wrap Go.IntKind.i64 ((List.getD (crT T M s m e) (Int.toNat (0 : Int)) (0 : Int)) + (List.getD j (Int.toNat (0 : Int)) (0 : Int)))) < (0 : Int)))) || (decide ((549755813888 : Int) < (List.getD (crT T M s m e) (Int.toNat (Go.IntKind.wrap Go.IntKind.i64 ((((List.length (crT T M s m e)) : Nat) : Int) - (1 : Int)))) (0 : Int))))))) = Bool.true)
                          False)
                        False)
                      False)
                    False)
                  False)
                False)
              (cnd ((isT s) && (isT (Go.IntKind.wrap Go.IntKind.i64 (s + (115200 : Int)))))
                (cnd (decide (s ≤ (Go.IntKind.wrap Go.IntKind.i64 (s + (115200 : Int)))))
                  (cnd (decide ((Go.IntKind.wrap Go.IntKind.i64 (s + (115200 : Int))) ≤ (s + (115200 : Int))))
                    (cnd ((!(decide ((if ((wValid T M) = Bool.true) then (0 : Int) else (1 : Int)) = (0 : Int)))) || (decide ((((List.length (if ((wValid T M) = Bool.true) then (eL T M s (Go.IntKind.wrap Go.IntKind.i64 (s + (115200 : Int)))) else ([] : List Int))) : Nat) : Int) < (((List.length (crT T M s m e)) : Nat) : Int))))
                      (Bool.false = Bool.true)
                      (LoopP (ex Try.prog (conOf [awake_e, few_e, short_e, toler_e, Crank_e, apply_e, between_e, wspace_e, scontains_e, bsearch_e]) (subC (bodyOf Try.f12) [1, 1, 1, 1, 1, 1, 1, 1, 1, 1, 1, 1, 1, 0, 1, 0, 0])) (kont Try.prog (conOf [awake_e, few_e, short_e, toler_e, Crank_e, apply_e, between_e, wspace_e, scontains_e, bsearch_e]) (bodyOf Try.f12) [1, 1, 1, 1, 1, 1, 1, 1, 1, 1, 1, 1, 1, 0, 1, 0] (retPost Try.prog Try.f12 4 (quiet_res T M s m j d u e))) (quiet_L1_S1 T M s m j d u e)))
                    False)
                  False)
                False)))
          False))
      False))
  False)) = EXD Try.prog (conOf [awake_e, few_e, short_e, toler_e, Crank_e, apply_e, between_e, wspace_e, scontains_e, bsearch_e]) Try.f12 [.agg [.int .i64 T, .int .i64 M], .agg [.int .i64 s, .row 0], .agg [.row 1, .row 2, .row 3], .cel (.int .i64 e)] [.recs [.int .i64, .int .i64] m, .ints .i64 j, .ints .i64 d, .ints .i64 u] [] (quiet_res T M s m j d u e) := by kernel_rfl
theorem quiet_holds (T : Int) (M : Int) (s : Int) (m : List (List Int)) (j : List Int) (d : List Int) (u : List Int) (e : Int) (p0 : (wfI .i64 T) = true) (p1 : (wfI .i64 M) = true) (p2 : (wfI .i64 s) = true) (p3 : (wfR [.int .i64, .int .i64] m) = true) (p4 : (wfL .i64 j) = true) (p5 : (wfL .i64 d) = true) (p6 : (wfL .i64 u) = true) (p7 : (wfI .i64 e) = true) (p8 : (lenB m) = true) (p9 : (lenB j) = true) (p10 : (lenB d) = true) (p11 : (lenB u) = true) : (cnd (decide ((((List.length m) : Nat) : Int) ≤ (9223372036854775807 : Int)))
  (cnd ((!((decide ((((List.length m) : Nat) : Int) ≤ (60 : Int))) && (fewB s m e))) || (!(shB j d u)))
    (Bool.true = Bool.true)
    (cnd (fewB s m e)
      (cnd ((!(decide ((toE T M s m j d u e) = (0 : Int)))) || (!(toB T M s m j d u e)))
        ((!(toB T M s m j d u e)) = Bool.true)
        (cnd (fewB s m e)
          (cnd (!(decide ((crE (wValid T M) s m e) = (0 : Int))))
            (Bool.false = Bool.true)
            (cnd (!(decide ((apE (crT T M s m e) j d u) = (0 : Int))))
              (cnd ((!(((((decide ((((List.length (crT T M s m e)) : Nat) : Int) < (2 : Int))) || (decide ((apE (crT T M s m e) j d u) = (5 : Int)))) == Bool.false) && ((decide ((apE (crT T M s m e) j d u) = (2 : Int))) == Bool.true)) && ((decide ((0 : Int) < (((List.length j) : Nat) : Int))) == Bool.true))) || (decide ((0 : Int) ≤ (0 : Int))))
                (cnd ((!(((((decide ((((List.length (crT T M s m e)) : Nat) : Int) < (2 : Int))) || (decide ((apE (crT T M s m e) j d u) = (5 : Int)))) == Bool.false) && ((decide ((apE (crT T M s m e) j d u) = (2 : Int))) == Bool.true)) && ((decide ((0 : Int) < (((List.length j) : Nat) : Int))) == Bool.true))) || (decide ((0 : Int) < (((List.length (crT T M s m e)) : Nat) : Int))))
                  (cnd ((!(((((decide ((((List.length (crT T M s m e)) : Nat) : Int) < (2 : Int))) || (decide ((apE (crT T M s m e) j d u) = (5 : Int)))) == Bool.false) && ((decide ((apE (crT T M s m e) j d u) = (2 : Int))) == Bool.true)) && ((decide ((0 : Int) < (((List.length j) : Nat) : Int))) == Bool.true))) || (decide ((0 : Int) ≤ (0 : Int))))
                    (cnd ((!(((((decide ((((List.length (crT T M s m e)) : Nat) : Int) < (2 : Int))) || (decide ((apE (crT T M s m e) j d u) = (5 : Int)))) == Bool.false) && ((decide ((apE (crT T M s m e) j d u) = (2 : Int))) == Bool.true)) && ((decide ((0 : Int) < (((List.length j) : Nat) : Int))) == Bool.true))) || (decide ((0 : Int) < (((List.length j) : Nat) : Int))))
                      (cnd ((!(((((decide ((((List.length (crT T M s m e)) : Nat) : Int) < (2 : Int))) || (decide ((apE (crT T M s m e) j d u) = (5 : Int)))) == Bool.false) && ((decide ((apE (crT T M s m e) j d u) = (2 : Int))) == Bool.true)) && (((decide ((0 : Int) < (((List.length j) : Nat) : Int))) && (decide ((Go.IntKind.wrap Go.IntKind.i64 ((List.getD (crT T M s m e) (Int.toNat (0 : Int)) (0 : Int)) + (List.getD j (Int.toNat (0 : Int)) (0 : Int)))) < (0 : Int)))) == Bool.false))) || (decide ((0 : Int) ≤ (Go.IntKind.wrap Go.IntKind.i64 ((((List.length (crT T M s m e)) : Nat) : Int) - (1 : Int))))))
                        (cnd ((!(((((decide ((((List.length (crT T M s m e)) : Nat) : Int) < (2 : Int))) || (decide ((apE (crT T M s m e) j d u) = (5 : Int)))) == Bool.false) && ((decide ((apE (crT T M s m e) j d u) = (2 : Int))) == Bool.true)) && (((decide ((0 : Int) < (((List.length j) : Nat) : Int))) && (decide ((Go.IntKind.wrap Go.IntKind.i64 ((List.getD (crT T M s m e) (Int.toNat (0 : Int)) (0 : Int)) + (List.getD j (Int.toNat (0 : Int)) (0 : Int)))) < (0 : Int)))) == Bool.false))) || (decide ((Go.IntKind.wrap Go.IntKind.i64 ((((List.length (crT T M s m e)) : Nat) : Int) - (1 : Int))) < (((List.length (crT T M s m e)) : Nat) : Int))))
                          ((((decide ((((List.length (crT T M s m e)) : Nat) : Int) < (2 : Int))) || (decide ((apE (crT T M s m e) j d u) = (5 : Int)))) || ((decide ((apE (crT T M s m e) j d u) = (2 : Int))) && (((decide ((0 : Int) < (((List.length j) : Nat) : Int))) && (decide ((Go.IntKind.wrap Go.IntKind.i64 ((List.getD (crT T M s m e) (Int.toNat (0 : Int)) (0 : Int)) + (List.getD j (Int.toNat (0 : Int)) (0 : Int)))) < (0 : Int)))) || (decide ((549755813888 : Int) < (List.getD (crT T M s m e) (Int.toNat (Go.IntKind.wrap Go.IntKind.i64 ((((List.length (crT T M s m e)) : Nat) : Int) - (1 : Int)))) (0 : Int))))))) = Bool.true)
                          False)
                        False)
                      False)
                    False)
                  False)
                False)
              (cnd ((isT s) && (isT (Go.IntKind.wrap Go.IntKind.i64 (s + (115200 : Int)))))
                (cnd (decide (s ≤ (Go.IntKind.wrap Go.IntKind.i64 (s + (115200 : Int)))))
                  (cnd (decide ((Go.IntKind.wrap Go.IntKind.i64 (s + (115200 : Int))) ≤ (s + (115200 : Int))))
                    (cnd ((!(decide ((if ((wValid T M) = Bool.true) then (0 : Int) else (1 : Int)) = (0 : Int)))) || (decide ((((List.length (if ((wValid T M) = Bool.true) then (eL T M s (Go.IntKind.wrap Go.IntKind.i64 (s + (115200 : Int)))) else ([] : List Int))) : Nat) : Int) < (((List.length (crT T M s m e)) : Nat) : Int))))
                      (Bool.false = Bool.true)
                      (LoopP (ex Try.prog (conOf [awake_e, few_e, short_e, toler_e, Crank_e, apply_e, between_e, wspace_e, scontains_e, bsearch_e]) (subC (bodyOf Try.f12) [1, 1, 1, 1, 1, 1, 1, 1, 1, 1, 1, 1, 1, 0, 1, 0, 0])) (kont Try.prog (conOf [awake_e, few_e, short_e, toler_e, Crank_e, apply_e, between_e, wspace_e, scontains_e, bsearch_e]) (bodyOf Try.f12) [1, 1, 1, 1, 1, 1, 1, 1, 1, 1, 1, 1, 1, 0, 1, 0] (retPost Try.prog Try.f12 4 (quiet_res T M s m j d u e))) (quiet_L1_S1 T M s m j d u e)))
                    False)
                  False)
                False)))
          False))
      False))
  False) := by
  have hl := lenB_iff.1 p8
  rw [decide_eq_true (show (m.length : Int) ≤ 9223372036854775807 by omega)]
  refine cnd_i (fun _ => ?_) (fun h => by cases h)
  refine cnd_i (fun _ => rfl) (fun h => ?_)
  have hf : fewB s m e = true := by
    cases hf : fewB s m e with
    | true => rfl
    | false => rw [hf] at h; simp at h
  refine cnd_i (fun _ => ?_) (fun h => by rw [hf] at h; cases h)
  refine cnd_i (fun h => ?_) (fun h => ?_)
  · by_cases hE : toE T M s m j d u e = 0
    · rw [decide_eq_true hE] at h
      simpa using h
    · unfold toB
      rw [decide_eq_false hE]
      rfl
  · simp only [Bool.or_eq_false_iff, Bool.not_eq_false', decide_eq_true_eq] at h
    obtain ⟨hE, hT⟩ := h
    obtain ⟨z, z1, z2, z3, z4, z5, z6⟩ := to_facts hE
    obtain ⟨t1, t2, t3, t4, t5⟩ := tb_facts hT
    obtain ⟨f1, f2, f3, f4, f5, f6, f7, f8, f9⟩ := cr_facts z hf
    obtain ⟨c1, c2, c3⟩ := cr_valid z hf
    obtain ⟨v1, v2, v3⟩ := vE_iff.1 c1
    obtain ⟨hP, hc, hk⟩ := quiet_facts z hf hT
    obtain ⟨q1, q2⟩ := eL_get (T := T) (M := M) (a := s) (b := posOf s m e) (b' := s + 115200) (by omega)
    have hw := w64 (n := s + 115200) (by omega) (by omega)
    refine cnd_i (fun _ => ?_) (fun h => by rw [hf] at h; cases h)
    refine cnd_i (fun h => by rw [z] at h; cases h) (fun _ => ?_)
    by_cases hA : apE (crT T M s m e) j d u = 0
    · refine cnd_i (fun h => by rw [hA] at h; cases h) (fun _ => ?_)
      refine cnd_i (fun _ => ?_) (fun h => by rw [hw, isT_iff.2 (show 0 ≤ s ∧ s ≤ 1099511627776 by omega), isT_iff.2 (show 0 ≤ s + 115200 ∧ s + 115200 ≤ 1099511627776 by omega)] at h; cases h)
      refine cnd_i (fun _ => ?_) (fun h => by rw [hw, decide_eq_true (show s ≤ s + 115200 by omega)] at h; cases h)
      refine cnd_i (fun _ => ?_) (fun h => by rw [hw, decide_eq_true (show s + 115200 ≤ s + 115200 by omega)] at h; cases h)
      refine cnd_i (fun h => ?_) (fun _ => ?_)
      · rw [hw, if_pos f1, if_pos f1, decide_eq_false (show ¬ ((eL T M s (s + 115200)).length : Int) < (crT T M s m e).length by omega)] at h
        cases h
      · exact quiet_L1_1 T M s m j d u e p0 p1 p2 p3 p4 p5 p6 p7 p8 p9 p10 p11 ⟨⟨⟨hf, hE, hT, hA⟩, ⟨by omega, by omega⟩, by simp⟩, by simp⟩
    · rw [decide_eq_false hA]
      rcases apE_or (j := j) (d := d) (u := u) c1 with h | h | h
      · exact absurd h hA
      · rw [h]
        by_cases hn : ((crT T M s m e).length : Int) < 2
        · rw [decide_eq_true hn]
          simp [cnd]
        · have hbad : badN (crT T M s m e) j d = false := by unfold badN; rw [z2, t2]; rfl
          have hraw := ap_is2 h c1 z1 hbad
          have hkp : (kpt j d 0 (crT T M s m e)).all isT = false := by
            unfold rawL at hraw
            rw [List.all_append, z3, Bool.and_true] at hraw
            exact hraw
          rw [List.all_eq_false] at hkp
          obtain ⟨x, hx, hxT⟩ := hkp
          obtain ⟨n, n1, n2, n3⟩ := (kpt_mem _ _ _).1 hx
          have hfar := out_far c1 hc (by omega) n1 (by
            unfold mvT
            rw [n3, Int.zero_add] at hxT
            simpa using hxT)
          have y0 := isT_iff.1 (all_get v2 (j := 0) (by omega))
          have y1 : -1099511627776 ≤ j.getD 0 0 ∧ j.getD 0 0 ≤ 1099511627776 := by
            by_cases hj : 0 < j.length
            · exact isJ_iff.1 (all_get z2 hj)
            · have : j = [] := List.eq_nil_of_length_eq_zero (by omega)
              rw [this]
              simp
          rw [decide_eq_false hn, w64 (n := ((crT T M s m e).length : Int) - 1) (by omega) (by omega), show (((crT T M s m e).length : Int) - 1).toNat = (crT T M s m e).length - 1 by omega, show Int.toNat 0 = 0 from rfl, w64 (n := (crT T M s m e).getD 0 0 + j.getD 0 0) (by omega) (by omega), decide_eq_true (show (0 : Int) < ((crT T M s m e).length : Int) by omega), decide_eq_true (show 0 ≤ ((crT T M s m e).length : Int) - 1 by omega), decide_eq_true (show ((crT T M s m e).length : Int) - 1 < ((crT T M s m e).length : Int) by omega)]
          by_cases hj : (0 : Int) < j.length
          · rw [decide_eq_true hj]
            rcases hfar with hfar | hfar
            · rw [decide_eq_true hfar.2]; simp [cnd]
            · rw [decide_eq_true hfar]; simp [cnd]
          · rw [decide_eq_false hj]
            rcases hfar with hfar | hfar
            · omega
            · rw [decide_eq_true hfar]; simp [cnd]
      · rw [h]
        simp [cnd]
set_option maxHeartbeats 2000000 in
theorem quiet_ok : SoundEnt Try.prog quiet_e := by
  refine ent_of_ex (Γ := (conOf [awake_e, few_e, short_e, toler_e, Crank_e, apply_e, between_e, wspace_e, scontains_e, bsearch_e])) (conOf_sound (scons awake_ok (scons few_ok (scons short_ok (scons toler_ok (scons Crank_ok (scons apply_ok (scons between_ok (scons wspace_ok (scons scontains_ok (scons bsearch_ok snil))))))))))) (by kernel_rfl) Try.func12 (by kernel_rfl) (by kernel_rfl) (fun args rows caps res h ho => ?_)
  change quiet_go args rows caps = some res at h
  unfold quiet_go at h
  split at h
  · simp only [Option.some.injEq] at h
    subst h
    rename_i q0_ q1_ q2_ q7_ q3_ q4_ q5_ q6_
    obtain ⟨p0, p1, p2, p3, p4, p5, p6, p7, p8, p9, p10, p11, _⟩ := ho
    exact EX.of (quiet_tree q0_ q1_ q2_ q3_ q4_ q5_ q6_ q7_) (quiet_holds q0_ q1_ q2_ q3_ q4_ q5_ q6_ q7_ p0 p1 p2 p3 p4 p5 p6 p7 p8 p9 p10 p11)
  · cases h
end Go.Proofs.Ythfliohfkhnpiaa

