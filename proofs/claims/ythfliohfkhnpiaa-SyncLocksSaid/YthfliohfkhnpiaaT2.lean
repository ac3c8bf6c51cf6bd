/- Tolerated noise of however many edges. -/
import Derived.Test.YthfliohfkhnpiaaT1
namespace Go.Proofs.Ythfliohfkhnpiaa
set_option linter.unusedVariables false
set_option linter.unusedSimpArgs false
open Go.RowKit

theorem cr_posG {T M s : Int} {m : List (List Int)} {e : Int} (h : crG T M s m e = 0) : vE (cpG T M s m e) = true ∧ (spsL T M (cpG T M s m e)).length = (ctG T M s m e).length - 1 ∧ (spsL T M (cpG T M s m e)).all (fun x => decide (0 ≤ x) && decide (x ≤ 120)) = true := by
  obtain ⟨f1, f2, f3, f4, f5, f6, f7, f8, f9⟩ := cr_factsG h
  obtain ⟨e1, e2, e3⟩ := eL_spec (b := posOf s m e) f1 f4.1
  obtain ⟨c1, c2, c3⟩ := cr_validG h
  obtain ⟨b0, b1, b2, b3⟩ := spc_bd f1
  have hP : cpG T M s m e = eL T M s (posOf s m e) := by unfold cpG; rw [if_pos h]
  have hv : vE (cpG T M s m e) = true := by
    rw [hP]
    refine vE_iff.2 ⟨by omega, ?_, incr_of (e2.imp fun h => by omega)⟩
    rw [List.all_eq_true]
    intro x hx
    have := e1 x hx
    exact isT_iff.2 (by omega)
  refine ⟨hv, by rw [spsL_len, c2, hP], ?_⟩
  obtain ⟨v1, v2, v3⟩ := vE_iff.1 hv
  rw [List.all_eq_true]
  intro x hx
  obtain ⟨n, hn, hx⟩ := List.getElem_of_mem hx
  have hn' := hn
  rw [spsL_len] at hn'
  have hg := spsL_get (T := T) (M := M) (P := cpG T M s m e) (j := n) (by omega)
  rw [List.getD_eq_getElem?_getD, List.getElem?_eq_getElem hn, Option.getD_some, hx] at hg
  have hd2 : (cpG T M s m e).getD n 0 ∈ eL T M s (posOf s m e) := by
    rw [hP] at hn' ⊢
    exact mem_getD (by omega)
  have hs : (cpG T M s m e).getD (n + 1) 0 = nxA T M ((cpG T M s m e).getD n 0) := by
    rw [hP]
    exact edg_step _ _ _ n (by rw [hP] at hn'; unfold eL at hn'; omega)
  obtain ⟨q1, q2, q3⟩ := e1 _ hd2
  obtain ⟨n1, n2, n3, n4, _⟩ := nx_bd f1 q3.1
  rw [← hs] at n1 n2
  rw [hg]
  have h0 : 0 ≤ ((cpG T M s m e).getD (n + 1) 0 - (cpG T M s m e).getD n 0) / spc T M := Int.ediv_nonneg (by omega) (by omega)
  have h1 : ((cpG T M s m e).getD (n + 1) 0 - (cpG T M s m e).getD n 0) / spc T M ≤ 120 := Int.ediv_le_of_le_mul (by omega) (by omega)
  rw [decide_eq_true h0, decide_eq_true h1]
  rfl
def toEG (T M s : Int) (m : List (List Int)) (j d u : List Int) (e : Int) : Int := if crG T M s m e = 0 then (if lngB j d u then 5 else if (j.any (fun x => !isJ x)) || (u.any (fun x => !isT x)) then 2 else 0) else crG T M s m e
def toBG (T M s : Int) (m : List (List Int)) (j d u : List Int) (e : Int) : Bool := decide (toEG T M s m j d u e = 0) && decide (d.length = 0) && calmB (ctG T M s m e) (spsL T M (cpG T M s m e)) j && u.all (sparP (ctG T M s m e) (spsL T M (cpG T M s m e)) j) && stdB (ctG T M s m e) m
def tolerG_res (T : Int) (M : Int) (s : Int) (m : List (List Int)) (j : List Int) (d : List Int) (u : List Int) (e : Int) : CRes := ⟨[], .tup [.cel (.bool (toBG T M s m j d u e)), .cel (.int .i64 (toEG T M s m j d u e))], []⟩
def tolerG_go : List TV → List RowA → List (List CV) → Option CRes := fun args rows caps =>
  match args, rows, caps with
  | [.agg [.int .i64 T, .int .i64 M], .agg [.int .i64 s, .row 0], .agg [.row 1, .row 2, .row 3], .cel (.int .i64 e)], [.recs [.int .i64, .int .i64] m, .ints .i64 j, .ints .i64 d, .ints .i64 u], [] => some (tolerG_res T M s m j d u e)
  | _, _, _ => none
def tolerG_e : Ent := ⟨14, [.recs [.int .i64, .int .i64] [], .ints .i64 [], .ints .i64 [], .ints .i64 []], tolerG_go⟩
set_option maxRecDepth 100000 in
theorem tolerG_tree (T : Int) (M : Int) (s : Int) (m : List (List Int)) (j : List Int) (d : List Int) (u : List Int) (e : Int) : ((cnd (!(decide ((crG T M s m e) = (0 : Int))))
  ((Bool.false = (toBG T M s m j d u e)) ∧ ((crG T M s m e) = (toEG T M s m j d u e)))
  (cnd (lngB j d u)
    ((Bool.false = (toBG T M s m j d u e)) ∧ ((5 : Int) = (toEG T M s m j d u e)))
    (cnd (decide ((((List.length j) : Nat) : Int) ≤ (1000000 : Int)))
      (cnd ((!((List.any j (fun x => (!(isJ x)))) == Bool.false)) || (decide ((((List.length u) : Nat) : Int) ≤ (1000000 : Int))))
        (cnd ((List.any j (fun x => (!(isJ x)))) || (List.any u (fun x => (!(isT x)))))
          ((Bool.false = (toBG T M s m j d u e)) ∧ ((2 : Int) = (toEG T M s m j d u e)))
          (cnd (wValid T M)
            (cnd (vE (cpG T M s m e))
              (cnd ((!((decide ((((List.length d) : Nat) : Int) = (0 : Int))) == Bool.true)) || (vE (ctG T M s m e)))
                (cnd ((!((decide ((((List.length d) : Nat) : Int) = (0 : Int))) == Bool.true)) || (decide ((List.length (spsL T M (cpG T M s m e))) = ((List.length (ctG T M s m e)) - 1))))
                  (cnd ((!((decide ((((List.length d) : Nat) : Int) = (0 : Int))) == Bool.true)) || (List.all (spsL T M (cpG T M s m e)) (fun x => ((decide ((0 : Int) ≤ x)) && (decide (x ≤ (120 : Int)))))))
                    (cnd ((!((decide ((((List.length d) : Nat) : Int) = (0 : Int))) == Bool.true)) || (List.all j isJ))
                      (cnd ((!(((decide ((((List.length d) : Nat) : Int) = (0 : Int))) && (calmB (ctG T M s m e) (spsL T M (cpG T M s m e)) j)) == Bool.true)) || (vE (ctG T M s m e)))
                        (cnd ((!(((decide ((((List.length d) : Nat) : Int) = (0 : Int))) && (calmB (ctG T M s m e) (spsL T M (cpG T M s m e)) j)) == Bool.true)) || (decide ((List.length (spsL T M (cpG T M s m e))) = ((List.length (ctG T M s m e)) - 1))))
                          (cnd ((!(((decide ((((List.length d) : Nat) : Int) = (0 : Int))) && (calmB (ctG T M s m e) (spsL T M (cpG T M s m e)) j)) == Bool.true)) || (List.all (spsL T M (cpG T M s m e)) (fun x => ((decide ((0 : Int) ≤ x)) && (decide (x ≤ (120 : Int)))))))
                            (cnd ((!(((decide ((((List.length d) : Nat) : Int) = (0 : Int))) && (calmB (ctG T M s m e) (spsL T M (cpG T M s m e)) j)) == Bool.true)) || (List.all j isJ))
                              (cnd ((!(((decide ((((List.length d) : Nat) : Int) = (0 : Int))) && (calmB (ctG T M s m e) (spsL T M (cpG T M s m e)) j)) == Bool.true)) || (List.all u isT))
                                (cnd ((!(((decide ((((List.length d) : Nat) : Int) = (0 : Int))) && (calmB (ctG T M s m e) (spsL T M (cpG T M s m e)) j)) == Bool.true)) || (decide ((List.length u) ≤ 1000)))
                                  (cnd ((!((((decide ((((List.length d) : Nat) : Int) = (0 : Int))) && (calmB (ctG T M s m e) (spsL T M (cpG T M s m e)) j)) && (List.all u (sparP (ctG T M s m e) (spsL T M (cpG T M s m e)) j))) == Bool.true)) || (vE (ctG T M s m e)))
                                    (cnd ((!((((decide ((((List.length d) : Nat) : Int) = (0 : Int))) && (calmB (ctG T M s m e) (spsL T M (cpG T M s m e)) j)) && (List.all u (sparP (ctG T M s m e) (spsL T M (cpG T M s m e)) j))) == Bool.true)) || (mValid s m))
                                      ((((((decide ((((List.length d) : Nat) : Int) = (0 : Int))) && (calmB (ctG T M s m e) (spsL T M (cpG T M s m e)) j)) && (List.all u (sparP (ctG T M s m e) (spsL T M (cpG T M s m e)) j))) && (stdB (ctG T M s m e) m)) = (toBG T M s m j d u e)) ∧ ((0 : Int) = (toEG T M s m j d u e)))
                                      False)
                                    False)
                                  False)
                                False)
                              False)
                            False)
                          False)
                        False)
                      False)
                    False)
                  False)
                False)
              False)
            False))
        False)
      False)))) = EXD Try.prog (conOf [crankG_e, long_e, shaky_e, tol1_cfn_e, spaces_e, calm_e, spared_e, steady_e]) Try.f14 [.agg [.int .i64 T, .int .i64 M], .agg [.int .i64 s, .row 0], .agg [.row 1, .row 2, .row 3], .cel (.int .i64 e)] [.recs [.int .i64, .int .i64] m, .ints .i64 j, .ints .i64 d, .ints .i64 u] [] (tolerG_res T M s m j d u e) := by kernel_rfl
theorem tolerG_holds (T : Int) (M : Int) (s : Int) (m : List (List Int)) (j : List Int) (d : List Int) (u : List Int) (e : Int)  : (cnd (!(decide ((crG T M s m e) = (0 : Int))))
  ((Bool.false = (toBG T M s m j d u e)) ∧ ((crG T M s m e) = (toEG T M s m j d u e)))
  (cnd (lngB j d u)
    ((Bool.false = (toBG T M s m j d u e)) ∧ ((5 : Int) = (toEG T M s m j d u e)))
    (cnd (decide ((((List.length j) : Nat) : Int) ≤ (1000000 : Int)))
      (cnd ((!((List.any j (fun x => (!(isJ x)))) == Bool.false)) || (decide ((((List.length u) : Nat) : Int) ≤ (1000000 : Int))))
        (cnd ((List.any j (fun x => (!(isJ x)))) || (List.any u (fun x => (!(isT x)))))
          ((Bool.false = (toBG T M s m j d u e)) ∧ ((2 : Int) = (toEG T M s m j d u e)))
          (cnd (wValid T M)
            (cnd (vE (cpG T M s m e))
              (cnd ((!((decide ((((List.length d) : Nat) : Int) = (0 : Int))) == Bool.true)) || (vE (ctG T M s m e)))
                (cnd ((!((decide ((((List.length d) : Nat) : Int) = (0 : Int))) == Bool.true)) || (decide ((List.length (spsL T M (cpG T M s m e))) = ((List.length (ctG T M s m e)) - 1))))
                  (cnd ((!((decide ((((List.length d) : Nat) : Int) = (0 : Int))) == Bool.true)) || (List.all (spsL T M (cpG T M s m e)) (fun x => ((decide ((0 : Int) ≤ x)) && (decide (x ≤ (120 : Int)))))))
                    (cnd ((!((decide ((((List.length d) : Nat) : Int) = (0 : Int))) == Bool.true)) || (List.all j isJ))
                      (cnd ((!(((decide ((((List.length d) : Nat) : Int) = (0 : Int))) && (calmB (ctG T M s m e) (spsL T M (cpG T M s m e)) j)) == Bool.true)) || (vE (ctG T M s m e)))
                        (cnd ((!(((decide ((((List.length d) : Nat) : Int) = (0 : Int))) && (calmB (ctG T M s m e) (spsL T M (cpG T M s m e)) j)) == Bool.true)) || (decide ((List.length (spsL T M (cpG T M s m e))) = ((List.length (ctG T M s m e)) - 1))))
                          (cnd ((!(((decide ((((List.length d) : Nat) : Int) = (0 : Int))) && (calmB (ctG T M s m e) (spsL T M (cpG T M s m e)) j)) == Bool.true)) || (List.all (spsL T M (cpG T M s m e)) (fun x => ((decide ((0 : Int) ≤ x)) && (decide (x ≤ (120 : Int)))))))
                            (cnd ((!(((decide ((((List.length d) : Nat) : Int) = (0 : Int))) && (calmB (ctG T M s m e) (spsL T M (cpG T M s m e)) j)) == Bool.true)) || (List.all j isJ))
                              (cnd ((!(((decide ((((List.length d) : Nat) : Int) = (0 : Int))) && (calmB (ctG T M s m e) (spsL T M (cpG T M s m e)) j)) == Bool.true)) || (List.all u isT))
                                (cnd ((!(((decide ((((List.length d) : Nat) : Int) = (0 : Int))) && (calmB (ctG T M s m e) (spsL T M (cpG T M s m e)) j)) == Bool.true)) || (decide ((List.length u) ≤ 1000)))
                                  (cnd ((!((((decide ((((List.length d) : Nat) : Int) = (0 : Int))) && (calmB (ctG T M s m e) (spsL T M (cpG T M s m e)) j)) && (List.all u (sparP (ctG T M s m e) (spsL T M (cpG T M s m e)) j))) == Bool.true)) || (vE (ctG T M s m e)))
                                    (cnd ((!((((decide ((((List.length d) : Nat) : Int) = (0 : Int))) && (calmB (ctG T M s m e) (spsL T M (cpG T M s m e)) j)) && (List.all u (sparP (ctG T M s m e) (spsL T M (cpG T M s m e)) j))) == Bool.true)) || (mValid s m))
                                      ((((((decide ((((List.length d) : Nat) : Int) = (0 : Int))) && (calmB (ctG T M s m e) (spsL T M (cpG T M s m e)) j)) && (List.all u (sparP (ctG T M s m e) (spsL T M (cpG T M s m e)) j))) && (stdB (ctG T M s m e) m)) = (toBG T M s m j d u e)) ∧ ((0 : Int) = (toEG T M s m j d u e)))
                                      False)
                                    False)
                                  False)
                                False)
                              False)
                            False)
                          False)
                        False)
                      False)
                    False)
                  False)
                False)
              False)
            False))
        False)
      False))) := by
  by_cases hz : crG T M s m e = 0
  · obtain ⟨f1, f2, f3, f4, f5, f6, f7, f8, f9⟩ := cr_factsG hz
    obtain ⟨c1, c2, c3⟩ := cr_validG hz
    obtain ⟨d1, d2, d3⟩ := cr_posG hz
    rw [decide_eq_true hz]
    cases hl : lngB j d u with
    | true =>
      have hE : toEG T M s m j d u e = 5 := by unfold toEG; rw [if_pos hz, hl]; rfl
      refine ⟨?_, hE.symm⟩
      unfold toBG
      rw [hE]
      simp
    | false =>
      have hlen : j.length ≤ 1000 ∧ d.length ≤ 1000 ∧ u.length ≤ 1000 := by
        unfold lngB at hl
        simp only [Bool.or_eq_false_iff, decide_eq_false_iff_not] at hl
        omega
      rw [decide_eq_true (show (j.length : Int) ≤ 1000000 by omega), decide_eq_true (show (u.length : Int) ≤ 1000000 by omega), f1, d1, c1, decide_eq_true d2, d3, f2, decide_eq_true hlen.2.2, any_not, any_not]
      cases hj : j.all isJ with
      | false =>
        have hE : toEG T M s m j d u e = 2 := by unfold toEG; rw [if_pos hz, hl, any_not, hj]; rfl
        refine ⟨?_, hE.symm⟩
        unfold toBG
        rw [hE]
        simp
      | true =>
        cases hu : u.all isT with
        | false =>
          have hE : toEG T M s m j d u e = 2 := by unfold toEG; rw [if_pos hz, hl, any_not, any_not, hj, hu]; rfl
          refine ⟨?_, hE.symm⟩
          unfold toBG
          rw [hE]
          simp
        | true =>
          have hE : toEG T M s m j d u e = 0 := by unfold toEG; rw [if_pos hz, hl, any_not, any_not, hj, hu]; rfl
          have hd : decide (((d.length : Nat) : Int) = 0) = decide (d.length = 0) := by rw [decide_eq_decide]; omega
          simp only [Bool.or_true, cnd, Bool.not_true, Bool.or_self]
          refine ⟨?_, hE.symm⟩
          unfold toBG
          rw [hE, hd]
          simp
  · have hE : toEG T M s m j d u e = crG T M s m e := by unfold toEG; rw [if_neg hz]
    rw [decide_eq_false hz]
    refine ⟨?_, hE.symm⟩
    unfold toBG
    rw [hE, decide_eq_false hz]
    rfl
set_option maxHeartbeats 2000000 in
theorem tolerG_ok : SoundEnt Try.prog tolerG_e := by
  refine ent_of_ex (Γ := (conOf [crankG_e, long_e, shaky_e, tol1_cfn_e, spaces_e, calm_e, spared_e, steady_e])) (conOf_sound (scons crankG_ok (scons long_ok (scons shaky_ok (scons tol1_cfn_ok (scons spaces_ok (scons calm_ok (scons spared_ok (scons steady_ok snil))))))))) (by kernel_rfl) Try.func14 (by kernel_rfl) (by kernel_rfl) (fun args rows caps res h ho => ?_)
  change tolerG_go args rows caps = some res at h
  unfold tolerG_go at h
  split at h
  · simp only [Option.some.injEq] at h
    subst h
    rename_i q0_ q1_ q2_ q7_ q3_ q4_ q5_ q6_
    skip
    exact EX.of (tolerG_tree q0_ q1_ q2_ q3_ q4_ q5_ q6_ q7_) (tolerG_holds q0_ q1_ q2_ q3_ q4_ q5_ q6_ q7_)
  · cases h
theorem to_factsG {T M s : Int} {m : List (List Int)} {j d u : List Int} {e : Int} (h : toEG T M s m j d u e = 0) : crG T M s m e = 0 ∧ lngB j d u = false ∧ j.all isJ = true ∧ u.all isT = true ∧ j.length ≤ 1000 ∧ d.length ≤ 1000 ∧ u.length ≤ 1000 := by
  unfold toEG at h
  split at h
  · rename_i hz
    rw [any_not, any_not] at h
    cases hl : lngB j d u with
    | true => rw [hl] at h; simp at h
    | false =>
      have hlen : j.length ≤ 1000 ∧ d.length ≤ 1000 ∧ u.length ≤ 1000 := by
        unfold lngB at hl
        simp only [Bool.or_eq_false_iff, decide_eq_false_iff_not] at hl
        omega
      rw [hl] at h
      cases hj : j.all isJ with
      | false => rw [hj] at h; simp at h
      | true =>
        cases hu : u.all isT with
        | false => rw [hj, hu] at h; simp at h
        | true => exact ⟨hz, rfl, rfl, rfl, hlen⟩
  · rename_i hz
    exact absurd h hz
theorem tb_factsG {T M s : Int} {m : List (List Int)} {j d u : List Int} {e : Int} (h : toBG T M s m j d u e = true) : toEG T M s m j d u e = 0 ∧ d = [] ∧ calmB (ctG T M s m e) (spsL T M (cpG T M s m e)) j = true ∧ u.all (sparP (ctG T M s m e) (spsL T M (cpG T M s m e)) j) = true ∧ stdB (ctG T M s m e) m = true := by
  unfold toBG at h
  simp only [Bool.and_eq_true, decide_eq_true_eq] at h
  obtain ⟨⟨⟨⟨h1, h2⟩, h3⟩, h4⟩, h5⟩ := h
  exact ⟨h1, List.eq_nil_of_length_eq_zero h2, h3, h4, h5⟩
theorem quiet_factsG {T M s : Int} {m : List (List Int)} {j d u : List Int} {e : Int} (z : crG T M s m e = 0) (hT : toBG T M s m j d u e = true) :
    cpG T M s m e = eL T M s (posOf s m e) ∧ calmF (ctG T M s m e) (spsL T M (cpG T M s m e)) j ∧ ∀ n, n + 1 < (ctG T M s m e).length → (spsL T M (cpG T M s m e)).getD n 0 * spc T M = (eL T M s (posOf s m e)).getD (n + 1) 0 - (eL T M s (posOf s m e)).getD n 0 ∧ 1 ≤ (spsL T M (cpG T M s m e)).getD n 0 ∧ (spsL T M (cpG T M s m e)).getD n 0 ≤ 120 := by
  obtain ⟨t1, t2, t3, t4, t5⟩ := tb_factsG hT
  obtain ⟨f1, f2, f3, f4, f5, f6, f7, f8, f9⟩ := cr_factsG z
  obtain ⟨c1, c2, c3⟩ := cr_validG z
  obtain ⟨d1, d2, d3⟩ := cr_posG z
  have hP : cpG T M s m e = eL T M s (posOf s m e) := by unfold cpG; rw [if_pos z]
  have hk : ∀ n, n + 1 < (ctG T M s m e).length → (spsL T M (cpG T M s m e)).getD n 0 * spc T M = (eL T M s (posOf s m e)).getD (n + 1) 0 - (eL T M s (posOf s m e)).getD n 0 ∧ 1 ≤ (spsL T M (cpG T M s m e)).getD n 0 ∧ (spsL T M (cpG T M s m e)).getD n 0 ≤ 120 := fun n hn => by
    have h1 := k_step (b := posOf s m e) f1 f4.1 (n := n) (by omega)
    have h2 := k_bd d3 (j := n) (by omega)
    rw [hP] at h2 ⊢
    exact ⟨h1.1, h1.2, h2.2⟩
  exact ⟨hP, calm_of t3 d2 (fun n hn => (hk n hn).2.1), hk⟩
/-- Two neighboring spaces of a steady motion. -/
theorem sp_factsG {T M s : Int} {m : List (List Int)} {e : Int} (z : crG T M s m e = 0) (hs : stdB (ctG T M s m e) m = true) {n : Nat} (hn : n + 2 < (ctG T M s m e).length) :
    ∃ lo hi S : Int, 0 < lo ∧ 0 ≤ hi ∧ 16 * hi ≤ 17 * lo ∧ 0 < S ∧
      lo * ((ctG T M s m e).getD (n + 1) 0 - (ctG T M s m e).getD n 0 - 1) ≤ (spsL T M (cpG T M s m e)).getD n 0 * S ∧
      (spsL T M (cpG T M s m e)).getD n 0 * S ≤ hi * ((ctG T M s m e).getD (n + 1) 0 - (ctG T M s m e).getD n 0 + 1) ∧
      lo * ((ctG T M s m e).getD (n + 2) 0 - (ctG T M s m e).getD (n + 1) 0 - 1) ≤ (spsL T M (cpG T M s m e)).getD (n + 1) 0 * S ∧
      (spsL T M (cpG T M s m e)).getD (n + 1) 0 * S ≤ hi * ((ctG T M s m e).getD (n + 2) 0 - (ctG T M s m e).getD (n + 1) 0 + 1) := by
  obtain ⟨f1, f2, f3, f4, f5, f6, f7, f8, f9⟩ := cr_factsG z
  obtain ⟨c1, c2, c3⟩ := cr_validG z
  obtain ⟨d1, d2, d3⟩ := cr_posG z
  obtain ⟨v1, v2, v3⟩ := vE_iff.1 c1
  obtain ⟨b0, b1, b2, b3⟩ := spc_bd f1
  have hV := (mV_iff.1 f2).2.2
  have hP : cpG T M s m e = eL T M s (posOf s m e) := by unfold cpG; rw [if_pos z]
  obtain ⟨e1, e2, e3⟩ := eL_spec (b := posOf s m e) f1 f4.1
  -- the times
  have hT : ∀ i, i < (ctG T M s m e).length → (cpG T M s m e).getD i 0 ∈ eL T M s (posOf s m e) ∧ (ctG T M s m e).getD i 0 = (tmOf s m ((cpG T M s m e).getD i 0)).1 := by
    intro i hi
    have hi2 : i < (cpG T M s m e).length := by rw [hP]; omega
    refine ⟨by rw [← hP]; exact mem_getD hi2, ?_⟩
    unfold ctG
    rw [List.getD_eq_getElem?_getD, List.getElem?_map, List.getD_eq_getElem?_getD, List.getElem?_eq_getElem hi2]
    rfl
  have hW : ∀ i, i < (ctG T M s m e).length → 1 ≤ (ctG T M s m e).getD i 0 ∧ (ctG T M s m e).getD i 0 ≤ e ∧ ((cpG T M s m e).getD i 0 - s) * 65536 ≤ way ((ctG T M s m e).getD i 0) m ∧ way ((ctG T M s m e).getD i 0 - 1) m < ((cpG T M s m e).getD i 0 - s) * 65536 ∧ (cpG T M s m e).getD i 0 % spc T M = 0 := by
    intro i hi
    obtain ⟨q1, q2⟩ := hT i hi
    obtain ⟨g1, g2, g3, g4, g5, g6, g7⟩ := cr_timeG z q1
    rw [pos_at g3] at g5
    rw [pos_at g4] at g6
    rw [q2]
    refine ⟨g1, g2, by omega, by omega, isE_mod f1 (e1 _ q1).2.2⟩
  obtain ⟨x1, x2, x3, x4, x5⟩ := hW n (by omega)
  obtain ⟨y1, y2, y3, y4, y5⟩ := hW (n + 1) (by omega)
  obtain ⟨w1, w2, w3, w4, w5⟩ := hW (n + 2) (by omega)
  have l0 := incr_get (j := n) v3 (by omega)
  have l1 : (ctG T M s m e).getD (n + 1) 0 < (ctG T M s m e).getD (n + 2) 0 := incr_get (j := n + 1) v3 (by omega)
  have k0 := spsL_get (T := T) (M := M) (P := cpG T M s m e) (j := n) (by rw [hP]; omega)
  have k1 := spsL_get (T := T) (M := M) (P := cpG T M s m e) (j := n + 1) (by rw [hP]; omega)
  have kk0 : (spsL T M (cpG T M s m e)).getD n 0 * spc T M = (cpG T M s m e).getD (n + 1) 0 - (cpG T M s m e).getD n 0 := by
    rw [k0]
    exact Int.ediv_mul_cancel (Int.dvd_sub (Int.dvd_of_emod_eq_zero y5) (Int.dvd_of_emod_eq_zero x5))
  have kk1 : (spsL T M (cpG T M s m e)).getD (n + 1) 0 * spc T M = (cpG T M s m e).getD (n + 2) 0 - (cpG T M s m e).getD (n + 1) 0 := by
    rw [k1]
    exact Int.ediv_mul_cancel (Int.dvd_sub (Int.dvd_of_emod_eq_zero w5) (Int.dvd_of_emod_eq_zero y5))
  have hst := allB_iff.1 hs (n + 1) (by omega)
  unfold stdP at hst
  rw [decide_eq_false (show ¬ n + 1 = 0 by omega), Bool.false_or, show n + 1 - 1 = n by omega, show n + 1 + 1 = n + 2 by omega] at hst
  simp only [Bool.and_eq_true, Bool.not_eq_true', decide_eq_false_iff_not, decide_eq_true_eq] at hst
  obtain ⟨⟨p1, p2⟩, p3, p4⟩ := lg_bd (s := s) (m := m) (a := max 0 ((ctG T M s m e).getD n 0 - 1)) (b := (ctG T M s m e).getD (n + 2) 0) f2 (by omega) (by omega)
  rw [show max 0 ((ctG T M s m e).getD n 0 - 1) = (ctG T M s m e).getD n 0 - 1 by omega] at hst p1 p2 p3 p4
  have hm : ∀ x ∈ nts 0 m ((ctG T M s m e).getD n 0 - 1) ((ctG T M s m e).getD (n + 2) 0), lsI m ((ctG T M s m e).getD n 0 - 1) ((ctG T M s m e).getD (n + 2) 0) ≤ x ∧ x ≤ grI m ((ctG T M s m e).getD n 0 - 1) ((ctG T M s m e).getD (n + 2) 0) := fun x hx => ⟨lst_mem _ _ x hx, grt_mem _ _ x hx⟩
  generalize lsI m ((ctG T M s m e).getD n 0 - 1) ((ctG T M s m e).getD (n + 2) 0) = lo at *
  generalize grI m ((ctG T M s m e).getD n 0 - 1) ((ctG T M s m e).getD (n + 2) 0) = hi at *
  generalize (spsL T M (cpG T M s m e)).getD n 0 = k at *
  generalize (spsL T M (cpG T M s m e)).getD (n + 1) 0 = q at *
  generalize (cpG T M s m e).getD n 0 = P0 at *
  generalize (cpG T M s m e).getD (n + 1) 0 = P1 at *
  generalize (cpG T M s m e).getD (n + 2) 0 = P2 at *
  generalize (ctG T M s m e).getD n 0 = t0 at *
  generalize (ctG T M s m e).getD (n + 1) 0 = t1 at *
  generalize (ctG T M s m e).getD (n + 2) 0 = t2 at *
  have A1 := way_nts m 0 t0 (t1 - t0 - 1) (t0 - 1) t2 lo hi hV (by omega) (by omega) (by omega) (by omega) hm
  have A2 := way_nts m 0 (t0 - 1) (t1 - t0 + 1) (t0 - 1) t2 lo hi hV (by omega) (by omega) (by omega) (by omega) hm
  have A3 := way_nts m 0 t1 (t2 - t1 - 1) (t0 - 1) t2 lo hi hV (by omega) (by omega) (by omega) (by omega) hm
  have A4 := way_nts m 0 (t1 - 1) (t2 - t1 + 1) (t0 - 1) t2 lo hi hV (by omega) (by omega) (by omega) (by omega) hm
  rw [show t0 + (t1 - t0 - 1) = t1 - 1 by omega] at A1
  rw [show t0 - 1 + (t1 - t0 + 1) = t1 by omega] at A2
  rw [show t1 + (t2 - t1 - 1) = t2 - 1 by omega] at A3
  rw [show t1 - 1 + (t2 - t1 + 1) = t2 by omega] at A4
  have E0 : k * (spc T M * 65536) = (P1 - P0) * 65536 := by rw [← kk0, Int.mul_assoc]
  have E1 : q * (spc T M * 65536) = (P2 - P1) * 65536 := by rw [← kk1, Int.mul_assoc]
  refine ⟨lo, hi, spc T M * 65536, by omega, p3, hst.2, by omega, ?_, ?_, ?_, ?_⟩
  · rw [E0, Int.mul_comm]; omega
  · rw [E0, Int.mul_comm hi]; omega
  · rw [E1, Int.mul_comm]; omega
  · rw [E1, Int.mul_comm hi]; omega
end Go.Proofs.Ythfliohfkhnpiaa

