/- The law of true edges. -/
import Derived.Test.YthfliohfkhnpiaaT5
namespace Go.Proofs.Ythfliohfkhnpiaa
set_option linter.unusedVariables false
set_option linter.unusedSimpArgs false
open Go.RowKit

section
variable {T M : Int} {l j : List Int} {k tau : Nat → Int}
theorem pr_zero (E : List Int) : pr E 0 = 0 := rfl
theorem pr_succ (E : List Int) (i : Nat) : pr E (i + 1) = E.getD (i + 1) 0 - E.getD i 0 := by
  unfold pr
  rw [if_neg (by omega)]
  rfl
/-- The blanking ends ahead of the next true edge. -/
theorem Tol.blank (h : Tol T M l j k tau) {i : Nat} (hi : i + 1 < l.length) : blk (pr (kpt j [] 0 l) i) ≤ mvT l j (i + 1) - mvT l j i := by
  have g1 := h.gap hi
  have f1 := h.far i hi
  cases i with
  | zero =>
    rw [pr_zero]
    unfold blk
    omega
  | succ i =>
    rw [pr_succ, kpt_mv (by omega), kpt_mv (by omega)]
    have g0 := h.gap (n := i) (by omega)
    have f0 := h.far i (by omega)
    obtain ⟨s1, s2⟩ := h.std i hi
    have k0 := h.k3 (n := i) (by omega)
    have k1 := h.k3 (n := i + 1) hi
    unfold blk
    generalize mvT l j (i + 1 + 1) = e2 at *
    generalize mvT l j (i + 1) = e1 at *
    generalize mvT l j i = e0 at *
    generalize dN l (i + 1) = d1 at *
    generalize dN l i = d0 at *
    rcases k0 with k0 | k0 | k0 <;> rcases k1 with k1 | k1 | k1 <;> rw [k0, k1] at s1 s2 <;> omega
/-- A spurious edge lies in the blanking of a true one. -/
theorem Tol.hide (h : Tol T M l j k tau) {i : Nat} (hi : i + 2 < l.length) {x : Int} (hx : 8 * (x - mvT l j (i + 1)) * k (i + 1) < dN l (i + 1)) : x - mvT l j (i + 1) < blk (pr (kpt j [] 0 l) (i + 1)) := by
  rw [pr_succ, kpt_mv (by omega), kpt_mv (by omega)]
  have g0 := h.gap (n := i) (by omega)
  have g1 := h.gap (n := i + 1) (by omega)
  have f0 := h.far i (by omega)
  have f1 := h.far (i + 1) (by omega)
  obtain ⟨s1, s2⟩ := h.std i hi
  have k0 := h.k3 (n := i) (by omega)
  have k1 := h.k3 (n := i + 1) (by omega)
  unfold blk
  generalize mvT l j (i + 1 + 1) = e2 at *
  generalize mvT l j (i + 1) = e1 at *
  generalize mvT l j i = e0 at *
  generalize dN l (i + 1) = d1 at *
  generalize dN l i = d0 at *
  rcases k0 with k0 | k0 | k0 <;> rcases k1 with k1 | k1 | k1 <;> rw [k0, k1] at s1 s2 <;> rw [k1] at hx <;> omega
/-- Exactly the true edges are accepted. -/
theorem Tol.accepts (h : Tol T M l j k tau) {K u : List Int} (hk : ∀ n, k n = K.getD n 0) (hK : K.length = l.length - 1) (hu : u.all (sparP l K j) = true) (hA : apE l j [] u = 0) : tfR false 0 0 (apL l j [] u) = kpt j [] 0 l := by
  have hE := h.incr
  have hlen := kpt_len0 j l 0
  have key : ∀ x ∈ u, ∃ i : Nat, bsN (kpt j [] 0 l) x = i + 2 ∧ i + 2 < l.length ∧ 8 * (x - mvT l j (i + 1)) * k (i + 1) < dN l (i + 1) := by
    intro x hx
    have hs := List.all_eq_true.1 hu x hx
    have hsi := spar_bs x hE
    unfold sparP at hs
    rw [hsi] at hs
    simp only [Bool.and_eq_true, decide_eq_true_eq] at hs
    obtain ⟨⟨s1, s2⟩, s3⟩ := hs
    obtain ⟨i, hi⟩ : ∃ i : Nat, bsN (kpt j [] 0 l) x = i + 2 := ⟨bsN (kpt j [] 0 l) x - 2, by omega⟩
    rw [hi] at s1 s2 s3
    refine ⟨i, hi, by omega, ?_⟩
    rw [show ((((i + 2 : Nat) : Int) - 1).toNat) = i + 1 by omega] at s3
    rw [hk]
    unfold dN mvT
    rw [show (((i + 1 : Nat) : Int)) = ((i + 2 : Nat) : Int) - 1 by omega]
    rw [show x - (l.getD (i + 1) 0 + mvd j (((i + 2 : Nat) : Int) - 1)) = x - l.getD (i + 1) 0 - mvd j (((i + 2 : Nat) : Int) - 1) by omega]
    exact s3
  refine tf_all (N := apL l j [] u) hE (vE_iff.1 (apL_vE hA)).2.2 (fun x hx => ?_) (fun x hx => ?_) (fun i x hi hix hx hn => ?_) (fun i hi => ?_)
  · obtain ⟨n, n1, n2, n3⟩ := (kpt_mem l 0 x).1 hx
    rw [Int.zero_add] at n2 n3
    exact (apL_mem hA x).2 (.inl ⟨n, n1, n2, n3⟩)
  · rcases (apL_mem hA x).1 hx with ⟨n, n1, n2, n3⟩ | hx
    · refine ⟨by omega, ?_⟩
      have hxe : x = (kpt j [] 0 l).getD n 0 := by rw [kpt_mv n1, n3]; rfl
      rw [hxe]
      cases n with
      | zero => exact Int.le_refl _
      | succ n => exact Int.le_of_lt (incr_lt hE (by omega) (by omega))
    · obtain ⟨i, i1, i2, _⟩ := key x hx
      obtain ⟨w1, w2, w3⟩ := bsN_bd (kpt j [] 0 l) x
      have := w2 0 (by omega)
      exact ⟨by omega, by omega⟩
  · rcases (apL_mem hA x).1 hx with ⟨n, n1, n2, n3⟩ | hx
    · exfalso
      have hxe : x = (kpt j [] 0 l).getD n 0 := by rw [kpt_mv n1, n3]; rfl
      rcases Nat.lt_trichotomy n i with h1 | h1 | h1
      · have := incr_lt hE h1 hi
        omega
      · rw [hxe, h1] at hix
        omega
      · have h2 := hn (by omega)
        by_cases e : n = i + 1
        · rw [hxe, e] at h2
          omega
        · have := incr_lt hE (i := i + 1) (j := n) (by omega) (by omega)
          omega
    · obtain ⟨b, b1, b2, b3⟩ := key x hx
      have hb : i + 1 = bsN (kpt j [] 0 l) x := by
        refine bsN_is (by omega) (fun q hq => ?_) (fun h1 => by have := hn h1; omega)
        by_cases e : q = i
        · rw [e]; exact hix
        · have := incr_lt hE (i := q) (j := i) (by omega) hi
          omega
      have : i = b + 1 := by omega
      subst this
      rw [kpt_mv (by omega)]
      exact h.hide b2 b3
  · rw [hlen] at hi
    rw [kpt_mv hi, kpt_mv (by omega)]
    exact h.blank hi
end
theorem ap_clean {l j u : List Int} (h : apE l j [] u = 0) (hl : l.length ≤ 1000) : apE l j [] [] = 0 := by
  obtain ⟨h1, h2, h3, h4, h5, h6⟩ := ap_zero h
  have hL : lngB j [] [] = false := by
    unfold lngB at h2 ⊢
    simp only [Bool.or_eq_false_iff] at h2 ⊢
    exact ⟨⟨h2.1.1, rfl⟩, rfl⟩
  have hr : (rawL l j [] []).all isT = true := by
    unfold rawL at h4 ⊢
    rw [List.all_append, Bool.and_eq_true] at h4
    rw [List.append_nil]
    exact h4.1
  have hn : (nrm (rawL l j [] [])).length ≤ 1000 := by
    have g1 := nrm_len (rawL l j [] [])
    have g2 := kpt_len j [] l 0
    unfold rawL at g1 ⊢
    rw [List.append_nil] at g1 ⊢
    omega
  rw [ap_ok h1 hL h3 hr, if_neg (by omega)]
theorem ap_cleanL {l j : List Int} (h : apE l j [] [] = 0) (hE : incr (kpt j [] 0 l) = true) : apL l j [] [] = kpt j [] 0 l := by
  obtain ⟨_, _, _, _, h5, _⟩ := ap_zero h
  rw [h5]
  unfold rawL
  rw [List.append_nil]
  exact nrm_self hE
def true19_res (T : Int) (M : Int) (s : Int) (m : List (List Int)) (j : List Int) (d : List Int) (u : List Int) (e : Int) : CRes := ⟨[wfI .i64 T, wfI .i64 M, wfI .i64 s, wfR [.int .i64, .int .i64] m, wfL .i64 j, wfL .i64 d, wfL .i64 u, wfI .i64 e, lenB m, lenB j, lenB d, lenB u], .one (.cel (.bool (true))), []⟩
def true19_go : List TV → List RowA → List (List CV) → Option CRes := fun args rows caps =>
  match args, rows, caps with
  | [.agg [.int .i64 T, .int .i64 M], .agg [.int .i64 s, .row 0], .agg [.row 1, .row 2, .row 3], .cel (.int .i64 e)], [.recs [.int .i64, .int .i64] m, .ints .i64 j, .ints .i64 d, .ints .i64 u], [] => some (true19_res T M s m j d u e)
  | _, _, _ => none
def true19_e : Ent := ⟨3, [.recs [.int .i64, .int .i64] [], .ints .i64 [], .ints .i64 [], .ints .i64 []], true19_go⟩
set_option maxRecDepth 100000 in
theorem true19_tree (T : Int) (M : Int) (s : Int) (m : List (List Int)) (j : List Int) (d : List Int) (u : List Int) (e : Int) : ((cnd ((!(decide ((toEG T M s m j d u e) = (0 : Int)))) || (!(toBG T M s m j d u e)))
  (Bool.true = Bool.true)
  (cnd (!(decide ((crG T M s m e) = (0 : Int))))
    (Bool.false = Bool.true)
    (cnd ((decide ((300 : Int) < (((List.length (ctG T M s m e)) : Nat) : Int))) || (decide ((300 : Int) < (((List.length u) : Nat) : Int))))
      (Bool.true = Bool.true)
      (cnd ((!(decide ((apE (ctG T M s m e) j d u) = (0 : Int)))) || (!(decide ((apE (ctG T M s m e) j d ([] : List Int)) = (0 : Int)))))
        (((decide ((apE (ctG T M s m e) j d u) = (5 : Int))) || (decide ((apE (ctG T M s m e) j d u) = (2 : Int)))) = Bool.true)
        (cnd ((!((decide ((if ((vE (apL (ctG T M s m e) j d u)) = Bool.true) then (0 : Int) else (1 : Int)) = (0 : Int))) == Bool.true)) || (decide ((((List.length (if ((vE (apL (ctG T M s m e) j d u)) = Bool.true) then (tfR Bool.false (0 : Int) (0 : Int) (apL (ctG T M s m e) j d u)) else ([] : List Int))) : Nat) : Int) ≤ (1000000 : Int))))
          (cnd ((!((decide ((if ((vE (apL (ctG T M s m e) j d u)) = Bool.true) then (0 : Int) else (1 : Int)) = (0 : Int))) == Bool.true)) || (decide ((((List.length (apL (ctG T M s m e) j d ([] : List Int))) : Nat) : Int) ≤ (1000000 : Int))))
            (((decide ((if ((vE (apL (ctG T M s m e) j d u)) = Bool.true) then (0 : Int) else (1 : Int)) = (0 : Int))) && (decide ((if ((vE (apL (ctG T M s m e) j d u)) = Bool.true) then (tfR Bool.false (0 : Int) (0 : Int) (apL (ctG T M s m e) j d u)) else ([] : List Int)) = (apL (ctG T M s m e) j d ([] : List Int))))) = Bool.true)
            False)
          False)))))) = EXD Try.prog (conOf [tawake_e, tolerG_e, CrankG_e, apply_e, trun_e, equalI_e]) Try.f3 [.agg [.int .i64 T, .int .i64 M], .agg [.int .i64 s, .row 0], .agg [.row 1, .row 2, .row 3], .cel (.int .i64 e)] [.recs [.int .i64, .int .i64] m, .ints .i64 j, .ints .i64 d, .ints .i64 u] [] (true19_res T M s m j d u e) := by kernel_rfl
theorem true19_holds (T : Int) (M : Int) (s : Int) (m : List (List Int)) (j : List Int) (d : List Int) (u : List Int) (e : Int) (p0 : (wfI .i64 T) = true) (p1 : (wfI .i64 M) = true) (p2 : (wfI .i64 s) = true) (p3 : (wfR [.int .i64, .int .i64] m) = true) (p4 : (wfL .i64 j) = true) (p5 : (wfL .i64 d) = true) (p6 : (wfL .i64 u) = true) (p7 : (wfI .i64 e) = true) (p8 : (lenB m) = true) (p9 : (lenB j) = true) (p10 : (lenB d) = true) (p11 : (lenB u) = true) : (cnd ((!(decide ((toEG T M s m j d u e) = (0 : Int)))) || (!(toBG T M s m j d u e)))
  (Bool.true = Bool.true)
  (cnd (!(decide ((crG T M s m e) = (0 : Int))))
    (Bool.false = Bool.true)
    (cnd ((decide ((300 : Int) < (((List.length (ctG T M s m e)) : Nat) : Int))) || (decide ((300 : Int) < (((List.length u) : Nat) : Int))))
      (Bool.true = Bool.true)
      (cnd ((!(decide ((apE (ctG T M s m e) j d u) = (0 : Int)))) || (!(decide ((apE (ctG T M s m e) j d ([] : List Int)) = (0 : Int)))))
        (((decide ((apE (ctG T M s m e) j d u) = (5 : Int))) || (decide ((apE (ctG T M s m e) j d u) = (2 : Int)))) = Bool.true)
        (cnd ((!((decide ((if ((vE (apL (ctG T M s m e) j d u)) = Bool.true) then (0 : Int) else (1 : Int)) = (0 : Int))) == Bool.true)) || (decide ((((List.length (if ((vE (apL (ctG T M s m e) j d u)) = Bool.true) then (tfR Bool.false (0 : Int) (0 : Int) (apL (ctG T M s m e) j d u)) else ([] : List Int))) : Nat) : Int) ≤ (1000000 : Int))))
          (cnd ((!((decide ((if ((vE (apL (ctG T M s m e) j d u)) = Bool.true) then (0 : Int) else (1 : Int)) = (0 : Int))) == Bool.true)) || (decide ((((List.length (apL (ctG T M s m e) j d ([] : List Int))) : Nat) : Int) ≤ (1000000 : Int))))
            (((decide ((if ((vE (apL (ctG T M s m e) j d u)) = Bool.true) then (0 : Int) else (1 : Int)) = (0 : Int))) && (decide ((if ((vE (apL (ctG T M s m e) j d u)) = Bool.true) then (tfR Bool.false (0 : Int) (0 : Int) (apL (ctG T M s m e) j d u)) else ([] : List Int)) = (apL (ctG T M s m e) j d ([] : List Int))))) = Bool.true)
            False)
          False))))) := by
  refine cnd_i (fun _ => rfl) (fun h => ?_)
  simp only [Bool.or_eq_false_iff, Bool.not_eq_false', decide_eq_true_eq] at h
  obtain ⟨hE, hT⟩ := h
  obtain ⟨z, z1, z2, z3, z4, z5, z6⟩ := to_factsG hE
  obtain ⟨t1, t2, t3, t4, t5⟩ := tb_factsG hT
  obtain ⟨c1, c2, c3⟩ := cr_validG z
  obtain ⟨d1, d2, d3⟩ := cr_posG z
  have hTol := tol_of z hT
  subst t2
  refine cnd_i (fun h => by rw [z] at h; cases h) (fun _ => ?_)
  refine cnd_i (fun _ => rfl) (fun _ => ?_)
  by_cases hA : apE (ctG T M s m e) j [] u = 0
  · have hC := ap_clean hA (by omega)
    have hL := ap_cleanL hC hTol.incr
    have hX := hTol.accepts (K := spsL T M (cpG T M s m e)) (fun _ => rfl) d2 t4 hA
    have hkl := kpt_len0 j (ctG T M s m e) 0
    rw [hA, hC, hL, apL_vE hA, if_pos rfl, if_pos rfl, hX]
    rw [decide_eq_true (show (((kpt j [] 0 (ctG T M s m e)).length : Nat) : Int) ≤ 1000000 by omega), decide_eq_true (rfl : kpt j [] 0 (ctG T M s m e) = kpt j [] 0 (ctG T M s m e)), Bool.or_true]
    rfl
  · rw [decide_eq_false hA]
    rcases apE_or (j := j) (d := []) (u := u) c1 with h | h | h
    · exact absurd h hA
    · rw [h]; rfl
    · rw [h]; rfl
set_option maxHeartbeats 2000000 in
theorem true19_ok : SoundEnt Try.prog true19_e := by
  refine ent_of_ex (Γ := (conOf [tawake_e, tolerG_e, CrankG_e, apply_e, trun_e, equalI_e])) (conOf_sound (scons tawake_ok (scons tolerG_ok (scons CrankG_ok (scons apply_ok (scons trun_ok (scons equalI_ok snil))))))) (by kernel_rfl) Try.func3 (by kernel_rfl) (by kernel_rfl) (fun args rows caps res h ho => ?_)
  change true19_go args rows caps = some res at h
  unfold true19_go at h
  split at h
  · simp only [Option.some.injEq] at h
    subst h
    rename_i q0_ q1_ q2_ q7_ q3_ q4_ q5_ q6_
    obtain ⟨p0, p1, p2, p3, p4, p5, p6, p7, p8, p9, p10, p11, _⟩ := ho
    exact EX.of (true19_tree q0_ q1_ q2_ q3_ q4_ q5_ q6_ q7_) (true19_holds q0_ q1_ q2_ q3_ q4_ q5_ q6_ q7_ p0 p1 p2 p3 p4 p5 p6 p7 p8 p9 p10 p11)
  · cases h
end Go.Proofs.Ythfliohfkhnpiaa

