/- Noise: facts of a tolerated one. -/
import Derived.Test.YthfliohfkhnpiaaJf
namespace Go.Proofs.Ythfliohfkhnpiaa
set_option linter.unusedVariables false
set_option linter.unusedSimpArgs false
open Go.RowKit

theorem to_facts {T M s : Int} {m : List (List Int)} {j d u : List Int} {e : Int} (h : toE T M s m j d u e = 0) : crE (wValid T M) s m e = 0 ∧ lngB j d u = false ∧ j.all isJ = true ∧ u.all isT = true ∧ j.length ≤ 1000 ∧ d.length ≤ 1000 ∧ u.length ≤ 1000 := by
  unfold toE at h
  split at h
  · rename_i hz
    rw [any_not, any_not] at h
    cases hl : lngB j d u with
    | true => rw [hl] at h; simp at h
    | false =>
      have hlen : j.length ≤ 1000 ∧ d.length ≤ 1000 ∧ u.length ≤ 1000 := by
        unfold lngB at hl
        simp only [Bool.or_eq_false_iff, decide_eq_false_iff_not] at hl
        omega
      rw [hl] at h
      cases hj : j.all isJ with
      | false => rw [hj] at h; simp at h
      | true =>
        cases hu : u.all isT with
        | false => rw [hj, hu] at h; simp at h
        | true => exact ⟨hz, rfl, rfl, rfl, hlen⟩
  · rename_i hz
    exact absurd h hz
theorem k_eval {T M s : Int} {m : List (List Int)} {e : Int} (h : crE (wValid T M) s m e = 0) (hf : fewB s m e = true) {n : Nat} (hn : n + 1 < (crT T M s m e).length) :
    IntKind.i64.wrap (Int.tdiv (IntKind.i64.wrap ((eL T M s (posOf s m e)).getD (n + 1) 0 - (eL T M s (posOf s m e)).getD n 0)) (spc T M)) = (spsL T M (crP T M s m e)).getD n 0 ∧ 0 ≤ (spsL T M (crP T M s m e)).getD n 0 ∧ (spsL T M (crP T M s m e)).getD n 0 ≤ 120 := by
  obtain ⟨f1, _⟩ := cr_facts h hf
  obtain ⟨c1, c2, c3⟩ := cr_valid h hf
  obtain ⟨d1, d2, d3⟩ := cr_pos h hf
  have hk := k_bd d3 (j := n) (by omega)
  have hP : crP T M s m e = eL T M s (posOf s m e) := by unfold crP; rw [if_pos h]
  have hg := spsL_get (T := T) (M := M) (P := crP T M s m e) (j := n) (by rw [hP]; omega)
  obtain ⟨v1, v2, v3⟩ := vE_iff.1 d1
  have t0 := isT_iff.1 (all_get v2 (j := n) (by rw [hP]; omega))
  have t1 := isT_iff.1 (all_get v2 (j := n + 1) (by rw [hP]; omega))
  have hl := incr_get (j := n) v3 (by rw [hP]; omega)
  refine ⟨?_, hk⟩
  rw [← hP, w64 (n := (crP T M s m e).getD (n + 1) 0 - (crP T M s m e).getD n 0) (by omega) (by omega), tdiv_pos (by omega), ← hg, w64 (by omega) (by omega)]
def shB (j d u : List Int) : Bool := decide ((j.length : Int) ≤ 400) && decide ((d.length : Int) ≤ 400) && decide ((u.length : Int) ≤ 400)
def short_res (j : List Int) (d : List Int) (u : List Int) : CRes := ⟨[], .one (.cel (.bool (shB j d u))), []⟩
def short_go : List TV → List RowA → List (List CV) → Option CRes := fun args rows caps =>
  match args, rows, caps with
  | [.agg [.row 0, .row 1, .row 2]], [.ints .i64 j, .ints .i64 d, .ints .i64 u], [] => some (short_res j d u)
  | _, _, _ => none
def short_e : Ent := ⟨33, [.ints .i64 [], .ints .i64 [], .ints .i64 []], short_go⟩
set_option maxRecDepth 100000 in
theorem short_tree (j : List Int) (d : List Int) (u : List Int) : (((((decide ((((List.length j) : Nat) : Int) ≤ (400 : Int))) && (decide ((((List.length d) : Nat) : Int) ≤ (400 : Int)))) && (decide ((((List.length u) : Nat) : Int) ≤ (400 : Int)))) = (shB j d u))) = EXD Try.prog (conOf []) Try.f33 [.agg [.row 0, .row 1, .row 2]] [.ints .i64 j, .ints .i64 d, .ints .i64 u] [] (short_res j d u) := by kernel_rfl
theorem short_holds (j : List Int) (d : List Int) (u : List Int)  : ((((decide ((((List.length j) : Nat) : Int) ≤ (400 : Int))) && (decide ((((List.length d) : Nat) : Int) ≤ (400 : Int)))) && (decide ((((List.length u) : Nat) : Int) ≤ (400 : Int)))) = (shB j d u)) := by
  rfl
set_option maxHeartbeats 2000000 in
theorem short_ok : SoundEnt Try.prog short_e := by
  refine ent_of_ex (Γ := (conOf [])) (conOf_sound snil) (by kernel_rfl) Try.func33 (by kernel_rfl) (by kernel_rfl) (fun args rows caps res h ho => ?_)
  change short_go args rows caps = some res at h
  unfold short_go at h
  split at h
  · simp only [Option.some.injEq] at h
    subst h
    rename_i q0_ q1_ q2_
    skip
    exact EX.of (short_tree q0_ q1_ q2_) (short_holds q0_ q1_ q2_)
  · cases h
theorem way_nts : ∀ (l : List (List Int)) (t u d a b lo hi : Int), vL t l = true → 0 ≤ u → 0 ≤ d → a ≤ t + u → t + u + d ≤ b → (∀ x ∈ nts t l a b, lo ≤ x ∧ x ≤ hi) → d * lo ≤ way (u + d) l - way u l ∧ way (u + d) l - way u l ≤ d * hi
  | [], t, u, d, a, b, lo, hi, _, h0, h1, h2, h3, h4 => by
    simp only [way]
    by_cases hd : d = 0
    · subst hd; simp
    · have := h4 0 (by rw [nts, if_pos (by omega)]; simp)
      have e1 := Int.mul_le_mul_of_nonneg_left this.1 h1
      have e2 := Int.mul_le_mul_of_nonneg_left this.2 h1
      omega
  | r :: l, t, u, d, a, b, lo, hi, hv, h0, h1, h2, h3, h4 => by
    obtain ⟨⟨a1, a2, a3, a4⟩, a5, a6⟩ := vL_cons hv
    have hsub : ∀ x ∈ nts (t + r0 r) l a b, lo ≤ x ∧ x ≤ hi := fun x hx => h4 x (by rw [nts]; split; exact List.mem_cons_of_mem _ hx; exact hx)
    simp only [way]
    by_cases h : u < r0 r
    · have hz := way_zero l _ a6
      rw [show min u (r0 r) = u by omega, show u - u = 0 by omega, hz]
      by_cases hd : d = 0
      · subst hd
        rw [show u + 0 = u by omega, show min u (r0 r) = u by omega, show u - u = 0 by omega, hz]
        simp
      · have hr := h4 (r1 r) (by rw [nts, if_pos (by omega)]; simp)
        by_cases hc : u + d ≤ r0 r
        · rw [show min (u + d) (r0 r) = u + d by omega, show u + d - (u + d) = 0 by omega, hz]
          have e1 := Int.mul_le_mul_of_nonneg_left hr.1 h1
          have e2 := Int.mul_le_mul_of_nonneg_left hr.2 h1
          have e3 : (u + d) * r1 r = u * r1 r + d * r1 r := Int.add_mul _ _ _
          omega
        · rw [show min (u + d) (r0 r) = r0 r by omega]
          have ih := way_nts l (t + r0 r) 0 (u + d - r0 r) a b lo hi a6 (by omega) (by omega) (by omega) (by omega) hsub
          rw [show 0 + (u + d - r0 r) = u + d - r0 r by omega, hz] at ih
          have e1 := Int.mul_le_mul_of_nonneg_left hr.1 (show 0 ≤ r0 r - u by omega)
          have e2 := Int.mul_le_mul_of_nonneg_left hr.2 (show 0 ≤ r0 r - u by omega)
          have e3 : r0 r * r1 r = u * r1 r + (r0 r - u) * r1 r := by rw [← Int.add_mul]; congr 1; omega
          have e4 : d * lo = (r0 r - u) * lo + (u + d - r0 r) * lo := by rw [← Int.add_mul]; congr 1; omega
          have e5 : d * hi = (r0 r - u) * hi + (u + d - r0 r) * hi := by rw [← Int.add_mul]; congr 1; omega
          omega
    · rw [show min u (r0 r) = r0 r by omega, show min (u + d) (r0 r) = r0 r by omega]
      have ih := way_nts l (t + r0 r) (u - r0 r) d a b lo hi a6 (by omega) h1 (by omega) (by omega) hsub
      rw [show u - r0 r + d = u + d - r0 r by omega] at ih
      omega
theorem lst_mem : ∀ (L : List Int) (m x : Int), x ∈ L → lst m L ≤ x
  | [], _, _, h => by simp at h
  | y :: L, m, x, h => by
    rw [lst]
    rcases List.mem_cons.1 h with h | h
    · have := lst_le L (min m y); omega
    · exact lst_mem L _ x h
theorem grt_ge : ∀ (L : List Int) (m : Int), m ≤ grt m L
  | [], m => by simp [grt]
  | x :: L, m => by have := grt_ge L (max m x); rw [grt]; omega
theorem grt_mem : ∀ (L : List Int) (m x : Int), x ∈ L → x ≤ grt m L
  | [], _, _, h => by simp at h
  | y :: L, m, x, h => by
    rw [grt]
    rcases List.mem_cons.1 h with h | h
    · have := grt_ge L (max m y); omega
    · exact grt_mem L _ x h
theorem isE_mod {T M p : Int} (hw : wValid T M = true) (h : isE T M p) : p % spc T M = 0 := by
  obtain ⟨b0, b1, b2, b3⟩ := spc_bd hw
  have h1 : (spc T M) ∣ 23040 := ⟨T, by omega⟩
  have h2 : (spc T M) ∣ p % 23040 := Int.dvd_of_emod_eq_zero h.2
  have h3 : p = 23040 * (p / 23040) + p % 23040 := (Int.mul_ediv_add_emod p 23040).symm
  rw [h3]
  exact Int.emod_eq_zero_of_dvd (Int.dvd_add (Int.dvd_trans h1 (Int.dvd_mul_right 23040 _)) h2)
/-- Two neighboring spaces of a steady motion. -/
theorem sp_facts {T M s : Int} {m : List (List Int)} {e : Int} (z : crE (wValid T M) s m e = 0) (hf : fewB s m e = true) (hs : stdB (crT T M s m e) m = true) {n : Nat} (hn : n + 2 < (crT T M s m e).length) :
    ∃ lo hi S : Int, 0 < lo ∧ 0 ≤ hi ∧ 16 * hi ≤ 17 * lo ∧ 0 < S ∧
      lo * ((crT T M s m e).getD (n + 1) 0 - (crT T M s m e).getD n 0 - 1) ≤ (spsL T M (crP T M s m e)).getD n 0 * S ∧
      (spsL T M (crP T M s m e)).getD n 0 * S ≤ hi * ((crT T M s m e).getD (n + 1) 0 - (crT T M s m e).getD n 0 + 1) ∧
      lo * ((crT T M s m e).getD (n + 2) 0 - (crT T M s m e).getD (n + 1) 0 - 1) ≤ (spsL T M (crP T M s m e)).getD (n + 1) 0 * S ∧
      (spsL T M (crP T M s m e)).getD (n + 1) 0 * S ≤ hi * ((crT T M s m e).getD (n + 2) 0 - (crT T M s m e).getD (n + 1) 0 + 1) := by
  obtain ⟨f1, f2, f3, f4, f5, f6, f7, f8, f9⟩ := cr_facts z hf
  obtain ⟨c1, c2, c3⟩ := cr_valid z hf
  obtain ⟨d1, d2, d3⟩ := cr_pos z hf
  obtain ⟨v1, v2, v3⟩ := vE_iff.1 c1
  obtain ⟨b0, b1, b2, b3⟩ := spc_bd f1
  have hV := (mV_iff.1 f2).2.2
  have hP : crP T M s m e = eL T M s (posOf s m e) := by unfold crP; rw [if_pos z]
  obtain ⟨e1, e2, e3⟩ := eL_spec (b := posOf s m e) f1 f4.1
  -- the times
  have hT : ∀ i, i < (crT T M s m e).length → (crP T M s m e).getD i 0 ∈ eL T M s (posOf s m e) ∧ (crT T M s m e).getD i 0 = (tmOf s m ((crP T M s m e).getD i 0)).1 := by
    intro i hi
    have hi2 : i < (crP T M s m e).length := by rw [hP]; omega
    refine ⟨by rw [← hP]; exact mem_getD hi2, ?_⟩
    unfold crT
    rw [List.getD_eq_getElem?_getD, List.getElem?_map, List.getD_eq_getElem?_getD, List.getElem?_eq_getElem hi2]
    rfl
  have hW : ∀ i, i < (crT T M s m e).length → 1 ≤ (crT T M s m e).getD i 0 ∧ (crT T M s m e).getD i 0 ≤ e ∧ ((crP T M s m e).getD i 0 - s) * 65536 ≤ way ((crT T M s m e).getD i 0) m ∧ way ((crT T M s m e).getD i 0 - 1) m < ((crP T M s m e).getD i 0 - s) * 65536 ∧ (crP T M s m e).getD i 0 % spc T M = 0 := by
    intro i hi
    obtain ⟨q1, q2⟩ := hT i hi
    obtain ⟨g1, g2, g3, g4, g5, g6, g7⟩ := cr_time z hf q1
    rw [pos_at g3] at g5
    rw [pos_at g4] at g6
    rw [q2]
    refine ⟨g1, g2, by omega, by omega, isE_mod f1 (e1 _ q1).2.2⟩
  obtain ⟨x1, x2, x3, x4, x5⟩ := hW n (by omega)
  obtain ⟨y1, y2, y3, y4, y5⟩ := hW (n + 1) (by omega)
  obtain ⟨w1, w2, w3, w4, w5⟩ := hW (n + 2) (by omega)
  have l0 := incr_get (j := n) v3 (by omega)
  have l1 : (crT T M s m e).getD (n + 1) 0 < (crT T M s m e).getD (n + 2) 0 := incr_get (j := n + 1) v3 (by omega)
  have k0 := spsL_get (T := T) (M := M) (P := crP T M s m e) (j := n) (by rw [hP]; omega)
  have k1 := spsL_get (T := T) (M := M) (P := crP T M s m e) (j := n + 1) (by rw [hP]; omega)
  have kk0 : (spsL T M (crP T M s m e)).getD n 0 * spc T M = (crP T M s m e).getD (n + 1) 0 - (crP T M s m e).getD n 0 := by
    rw [k0]
    exact Int.ediv_mul_cancel (Int.dvd_sub (Int.dvd_of_emod_eq_zero y5) (Int.dvd_of_emod_eq_zero x5))
  have kk1 : (spsL T M (crP T M s m e)).getD (n + 1) 0 * spc T M = (crP T M s m e).getD (n + 2) 0 - (crP T M s m e).getD (n + 1) 0 := by
    rw [k1]
    exact Int.ediv_mul_cancel (Int.dvd_sub (Int.dvd_of_emod_eq_zero w5) (Int.dvd_of_emod_eq_zero y5))
  have hst := allB_iff.1 hs (n + 1) (by omega)
  unfold stdP at hst
  rw [decide_eq_false (show ¬ n + 1 = 0 by omega), Bool.false_or, show n + 1 - 1 = n by omega, show n + 1 + 1 = n + 2 by omega] at hst
  simp only [Bool.and_eq_true, Bool.not_eq_true', decide_eq_false_iff_not, decide_eq_true_eq] at hst
  obtain ⟨⟨p1, p2⟩, p3, p4⟩ := lg_bd (s := s) (m := m) (a := max 0 ((crT T M s m e).getD n 0 - 1)) (b := (crT T M s m e).getD (n + 2) 0) f2 (by omega) (by omega)
  rw [show max 0 ((crT T M s m e).getD n 0 - 1) = (crT T M s m e).getD n 0 - 1 by omega] at hst p1 p2 p3 p4
  have hm : ∀ x ∈ nts 0 m ((crT T M s m e).getD n 0 - 1) ((crT T M s m e).getD (n + 2) 0), lsI m ((crT T M s m e).getD n 0 - 1) ((crT T M s m e).getD (n + 2) 0) ≤ x ∧ x ≤ grI m ((crT T M s m e).getD n 0 - 1) ((crT T M s m e).getD (n + 2) 0) := fun x hx => ⟨lst_mem _ _ x hx, grt_mem _ _ x hx⟩
  generalize lsI m ((crT T M s m e).getD n 0 - 1) ((crT T M s m e).getD (n + 2) 0) = lo at *
  generalize grI m ((crT T M s m e).getD n 0 - 1) ((crT T M s m e).getD (n + 2) 0) = hi at *
  generalize (spsL T M (crP T M s m e)).getD n 0 = k at *
  generalize (spsL T M (crP T M s m e)).getD (n + 1) 0 = q at *
  generalize (crP T M s m e).getD n 0 = P0 at *
  generalize (crP T M s m e).getD (n + 1) 0 = P1 at *
  generalize (crP T M s m e).getD (n + 2) 0 = P2 at *
  generalize (crT T M s m e).getD n 0 = t0 at *
  generalize (crT T M s m e).getD (n + 1) 0 = t1 at *
  generalize (crT T M s m e).getD (n + 2) 0 = t2 at *
  have A1 := way_nts m 0 t0 (t1 - t0 - 1) (t0 - 1) t2 lo hi hV (by omega) (by omega) (by omega) (by omega) hm
  have A2 := way_nts m 0 (t0 - 1) (t1 - t0 + 1) (t0 - 1) t2 lo hi hV (by omega) (by omega) (by omega) (by omega) hm
  have A3 := way_nts m 0 t1 (t2 - t1 - 1) (t0 - 1) t2 lo hi hV (by omega) (by omega) (by omega) (by omega) hm
  have A4 := way_nts m 0 (t1 - 1) (t2 - t1 + 1) (t0 - 1) t2 lo hi hV (by omega) (by omega) (by omega) (by omega) hm
  rw [show t0 + (t1 - t0 - 1) = t1 - 1 by omega] at A1
  rw [show t0 - 1 + (t1 - t0 + 1) = t1 by omega] at A2
  rw [show t1 + (t2 - t1 - 1) = t2 - 1 by omega] at A3
  rw [show t1 - 1 + (t2 - t1 + 1) = t2 by omega] at A4
  have E0 : k * (spc T M * 65536) = (P1 - P0) * 65536 := by rw [← kk0, Int.mul_assoc]
  have E1 : q * (spc T M * 65536) = (P2 - P1) * 65536 := by rw [← kk1, Int.mul_assoc]
  refine ⟨lo, hi, spc T M * 65536, by omega, p3, hst.2, by omega, ?_, ?_, ?_, ?_⟩
  · rw [E0, Int.mul_comm]; omega
  · rw [E0, Int.mul_comm hi]; omega
  · rw [E1, Int.mul_comm]; omega
  · rw [E1, Int.mul_comm hi]; omega
theorem sp_mul {lo hi k q S a b : Int} (h0 : 0 < lo) (hk : 0 ≤ k) (hq : 0 ≤ q) (hb : 0 ≤ b) (h1 : lo * (a - 1) ≤ k * S) (h2 : q * S ≤ hi * (b + 1)) (h3 : 16 * hi ≤ 17 * lo) : 16 * q * (a - 1) ≤ 17 * k * (b + 1) := by
  have e1 := Int.mul_le_mul_of_nonneg_left h1 hq
  have e2 := Int.mul_le_mul_of_nonneg_left h2 hk
  have e3 := Int.mul_le_mul_of_nonneg_left h3 (Int.mul_nonneg hk (show 0 ≤ b + 1 by omega))
  refine Int.le_of_mul_le_mul_left (a := lo) ?_ h0
  grind
theorem edg_pre {T M : Int} : ∀ (n : Nat) (p b b' : Int), b ≤ b' → ∃ r, edg T M n p b' = edg T M n p b ++ r
  | 0, p, b, b', _ => ⟨[], rfl⟩
  | n + 1, p, b, b', h => by
    rw [edg, edg]
    by_cases hp : p ≤ b
    · obtain ⟨r, hr⟩ := edg_pre (T := T) (M := M) n (nxA T M p) b b' h
      rw [if_pos hp, if_pos (show p ≤ b' by omega), hr]
      exact ⟨r, rfl⟩
    · rw [if_neg hp]
      exact ⟨_, rfl⟩
theorem eL_get {T M a b b' : Int} (h : b ≤ b') : (eL T M a b).length ≤ (eL T M a b').length ∧ ∀ j, j < (eL T M a b).length → (eL T M a b').getD j 0 = (eL T M a b).getD j 0 := by
  obtain ⟨r, hr⟩ := edg_pre (T := T) (M := M) 1000 (nxA T M a) b b' h
  unfold eL
  rw [hr]
  refine ⟨by simp, fun j hj => ?_⟩
  rw [List.getD_eq_getElem?_getD, List.getD_eq_getElem?_getD, List.getElem?_append_left hj]
theorem tb_facts {T M s : Int} {m : List (List Int)} {j d u : List Int} {e : Int} (h : toB T M s m j d u e = true) : toE T M s m j d u e = 0 ∧ d = [] ∧ calmB (crT T M s m e) (spsL T M (crP T M s m e)) j = true ∧ u.all (sparP (crT T M s m e) (spsL T M (crP T M s m e)) j) = true ∧ stdB (crT T M s m e) m = true := by
  unfold toB at h
  simp only [Bool.and_eq_true, decide_eq_true_eq] at h
  obtain ⟨⟨⟨⟨h1, h2⟩, h3⟩, h4⟩, h5⟩ := h
  exact ⟨h1, List.eq_nil_of_length_eq_zero h2, h3, h4, h5⟩
end Go.Proofs.Ythfliohfkhnpiaa

