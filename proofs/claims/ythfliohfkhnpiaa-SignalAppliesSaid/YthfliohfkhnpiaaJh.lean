/- The law of spaces. -/
import Derived.Test.YthfliohfkhnpiaaJg
namespace Go.Proofs.Ythfliohfkhnpiaa
set_option linter.unusedVariables false
set_option linter.unusedSimpArgs false
open Go.RowKit

def shB (j d u : List Int) : Bool := decide ((j.length : Int) ≤ 400) && decide ((d.length : Int) ≤ 400) && decide ((u.length : Int) ≤ 400)
def short_res (j : List Int) (d : List Int) (u : List Int) : CRes := ⟨[], .one (.cel (.bool (shB j d u))), []⟩
def short_go : List TV → List RowA → List (List CV) → Option CRes := fun args rows caps =>
  match args, rows, caps with
  | [.agg [.row 0, .row 1, .row 2]], [.ints .i64 j, .ints .i64 d, .ints .i64 u], [] => some (short_res j d u)
  | _, _, _ => none
def short_e : Ent := ⟨33, [.ints .i64 [], .ints .i64 [], .ints .i64 []], short_go⟩
set_option maxRecDepth 100000 in
theorem short_tree (j : List Int) (d : List Int) (u : List Int) : (((((decide ((((List.length j) : Nat) : Int) ≤ (400 : Int))) && (decide ((((List.length d) : Nat) : Int) ≤ (400 : Int)))) && (decide ((((List.length u) : Nat) : Int) ≤ (400 : Int)))) = (shB j d u))) = EXD Try.prog (conOf []) Try.f33 [.agg [.row 0, .row 1, .row 2]] [.ints .i64 j, .ints .i64 d, .ints .i64 u] [] (short_res j d u) := by kernel_rfl
theorem short_holds (j : List Int) (d : List Int) (u : List Int)  : ((((decide ((((List.length j) : Nat) : Int) ≤ (400 : Int))) && (decide ((((List.length d) : Nat) : Int) ≤ (400 : Int)))) && (decide ((((List.length u) : Nat) : Int) ≤ (400 : Int)))) = (shB j d u)) := by
  rfl
set_option maxHeartbeats 2000000 in
theorem short_ok : SoundEnt Try.prog short_e := by
  refine ent_of_ex (Γ := (conOf [])) (conOf_sound snil) (by kernel_rfl) Try.func33 (by kernel_rfl) (by kernel_rfl) (fun args rows caps res h ho => ?_)
  change short_go args rows caps = some res at h
  unfold short_go at h
  split at h
  · simp only [Option.some.injEq] at h
    subst h
    rename_i q0_ q1_ q2_
    skip
    exact EX.of (short_tree q0_ q1_ q2_) (short_holds q0_ q1_ q2_)
  · cases h
theorem way_nts : ∀ (l : List (List Int)) (t u d a b lo hi : Int), vL t l = true → 0 ≤ u → 0 ≤ d → a ≤ t + u → t + u + d ≤ b → (∀ x ∈ nts t l a b, lo ≤ x ∧ x ≤ hi) → d * lo ≤ way (u + d) l - way u l ∧ way (u + d) l - way u l ≤ d * hi
  | [], t, u, d, a, b, lo, hi, _, h0, h1, h2, h3, h4 => by
    simp only [way]
    by_cases hd : d = 0
    · subst hd; simp
    · have := h4 0 (by rw [nts, if_pos (by omega)]; simp)
      have e1 := Int.mul_le_mul_of_nonneg_left this.1 h1
      have e2 := Int.mul_le_mul_of_nonneg_left this.2 h1
      omega
  | r :: l, t, u, d, a, b, lo, hi, hv, h0, h1, h2, h3, h4 => by
    obtain ⟨⟨a1, a2, a3, a4⟩, a5, a6⟩ := vL_cons hv
    have hsub : ∀ x ∈ nts (t + r0 r) l a b, lo ≤ x ∧ x ≤ hi := fun x hx => h4 x (by rw [nts]; split; exact List.mem_cons_of_mem _ hx; exact hx)
    simp only [way]
    by_cases h : u < r0 r
    · have hz := way_zero l _ a6
      rw [show min u (r0 r) = u by omega, show u - u = 0 by omega, hz]
      by_cases hd : d = 0
      · subst hd
        rw [show u + 0 = u by omega, show min u (r0 r) = u by omega, show u - u = 0 by omega, hz]
        simp
      · have hr := h4 (r1 r) (by rw [nts, if_pos (by omega)]; simp)
        by_cases hc : u + d ≤ r0 r
        · rw [show min (u + d) (r0 r) = u + d by omega, show u + d - (u + d) = 0 by omega, hz]
          have e1 := Int.mul_le_mul_of_nonneg_left hr.1 h1
          have e2 := Int.mul_le_mul_of_nonneg_left hr.2 h1
          have e3 : (u + d) * r1 r = u * r1 r + d * r1 r := Int.add_mul _ _ _
          omega
        · rw [show min (u + d) (r0 r) = r0 r by omega]
          have ih := way_nts l (t + r0 r) 0 (u + d - r0 r) a b lo hi a6 (by omega) (by omega) (by omega) (by omega) hsub
          rw [show 0 + (u + d - r0 r) = u + d - r0 r by omega, hz] at ih
          have e1 := Int.mul_le_mul_of_nonneg_left hr.1 (show 0 ≤ r0 r - u by omega)
          have e2 := Int.mul_le_mul_of_nonneg_left hr.2 (show 0 ≤ r0 r - u by omega)
          have e3 : r0 r * r1 r = u * r1 r + (r0 r - u) * r1 r := by rw [← Int.add_mul]; congr 1; omega
          have e4 : d * lo = (r0 r - u) * lo + (u + d - r0 r) * lo := by rw [← Int.add_mul]; congr 1; omega
          have e5 : d * hi = (r0 r - u) * hi + (u + d - r0 r) * hi := by rw [← Int.add_mul]; congr 1; omega
          omega
    · rw [show min u (r0 r) = r0 r by omega, show min (u + d) (r0 r) = r0 r by omega]
      have ih := way_nts l (t + r0 r) (u - r0 r) d a b lo hi a6 (by omega) h1 (by omega) (by omega) hsub
      rw [show u - r0 r + d = u + d - r0 r by omega] at ih
      omega
theorem lst_mem : ∀ (L : List Int) (m x : Int), x ∈ L → lst m L ≤ x
  | [], _, _, h => by simp at h
  | y :: L, m, x, h => by
    rw [lst]
    rcases List.mem_cons.1 h with h | h
    · have := lst_le L (min m y); omega
    · exact lst_mem L _ x h
theorem grt_ge : ∀ (L : List Int) (m : Int), m ≤ grt m L
  | [], m => by simp [grt]
  | x :: L, m => by have := grt_ge L (max m x); rw [grt]; omega
theorem grt_mem : ∀ (L : List Int) (m x : Int), x ∈ L → x ≤ grt m L
  | [], _, _, h => by simp at h
  | y :: L, m, x, h => by
    rw [grt]
    rcases List.mem_cons.1 h with h | h
    · have := grt_ge L (max m y); omega
    · exact grt_mem L _ x h
theorem isE_mod {T M p : Int} (hw : wValid T M = true) (h : isE T M p) : p % spc T M = 0 := by
  obtain ⟨b0, b1, b2, b3⟩ := spc_bd hw
  have h1 : (spc T M) ∣ 23040 := ⟨T, by omega⟩
  have h2 : (spc T M) ∣ p % 23040 := Int.dvd_of_emod_eq_zero h.2
  have h3 : p = 23040 * (p / 23040) + p % 23040 := (Int.mul_ediv_add_emod p 23040).symm
  rw [h3]
  exact Int.emod_eq_zero_of_dvd (Int.dvd_add (Int.dvd_trans h1 (Int.dvd_mul_right 23040 _)) h2)
/-- Two neighboring spaces of a steady motion. -/
theorem sp_facts {T M s : Int} {m : List (List Int)} {e : Int} (z : crE (wValid T M) s m e = 0) (hf : fewB s m e = true) (hs : stdB (crT T M s m e) m = true) {n : Nat} (hn : n + 2 < (crT T M s m e).length) :
    ∃ lo hi S : Int, 0 < lo ∧ 0 ≤ hi ∧ 16 * hi ≤ 17 * lo ∧ 0 < S ∧
      lo * ((crT T M s m e).getD (n + 1) 0 - (crT T M s m e).getD n 0 - 1) ≤ (spsL T M (crP T M s m e)).getD n 0 * S ∧
      (spsL T M (crP T M s m e)).getD n 0 * S ≤ hi * ((crT T M s m e).getD (n + 1) 0 - (crT T M s m e).getD n 0 + 1) ∧
      lo * ((crT T M s m e).getD (n + 2) 0 - (crT T M s m e).getD (n + 1) 0 - 1) ≤ (spsL T M (crP T M s m e)).getD (n + 1) 0 * S ∧
      (spsL T M (crP T M s m e)).getD (n + 1) 0 * S ≤ hi * ((crT T M s m e).getD (n + 2) 0 - (crT T M s m e).getD (n + 1) 0 + 1) := by
  obtain ⟨f1, f2, f3, f4, f5, f6, f7, f8, f9⟩ := cr_facts z hf
  obtain ⟨c1, c2, c3⟩ := cr_valid z hf
  obtain ⟨d1, d2, d3⟩ := cr_pos z hf
  obtain ⟨v1, v2, v3⟩ := vE_iff.1 c1
  obtain ⟨b0, b1, b2, b3⟩ := spc_bd f1
  have hV := (mV_iff.1 f2).2.2
  have hP : crP T M s m e = eL T M s (posOf s m e) := by unfold crP; rw [if_pos z]
  obtain ⟨e1, e2, e3⟩ := eL_spec (b := posOf s m e) f1 f4.1
  -- the times
  have hT : ∀ i, i < (crT T M s m e).length → (crP T M s m e).getD i 0 ∈ eL T M s (posOf s m e) ∧ (crT T M s m e).getD i 0 = (tmOf s m ((crP T M s m e).getD i 0)).1 := by
    intro i hi
    have hi2 : i < (crP T M s m e).length := by rw [hP]; omega
    refine ⟨by rw [← hP]; exact mem_getD hi2, ?_⟩
    unfold crT
    rw [List.getD_eq_getElem?_getD, List.getElem?_map, List.getD_eq_getElem?_getD, List.getElem?_eq_getElem hi2]
    rfl
  have hW : ∀ i, i < (crT T M s m e).length → 1 ≤ (crT T M s m e).getD i 0 ∧ (crT T M s m e).getD i 0 ≤ e ∧ ((crP T M s m e).getD i 0 - s) * 65536 ≤ way ((crT T M s m e).getD i 0) m ∧ way ((crT T M s m e).getD i 0 - 1) m < ((crP T M s m e).getD i 0 - s) * 65536 ∧ (crP T M s m e).getD i 0 % spc T M = 0 := by
    intro i hi
    obtain ⟨q1, q2⟩ := hT i hi
    obtain ⟨g1, g2, g3, g4, g5, g6, g7⟩ := cr_time z hf q1
    rw [pos_at g3] at g5
    rw [pos_at g4] at g6
    rw [q2]
    refine ⟨g1, g2, by omega, by omega, isE_mod f1 (e1 _ q1).2.2⟩
  obtain ⟨x1, x2, x3, x4, x5⟩ := hW n (by omega)
  obtain ⟨y1, y2, y3, y4, y5⟩ := hW (n + 1) (by omega)
  obtain ⟨w1, w2, w3, w4, w5⟩ := hW (n + 2) (by omega)
  have l0 := incr_get (j := n) v3 (by omega)
  have l1 : (crT T M s m e).getD (n + 1) 0 < (crT T M s m e).getD (n + 2) 0 := incr_get (j := n + 1) v3 (by omega)
  have k0 := spsL_get (T := T) (M := M) (P := crP T M s m e) (j := n) (by rw [hP]; omega)
  have k1 := spsL_get (T := T) (M := M) (P := crP T M s m e) (j := n + 1) (by rw [hP]; omega)
  have kk0 : (spsL T M (crP T M s m e)).getD n 0 * spc T M = (crP T M s m e).getD (n + 1) 0 - (crP T M s m e).getD n 0 := by
    rw [k0]
    exact Int.ediv_mul_cancel (Int.dvd_sub (Int.dvd_of_emod_eq_zero y5) (Int.dvd_of_emod_eq_zero x5))
  have kk1 : (spsL T M (crP T M s m e)).getD (n + 1) 0 * spc T M = (crP T M s m e).getD (n + 2) 0 - (crP T M s m e).getD (n + 1) 0 := by
    rw [k1]
    exact Int.ediv_mul_cancel (Int.dvd_sub (Int.dvd_of_emod_eq_zero w5) (Int.dvd_of_emod_eq_zero y5))
  have hst := allB_iff.1 hs (n + 1) (by omega)
  unfold stdP at hst
  rw [decide_eq_false (show ¬ n + 1 = 0 by omega), Bool.false_or, show n + 1 - 1 = n by omega, show n + 1 + 1 = n + 2 by omega] at hst
  simp only [Bool.and_eq_true, Bool.not_eq_true', decide_eq_false_iff_not, decide_eq_true_eq] at hst
  obtain ⟨⟨p1, p2⟩, p3, p4⟩ := lg_bd (s := s) (m := m) (a := max 0 ((crT T M s m e).getD n 0 - 1)) (b := (crT T M s m e).getD (n + 2) 0) f2 (by omega) (by omega)
  rw [show max 0 ((crT T M s m e).getD n 0 - 1) = (crT T M s m e).getD n 0 - 1 by omega] at hst p1 p2 p3 p4
  have hm : ∀ x ∈ nts 0 m ((crT T M s m e).getD n 0 - 1) ((crT T M s m e).getD (n + 2) 0), lsI m ((crT T M s m e).getD n 0 - 1) ((crT T M s m e).getD (n + 2) 0) ≤ x ∧ x ≤ grI m ((crT T M s m e).getD n 0 - 1) ((crT T M s m e).getD (n + 2) 0) := fun x hx => ⟨lst_mem _ _ x hx, grt_mem _ _ x hx⟩
  generalize lsI m ((crT T M s m e).getD n 0 - 1) ((crT T M s m e).getD (n + 2) 0) = lo at *
  generalize grI m ((crT T M s m e).getD n 0 - 1) ((crT T M s m e).getD (n + 2) 0) = hi at *
  generalize (spsL T M (crP T M s m e)).getD n 0 = k at *
  generalize (spsL T M (crP T M s m e)).getD (n + 1) 0 = q at *
  generalize (crP T M s m e).getD n 0 = P0 at *
  generalize (crP T M s m e).getD (n + 1) 0 = P1 at *
  generalize (crP T M s m e).getD (n + 2) 0 = P2 at *
  generalize (crT T M s m e).getD n 0 = t0 at *
  generalize (crT T M s m e).getD (n + 1) 0 = t1 at *
  generalize (crT T M s m e).getD (n + 2) 0 = t2 at *
  have A1 := way_nts m 0 t0 (t1 - t0 - 1) (t0 - 1) t2 lo hi hV (by omega) (by omega) (by omega) (by omega) hm
  have A2 := way_nts m 0 (t0 - 1) (t1 - t0 + 1) (t0 - 1) t2 lo hi hV (by omega) (by omega) (by omega) (by omega) hm
  have A3 := way_nts m 0 t1 (t2 - t1 - 1) (t0 - 1) t2 lo hi hV (by omega) (by omega) (by omega) (by omega) hm
  have A4 := way_nts m 0 (t1 - 1) (t2 - t1 + 1) (t0 - 1) t2 lo hi hV (by omega) (by omega) (by omega) (by omega) hm
  rw [show t0 + (t1 - t0 - 1) = t1 - 1 by omega] at A1
  rw [show t0 - 1 + (t1 - t0 + 1) = t1 by omega] at A2
  rw [show t1 + (t2 - t1 - 1) = t2 - 1 by omega] at A3
  rw [show t1 - 1 + (t2 - t1 + 1) = t2 by omega] at A4
  have E0 : k * (spc T M * 65536) = (P1 - P0) * 65536 := by rw [← kk0, Int.mul_assoc]
  have E1 : q * (spc T M * 65536) = (P2 - P1) * 65536 := by rw [← kk1, Int.mul_assoc]
  refine ⟨lo, hi, spc T M * 65536, by omega, p3, hst.2, by omega, ?_, ?_, ?_, ?_⟩
  · rw [E0, Int.mul_comm]; omega
  · rw [E0, Int.mul_comm hi]; omega
  · rw [E1, Int.mul_comm]; omega
  · rw [E1, Int.mul_comm hi]; omega
theorem sp_mul {lo hi k q S a b : Int} (h0 : 0 < lo) (hk : 0 ≤ k) (hq : 0 ≤ q) (hb : 0 ≤ b) (h1 : lo * (a - 1) ≤ k * S) (h2 : q * S ≤ hi * (b + 1)) (h3 : 16 * hi ≤ 17 * lo) : 16 * q * (a - 1) ≤ 17 * k * (b + 1) := by
  have e1 := Int.mul_le_mul_of_nonneg_left h1 hq
  have e2 := Int.mul_le_mul_of_nonneg_left h2 hk
  have e3 := Int.mul_le_mul_of_nonneg_left h3 (Int.mul_nonneg hk (show 0 ≤ b + 1 by omega))
  refine Int.le_of_mul_le_mul_left (a := lo) ?_ h0
  grind
theorem edg_pre {T M : Int} : ∀ (n : Nat) (p b b' : Int), b ≤ b' → ∃ r, edg T M n p b' = edg T M n p b ++ r
  | 0, p, b, b', _ => ⟨[], rfl⟩
  | n + 1, p, b, b', h => by
    rw [edg, edg]
    by_cases hp : p ≤ b
    · obtain ⟨r, hr⟩ := edg_pre (T := T) (M := M) n (nxA T M p) b b' h
      rw [if_pos hp, if_pos (show p ≤ b' by omega), hr]
      exact ⟨r, rfl⟩
    · rw [if_neg hp]
      exact ⟨_, rfl⟩
theorem eL_get {T M a b b' : Int} (h : b ≤ b') : (eL T M a b).length ≤ (eL T M a b').length ∧ ∀ j, j < (eL T M a b).length → (eL T M a b').getD j 0 = (eL T M a b).getD j 0 := by
  obtain ⟨r, hr⟩ := edg_pre (T := T) (M := M) 1000 (nxA T M a) b b' h
  unfold eL
  rw [hr]
  refine ⟨by simp, fun j hj => ?_⟩
  rw [List.getD_eq_getElem?_getD, List.getD_eq_getElem?_getD, List.getElem?_append_left hj]
theorem tb_facts {T M s : Int} {m : List (List Int)} {j d u : List Int} {e : Int} (h : toB T M s m j d u e = true) : toE T M s m j d u e = 0 ∧ d = [] ∧ calmB (crT T M s m e) (spsL T M (crP T M s m e)) j = true ∧ u.all (sparP (crT T M s m e) (spsL T M (crP T M s m e)) j) = true ∧ stdB (crT T M s m e) m = true := by
  unfold toB at h
  simp only [Bool.and_eq_true, decide_eq_true_eq] at h
  obtain ⟨⟨⟨⟨h1, h2⟩, h3⟩, h4⟩, h5⟩ := h
  exact ⟨h1, List.eq_nil_of_length_eq_zero h2, h3, h4, h5⟩
def spaceslaw_res (T : Int) (M : Int) (s : Int) (m : List (List Int)) (j : List Int) (d : List Int) (u : List Int) (e : Int) : CRes := ⟨[wfI .i64 T, wfI .i64 M, wfI .i64 s, wfR [.int .i64, .int .i64] m, wfL .i64 j, wfL .i64 d, wfL .i64 u, wfI .i64 e, lenB m, lenB j, lenB d, lenB u], .one (.cel (.bool (true))), []⟩
def spaceslaw_go : List TV → List RowA → List (List CV) → Option CRes := fun args rows caps =>
  match args, rows, caps with
  | [.agg [.int .i64 T, .int .i64 M], .agg [.int .i64 s, .row 0], .agg [.row 1, .row 2, .row 3], .cel (.int .i64 e)], [.recs [.int .i64, .int .i64] m, .ints .i64 j, .ints .i64 d, .ints .i64 u], [] => some (spaceslaw_res T M s m j d u e)
  | _, _, _ => none
def spaceslaw_e : Ent := ⟨9, [.recs [.int .i64, .int .i64] [], .ints .i64 [], .ints .i64 [], .ints .i64 []], spaceslaw_go⟩
def spaceslaw_L1_F (T : Int) (M : Int) (s : Int) (m : List (List Int)) (j : List Int) (d : List Int) (u : List Int) (e : Int) (i : Int) : St := ⟨163, [], [(16, (.one (.cel (.int .i64 i)))), (15, (.one (.cel (.int .i64 (spc T M))))), (13, (.one (.cel (.row 5)))), (11, (.one (.cel (.row 4)))), (8, (.one (.cel (.bool Bool.false))))], [[(.int .i64 T), (.int .i64 M)], [(.int .i64 s), (.row 0)], [(.row 1), (.row 2), (.row 3)]], [⟨(.recs [.int .i64, .int .i64] m), none⟩, ⟨(.ints .i64 j), none⟩, ⟨(.ints .i64 d), none⟩, ⟨(.ints .i64 u), none⟩, ⟨(.ints .i64 (crT T M s m e)), none⟩, ⟨(.ints .i64 (if ((wValid T M) = Bool.true) then (eL T M s (Go.IntKind.wrap Go.IntKind.i64 (s + (115200 : Int)))) else ([] : List Int))), none⟩], 0⟩
def spaceslaw_L1_I (T : Int) (M : Int) (s : Int) (m : List (List Int)) (j : List Int) (d : List Int) (u : List Int) (e : Int) (i : Int) : Prop := (fewB s m e = true ∧ toE T M s m j d u e = 0 ∧ toB T M s m j d u e = true) ∧ (1 ≤ i ∧ i ≤ 1000)
def spaceslaw_L1_m (T : Int) (M : Int) (s : Int) (m : List (List Int)) (j : List Int) (d : List Int) (u : List Int) (e : Int) (i : Int) : Nat := (1000 - i).toNat
def spaceslaw_L1_N (T : Int) (M : Int) (s : Int) (m : List (List Int)) (j : List Int) (d : List Int) (u : List Int) (e : Int) (i' : Int) (st_ : St) : Prop := getI st_ 16 fun i => spaceslaw_L1_I T M s m j d u e i ∧ spaceslaw_L1_m T M s m j d u e i < spaceslaw_L1_m T M s m j d u e i' ∧ SubA st_ (spaceslaw_L1_F T M s m j d u e i)
def spaceslaw_L1_E (T : Int) (M : Int) (s : Int) (m : List (List Int)) (j : List Int) (d : List Int) (u : List Int) (e : Int) (st_ : St) : Prop := getI st_ 16 fun i => spaceslaw_L1_I T M s m j d u e i ∧ SubA st_ (spaceslaw_L1_F T M s m j d u e i)
def spaceslaw_L1_S1 (T : Int) (M : Int) (s : Int) (m : List (List Int)) (j : List Int) (d : List Int) (u : List Int) (e : Int) : St := ⟨163, [71, 67, 42, 27], [(16, (.one (.cel (.int .i64 (1 : Int))))), (15, (.one (.cel (.int .i64 (spc T M))))), (79, (.one (.cel (.int .i64 (spc T M))))), (78, (.one (.agg [(.int .i64 T), (.int .i64 M)]))), (77, (.one (.cel (.bool (((!(decide ((crE (wValid T M) s m e) = (0 : Int)))) || (!(decide ((if ((wValid T M) = Bool.true) then (0 : Int) else (1 : Int)) = (0 : Int))))) || (decide ((((List.length (if ((wValid T M) = Bool.true) then (eL T M s (Go.IntKind.wrap Go.IntKind.i64 (s + (115200 : Int)))) else ([] : List Int))) : Nat) : Int) < (((List.length (crT T M s m e)) : Nat) : Int)))))))), (76, (.spec 71 Bool.false (.cel (.bool (decide ((((List.length (if ((wValid T M) = Bool.true) then (eL T M s (Go.IntKind.wrap Go.IntKind.i64 (s + (115200 : Int)))) else ([] : List Int))) : Nat) : Int) < (((List.length (crT T M s m e)) : Nat) : Int))))))), (75, (.spec 71 Bool.false (.cel (.int .i64 (((List.length (crT T M s m e)) : Nat) : Int))))), (74, (.spec 71 Bool.false (.cel (.row 4)))), (73, (.spec 71 Bool.false (.cel (.int .i64 (((List.length (if ((wValid T M) = Bool.true) then (eL T M s (Go.IntKind.wrap Go.IntKind.i64 (s + (115200 : Int)))) else ([] : List Int))) : Nat) : Int))))), (72, (.spec 71 Bool.false (.cel (.row 5)))), (71, (.one (.cel (.bool ((!(decide ((crE (wValid T M) s m e) = (0 : Int)))) || (!(decide ((if ((wValid T M) = Bool.true) then (0 : Int) else (1 : Int)) = (0 : Int))))))))), (70, (.one (.cel (.bool ((!(decide ((crE (wValid T M) s m e) = (0 : Int)))) || (!(decide ((if ((wValid T M) = Bool.true) then (0 : Int) else (1 : Int)) = (0 : Int))))))))), (69, (.spec 67 Bool.false (.cel (.bool (!(decide ((if ((wValid T M) = Bool.true) then (0 : Int) else (1 : Int)) = (0 : Int)))))))), (68, (.spec 67 Bool.false (.cel (.int .i64 (if ((wValid T M) = Bool.true) then (0 : Int) else (1 : Int)))))), (67, (.one (.cel (.bool (!(decide ((crE (wValid T M) s m e) = (0 : Int)))))))), (66, (.one (.cel (.bool (!(decide ((crE (wValid T M) s m e) = (0 : Int)))))))), (65, (.one (.cel (.int .i64 (crE (wValid T M) s m e))))), (14, (.one (.cel (.int .i64 (if ((wValid T M) = Bool.true) then (0 : Int) else (1 : Int)))))), (13, (.one (.cel (.row 5)))), (64, (.one (.cel (.int .i64 (if ((wValid T M) = Bool.true) then (0 : Int) else (1 : Int)))))), (63, (.one (.cel (.row 5)))), (55, (.tup [(.cel (.row 5)), (.cel (.int .i64 (if ((wValid T M) = Bool.true) then (0 : Int) else (1 : Int))))])), (62, (.tup [(.cel (.row 5)), (.cel (.int .i64 (if ((wValid T M) = Bool.true) then (0 : Int) else (1 : Int))))])), (61, (.one (.cel (.int .i64 (Go.IntKind.wrap Go.IntKind.i64 (s + (115200 : Int))))))), (60, (.one (.cel (.int .i64 s)))), (59, (.one (.cel (.ptr 1 0)))), (58, (.one (.cel (.int .i64 s)))), (57, (.one (.cel (.ptr 1 0)))), (56, (.one (.agg [(.int .i64 T), (.int .i64 M)]))), (12, (.one (.cel (.int .i64 (crE (wValid T M) s m e))))), (11, (.one (.cel (.row 4)))), (54, (.one (.cel (.int .i64 (crE (wValid T M) s m e))))), (53, (.one (.cel (.row 4)))), (48, (.tup [(.cel (.row 4)), (.cel (.int .i64 (crE (wValid T M) s m e)))])), (52, (.tup [(.cel (.row 4)), (.cel (.int .i64 (crE (wValid T M) s m e)))])), (51, (.one (.cel (.int .i64 e)))), (50, (.one (.agg [(.int .i64 s), (.row 0)]))), (49, (.one (.agg [(.int .i64 T), (.int .i64 M)]))), (45, (.one (.cel (.bool ((!(decide ((toE T M s m j d u e) = (0 : Int)))) || (!(toB T M s m j d u e))))))), (44, (.spec 42 Bool.false (.cel (.bool (!(toB T M s m j d u e)))))), (43, (.spec 42 Bool.false (.cel (.bool (toB T M s m j d u e))))), (42, (.one (.cel (.bool (!(decide ((toE T M s m j d u e) = (0 : Int)))))))), (41, (.one (.cel (.bool (!(decide ((toE T M s m j d u e) = (0 : Int)))))))), (40, (.one (.cel (.int .i64 (toE T M s m j d u e))))), (10, (.one (.cel (.int .i64 (toE T M s m j d u e))))), (9, (.one (.cel (.bool (toB T M s m j d u e))))), (39, (.one (.cel (.int .i64 (toE T M s m j d u e))))), (38, (.one (.cel (.bool (toB T M s m j d u e))))), (32, (.tup [(.cel (.bool (toB T M s m j d u e))), (.cel (.int .i64 (toE T M s m j d u e)))])), (37, (.tup [(.cel (.bool (toB T M s m j d u e))), (.cel (.int .i64 (toE T M s m j d u e)))])), (36, (.one (.cel (.int .i64 e)))), (35, (.one (.agg [(.row 1), (.row 2), (.row 3)]))), (34, (.one (.agg [(.int .i64 s), (.row 0)]))), (33, (.one (.agg [(.int .i64 T), (.int .i64 M)]))), (31, (.one (.cel (.bool ((!((decide ((((List.length m) : Nat) : Int) ≤ (60 : Int))) && (fewB s m e))) || (!(shB j d u))))))), (30, (.spec 27 Bool.false (.cel (.bool (!(shB j d u)))))), (29, (.spec 27 Bool.false (.cel (.bool (shB j d u))))), (28, (.spec 27 Bool.false (.agg [(.row 1), (.row 2), (.row 3)]))), (27, (.one (.cel (.bool (!((decide ((((List.length m) : Nat) : Int) ≤ (60 : Int))) && (fewB s m e))))))), (26, (.one (.cel (.bool (!((decide ((((List.length m) : Nat) : Int) ≤ (60 : Int))) && (fewB s m e))))))), (25, (.one (.cel (.bool ((decide ((((List.length m) : Nat) : Int) ≤ (60 : Int))) && (fewB s m e)))))), (24, (.one (.cel (.int .i64 e)))), (23, (.one (.agg [(.int .i64 s), (.row 0)]))), (22, (.one (.cel (.bool (!Bool.true))))), (21, (.one (.cel (.bool Bool.true)))), (8, (.one (.cel (.bool Bool.false)))), (6, (.one (.cel (.ptr 2 0)))), (5, (.one (.cel (.ptr 1 0)))), (4, (.one (.cel (.ptr 0 0)))), (0, (.one (.agg [(.int .i64 T), (.int .i64 M)]))), (1, (.one (.agg [(.int .i64 s), (.row 0)]))), (2, (.one (.agg [(.row 1), (.row 2), (.row 3)]))), (3, (.one (.cel (.int .i64 e))))], [[(.int .i64 T), (.int .i64 M)], [(.int .i64 s), (.row 0)], [(.row 1), (.row 2), (.row 3)]], [⟨(.recs [.int .i64, .int .i64] m), none⟩, ⟨(.ints .i64 j), none⟩, ⟨(.ints .i64 d), none⟩, ⟨(.ints .i64 u), none⟩, ⟨(.ints .i64 (crT T M s m e)), none⟩, ⟨(.ints .i64 (if ((wValid T M) = Bool.true) then (eL T M s (Go.IntKind.wrap Go.IntKind.i64 (s + (115200 : Int)))) else ([] : List Int))), none⟩], 0⟩
def spaceslaw_L1_T (T : Int) (M : Int) (s : Int) (m : List (List Int)) (j : List Int) (d : List Int) (u : List Int) (e : Int) (i : Int) : Prop := (cnd (decide ((Go.IntKind.wrap Go.IntKind.i64 (i + (1 : Int))) < (((List.length (crT T M s m e)) : Nat) : Int)))
  (cnd (decide ((0 : Int) ≤ i))
    (cnd (decide (i < (((List.length (crT T M s m e)) : Nat) : Int)))
      (cnd (decide ((0 : Int) ≤ (Go.IntKind.wrap Go.IntKind.i64 (i - (1 : Int)))))
        (cnd (decide ((Go.IntKind.wrap Go.IntKind.i64 (i - (1 : Int))) < (((List.length (crT T M s m e)) : Nat) : Int)))
          (cnd (decide ((0 : Int) ≤ (Go.IntKind.wrap Go.IntKind.i64 (i + (1 : Int)))))
            (cnd (decide ((Go.IntKind.wrap Go.IntKind.i64 (i + (1 : Int))) < (((List.length (crT T M s m e)) : Nat) : Int)))
              (cnd (decide ((0 : Int) ≤ i))
                (cnd (decide (i < (((List.length (crT T M s m e)) : Nat) : Int)))
                  (cnd (decide ((0 : Int) ≤ i))
                    (cnd (decide (i < (((List.length (if ((wValid T M) = Bool.true) then (eL T M s (Go.IntKind.wrap Go.IntKind.i64 (s + (115200 : Int)))) else ([] : List Int))) : Nat) : Int)))
                      (cnd (decide ((0 : Int) ≤ (Go.IntKind.wrap Go.IntKind.i64 (i - (1 : Int)))))
                        (cnd (decide ((Go.IntKind.wrap Go.IntKind.i64 (i - (1 : Int))) < (((List.length (if ((wValid T M) = Bool.true) then (eL T M s (Go.IntKind.wrap Go.IntKind.i64 (s + (115200 : Int)))) else ([] : List Int))) : Nat) : Int)))
                          (cnd (decide ((spc T M) ≠ (0 : Int)))
                            (cnd (decide ((0 : Int) ≤ (Go.IntKind.wrap Go.IntKind.i64 (i + (1 : Int)))))
                              (cnd (decide ((Go.IntKind.wrap Go.IntKind.i64 (i + (1 : Int))) < (((List.length (if ((wValid T M) = Bool.true) then (eL T M s (Go.IntKind.wrap Go.IntKind.i64 (s + (115200 : Int)))) else ([] : List Int))) : Nat) : Int)))
                                (cnd (decide ((0 : Int) ≤ i))
                                  (cnd (decide (i < (((List.length (if ((wValid T M) = Bool.true) then (eL T M s (Go.IntKind.wrap Go.IntKind.i64 (s + (115200 : Int)))) else ([] : List Int))) : Nat) : Int)))
                                    (cnd (decide ((spc T M) ≠ (0 : Int)))
                                      (cnd ((decide ((Go.IntKind.wrap Go.IntKind.i64 ((Go.IntKind.wrap Go.IntKind.i64 ((Go.IntKind.wrap Go.IntKind.i64 ((Go.IntKind.wrap Go.IntKind.i64 ((17 : Int) * (Go.IntKind.wrap Go.IntKind.i64 (Int.tdiv (Go.IntKind.wrap Go.IntKind.i64 ((List.getD (if ((wValid T M) = Bool.true) then (eL T M s (Go.IntKind.wrap Go.IntKind.i64 (s + (115200 : Int)))) else ([] : List Int)) (Int.toNat i) (0 : Int)) - (List.getD (if ((wValid T M) = Bool.true) then (eL T M s (Go.IntKind.wrap Go.IntKind.i64 (s + (115200 : Int)))) else ([] : List Int)) (Int.toNat (Go.IntKind.wrap Go.IntKind.i64 (i - (1 : Int)))) (0 : Int)))) (spc T M))))) * (Go.IntKind.wrap Go.IntKind.i64 ((List.getD (crT T M s m e) (Int.toNat (Go.IntKind.wrap Go.IntKind.i64 (i + (1 : Int)))) (0 : Int)) - (List.getD (crT T M s m e) (Int.toNat i) (0 : Int)))))) + (Go.IntKind.wrap Go.IntKind.i64 ((17 : Int) * (Go.IntKind.wrap Go.IntKind.i64 (Int.tdiv (Go.IntKind.wrap Go.IntKind.i64 ((List.getD (if ((wValid T M) = Bool.true) then (eL T M s (Go.IntKind.wrap Go.IntKind.i64 (s + (115200 : Int)))) else ([] : List Int)) (Int.toNat i) (0 : Int)) - (List.getD (if ((wValid T M) = Bool.true) then (eL T M s (Go.IntKind.wrap Go.IntKind.i64 (s + (115200 : Int)))) else ([] : List Int)) (Int.toNat (Go.IntKind.wrap Go.IntKind.i64 (i - (1 : Int)))) (0 : Int)))) (spc T M))))))) + (Go.IntKind.wrap Go.IntKind.i64 ((16 : Int) * (Go.IntKind.wrap Go.IntKind.i64 (Int.tdiv (Go.IntKind.wrap Go.IntKind.i64 ((List.getD (if ((wValid T M) = Bool.true) then (eL T M s (Go.IntKind.wrap Go.IntKind.i64 (s + (115200 : Int)))) else ([] : List Int)) (Int.toNat (Go.IntKind.wrap Go.IntKind.i64 (i + (1 : Int)))) (0 : Int)) - (List.getD (if ((wValid T M) = Bool.true) then (eL T M s (Go.IntKind.wrap Go.IntKind.i64 (s + (115200 : Int)))) else ([] : List Int)) (Int.toNat i) (0 : Int)))) (spc T M))))))) < (Go.IntKind.wrap Go.IntKind.i64 ((Go.IntKind.wrap Go.IntKind.i64 ((16 : Int) * (Go.IntKind.wrap Go.IntKind.i64 (Int.tdiv (Go.IntKind.wrap Go.IntKind.i64 ((List.getD (if ((wValid T M) = Bool.true) then (eL T M s (Go.IntKind.wrap Go.IntKind.i64 (s + (115200 : Int)))) else ([] : List Int)) (Int.toNat (Go.IntKind.wrap Go.IntKind.i64 (i + (1 : Int)))) (0 : Int)) - (List.getD (if ((wValid T M) = Bool.true) then (eL T M s (Go.IntKind.wrap Go.IntKind.i64 (s + (115200 : Int)))) else ([] : List Int)) (Int.toNat i) (0 : Int)))) (spc T M))))) * (Go.IntKind.wrap Go.IntKind.i64 ((List.getD (crT T M s m e) (Int.toNat i) (0 : Int)) - (List.getD (crT T M s m e) (Int.toNat (Go.IntKind.wrap Go.IntKind.i64 (i - (1 : Int)))) (0 : Int)))))))) || (decide ((Go.IntKind.wrap Go.IntKind.i64 ((Go.IntKind.wrap Go.IntKind.i64 ((Go.IntKind.wrap Go.IntKind.i64 ((Go.IntKind.wrap Go.IntKind.i64 ((17 : Int) * (Go.IntKind.wrap Go.IntKind.i64 (Int.tdiv (Go.IntKind.wrap Go.IntKind.i64 ((List.getD (if ((wValid T M) = Bool.true) then (eL T M s (Go.IntKind.wrap Go.IntKind.i64 (s + (115200 : Int)))) else ([] : List Int)) (Int.toNat (Go.IntKind.wrap Go.IntKind.i64 (i + (1 : Int)))) (0 : Int)) - (List.getD (if ((wValid T M) = Bool.true) then (eL T M s (Go.IntKind.wrap Go.IntKind.i64 (s + (115200 : Int)))) else ([] : List Int)) (Int.toNat i) (0 : Int)))) (spc T M))))) * (Go.IntKind.wrap Go.IntKind.i64 ((List.getD (crT T M s m e) (Int.toNat i) (0 : Int)) - (List.getD (crT T M s m e) (Int.toNat (Go.IntKind.wrap Go.IntKind.i64 (i - (1 : Int)))) (0 : Int)))))) + (Go.IntKind.wrap Go.IntKind.i64 ((17 : Int) * (Go.IntKind.wrap Go.IntKind.i64 (Int.tdiv (Go.IntKind.wrap Go.IntKind.i64 ((List.getD (if ((wValid T M) = Bool.true) then (eL T M s (Go.IntKind.wrap Go.IntKind.i64 (s + (115200 : Int)))) else ([] : List Int)) (Int.toNat (Go.IntKind.wrap Go.IntKind.i64 (i + (1 : Int)))) (0 : Int)) - (List.getD (if ((wValid T M) = Bool.true) then (eL T M s (Go.IntKind.wrap Go.IntKind.i64 (s + (115200 : Int)))) else ([] : List Int)) (Int.toNat i) (0 : Int)))) (spc T M))))))) + (Go.IntKind.wrap Go.IntKind.i64 ((16 : Int) * (Go.IntKind.wrap Go.IntKind.i64 (Int.tdiv (Go.IntKind.wrap Go.IntKind.i64 ((List.getD (if ((wValid T M) = Bool.true) then (eL T M s (Go.IntKind.wrap Go.IntKind.i64 (s + (115200 : Int)))) else ([] : List Int)) (Int.toNat i) (0 : Int)) - (List.getD (if ((wValid T M) = Bool.true) then (eL T M s (Go.IntKind.wrap Go.IntKind.i64 (s + (115200 : Int)))) else ([] : List Int)) (Int.toNat (Go.IntKind.wrap Go.IntKind.i64 (i - (1 : Int)))) (0 : Int)))) (spc T M))))))) < (Go.IntKind.wrap Go.IntKind.i64 ((Go.IntKind.wrap Go.IntKind.i64 ((16 : Int) * (Go.IntKind.wrap Go.IntKind.i64 (Int.tdiv (Go.IntKind.wrap Go.IntKind.i64 ((List.getD (if ((wValid T M) = Bool.true) then (eL T M s (Go.IntKind.wrap Go.IntKind.i64 (s + (115200 : Int)))) else ([] : List Int)) (Int.toNat i) (0 : Int)) - (List.getD (if ((wValid T M) = Bool.true) then (eL T M s (Go.IntKind.wrap Go.IntKind.i64 (s + (115200 : Int)))) else ([] : List Int)) (Int.toNat (Go.IntKind.wrap Go.IntKind.i64 (i - (1 : Int)))) (0 : Int)))) (spc T M))))) * (Go.IntKind.wrap Go.IntKind.i64 ((List.getD (crT T M s m e) (Int.toNat (Go.IntKind.wrap Go.IntKind.i64 (i + (1 : Int)))) (0 : Int)) - (List.getD (crT T M s m e) (Int.toNat i) (0 : Int)))))))))
                                        (Bool.false = Bool.true)
                                        ((spaceslaw_L1_I T M s m j d u e (Go.IntKind.wrap Go.IntKind.i64 (i + (1 : Int)))) ∧ (((spaceslaw_L1_m T M s m j d u e (Go.IntKind.wrap Go.IntKind.i64 (i + (1 : Int)))) < (spaceslaw_L1_m T M s m j d u e i)) ∧ (((Go.IntKind.wrap Go.IntKind.i64 (i + (1 : Int))) = (Go.IntKind.wrap Go.IntKind.i64 (i + (1 : Int)))) ∧ (((spc T M) = (spc T M)) ∧ (True ∧ (True ∧ ((Bool.false = Bool.false) ∧ (((T = T) ∧ (M = M)) ∧ (((s = s) ∧ True) ∧ ((True ∧ (True ∧ True)) ∧ ((m = m) ∧ ((j = j) ∧ ((d = d) ∧ ((u = u) ∧ (((crT T M s m e) = (crT T M s m e)) ∧ (((if ((wValid T M) = Bool.true) then (eL T M s (Go.IntKind.wrap Go.IntKind.i64 (s + (115200 : Int)))) else ([] : List Int)) = (if ((wValid T M) = Bool.true) then (eL T M s (Go.IntKind.wrap Go.IntKind.i64 (s + (115200 : Int)))) else ([] : List Int))) ∧ True)))))))))))))))))
                                      False)
                                    False)
                                  False)
                                False)
                              False)
                            False)
                          False)
                        False)
                      False)
                    False)
                  False)
                False)
              False)
            False)
          False)
        False)
      False)
    False)
  (Bool.true = Bool.true))
set_option maxRecDepth 100000 in
theorem spaceslaw_L1_tree (T : Int) (M : Int) (s : Int) (m : List (List Int)) (j : List Int) (d : List Int) (u : List Int) (e : Int) (i : Int) : spaceslaw_L1_T T M s m j d u e i = ex Try.prog (conOf [awake_e, few_e, short_e, toler_e, Crank_e, between_e, wspace_e]) (subC (bodyOf Try.f9) [1, 1, 1, 1, 1, 1, 1, 1, 1, 0, 1, 0, 0]) (nextE (spaceslaw_L1_N T M s m j d u e i) (kont Try.prog (conOf [awake_e, few_e, short_e, toler_e, Crank_e, between_e, wspace_e]) (bodyOf Try.f9) [1, 1, 1, 1, 1, 1, 1, 1, 1, 0, 1, 0] (retPost Try.prog Try.f9 4 (spaceslaw_res T M s m j d u e)))) (spaceslaw_L1_F T M s m j d u e i) := by kernel_rfl
set_option maxRecDepth 100000 in
theorem spaceslaw_L1_round (T : Int) (M : Int) (s : Int) (m : List (List Int)) (j : List Int) (d : List Int) (u : List Int) (e : Int) (i : Int) (p0 : (wfI .i64 T) = true) (p1 : (wfI .i64 M) = true) (p2 : (wfI .i64 s) = true) (p3 : (wfR [.int .i64, .int .i64] m) = true) (p4 : (wfL .i64 j) = true) (p5 : (wfL .i64 d) = true) (p6 : (wfL .i64 u) = true) (p7 : (wfI .i64 e) = true) (p8 : (lenB m) = true) (p9 : (lenB j) = true) (p10 : (lenB d) = true) (p11 : (lenB u) = true) (hI_L1 : spaceslaw_L1_I T M s m j d u e i) : spaceslaw_L1_T T M s m j d u e i := by
  obtain ⟨⟨hf, hE, hT⟩, a1, a2⟩ := hI_L1
  obtain ⟨z, z1, z2, z3, z4, z5, z6⟩ := to_facts hE
  obtain ⟨t1, t2, t3, t4, t5⟩ := tb_facts hT
  obtain ⟨f1, f2, f3, f4, f5, f6, f7, f8, f9⟩ := cr_facts z hf
  obtain ⟨c1, c2, c3⟩ := cr_valid z hf
  obtain ⟨v1, v2, v3⟩ := vE_iff.1 c1
  obtain ⟨b0, b1, b2, b3⟩ := spc_bd f1
  have hF : i + 1 ≤ 1000 → spaceslaw_L1_I T M s m j d u e (i + 1) := fun h => ⟨⟨hf, hE, hT⟩, by omega, h⟩
  have hμ : i + 1 ≤ 1000 → spaceslaw_L1_m T M s m j d u e (i + 1) < spaceslaw_L1_m T M s m j d u e i := fun h => by unfold spaceslaw_L1_m; omega
  unfold spaceslaw_L1_T
  obtain ⟨q1, q2⟩ := eL_get (T := T) (M := M) (a := s) (b := posOf s m e) (b' := s + 115200) (by omega)
  rw [w64 (n := s + 115200) (by omega) (by omega), w64 (n := i + 1) (by omega) (by omega), w64 (n := i - 1) (by omega) (by omega), if_pos f1, show (i + 1).toNat = i.toNat + 1 by omega, show (i - 1).toNat = i.toNat - 1 by omega]
  by_cases hi : i + 1 < (crT T M s m e).length
  · obtain ⟨lo, hi', S, s1, s2, s3, s4, s5, s6, s7, s8⟩ := sp_facts z hf t5 (n := i.toNat - 1) (by omega)
    simp only [show i.toNat - 1 + 1 = i.toNat by omega, show i.toNat - 1 + 2 = i.toNat + 1 by omega] at s5 s6 s7 s8
    obtain ⟨k1, k2, k3⟩ := k_eval z hf (n := i.toNat - 1) (by omega)
    obtain ⟨k4, k5, k6⟩ := k_eval z hf (n := i.toNat) (by omega)
    rw [show i.toNat - 1 + 1 = i.toNat by omega] at k1
    have x0 := isT_iff.1 (all_get v2 (j := i.toNat) (by omega))
    have x1 := isT_iff.1 (all_get v2 (j := i.toNat + 1) (by omega))
    have x2 := isT_iff.1 (all_get v2 (j := i.toNat - 1) (by omega))
    have y0 := incr_get (j := i.toNat - 1) v3 (by omega)
    have y1 := incr_get (j := i.toNat) v3 (by omega)
    rw [show i.toNat - 1 + 1 = i.toNat by omega] at y0
    rw [q2 i.toNat (by omega), q2 (i.toNat + 1) (by omega), q2 (i.toNat - 1) (by omega), k1, k4]
    rw [decide_eq_true hi, decide_eq_true (show 0 ≤ i by omega), decide_eq_true (show i < ((crT T M s m e).length : Int) by omega), decide_eq_true (show 0 ≤ i - 1 by omega), decide_eq_true (show i - 1 < ((crT T M s m e).length : Int) by omega), decide_eq_true (show 0 ≤ i + 1 by omega), decide_eq_true (show i < ((eL T M s (s + 115200)).length : Int) by omega), decide_eq_true (show i - 1 < ((eL T M s (s + 115200)).length : Int) by omega), decide_eq_true (show i + 1 < ((eL T M s (s + 115200)).length : Int) by omega), decide_eq_true (show spc T M ≠ 0 by omega)]
    rw [w64 (n := (crT T M s m e).getD (i.toNat + 1) 0 - (crT T M s m e).getD i.toNat 0) (by omega) (by omega), w64 (n := (crT T M s m e).getD i.toNat 0 - (crT T M s m e).getD (i.toNat - 1) 0) (by omega) (by omega)]
    have hA : 1 ≤ (crT T M s m e).getD i.toNat 0 - (crT T M s m e).getD (i.toNat - 1) 0 ∧ (crT T M s m e).getD i.toNat 0 - (crT T M s m e).getD (i.toNat - 1) 0 ≤ 1099511627776 := by omega
    have hB : 1 ≤ (crT T M s m e).getD (i.toNat + 1) 0 - (crT T M s m e).getD i.toNat 0 ∧ (crT T M s m e).getD (i.toNat + 1) 0 - (crT T M s m e).getD i.toNat 0 ≤ 1099511627776 := by omega
    generalize (crT T M s m e).getD i.toNat 0 - (crT T M s m e).getD (i.toNat - 1) 0 = A at *
    generalize (crT T M s m e).getD (i.toNat + 1) 0 - (crT T M s m e).getD i.toNat 0 = B at *
    generalize (spsL T M (crP T M s m e)).getD (i.toNat - 1) 0 = K at *
    generalize (spsL T M (crP T M s m e)).getD i.toNat 0 = Q at *
    have g1 := sp_mul (a := A) (b := B) s1 k2 k5 (by omega) s5 s8 s3
    have g2 := sp_mul (a := B) (b := A) s1 k5 k2 (by omega) s7 s6 s3
    have m1 := mul_bd (A := 16 * 120) (B := 1099511627776) (show 0 ≤ 16 * Q by omega) (by omega) (show 0 ≤ A by omega) hA.2
    have m2 := mul_bd (A := 17 * 120) (B := 1099511627776) (show 0 ≤ 17 * K by omega) (by omega) (show 0 ≤ B by omega) hB.2
    have m3 := mul_bd (A := 16 * 120) (B := 1099511627776) (show 0 ≤ 16 * K by omega) (by omega) (show 0 ≤ B by omega) hB.2
    have m4 := mul_bd (A := 17 * 120) (B := 1099511627776) (show 0 ≤ 17 * Q by omega) (by omega) (show 0 ≤ A by omega) hA.2
    have g3 : 16 * Q * A ≤ 17 * K * B + 17 * K + 16 * Q := by rw [Int.mul_sub, Int.mul_add, Int.mul_one, Int.mul_one] at g1; omega
    have g4 : 16 * K * B ≤ 17 * Q * A + 17 * Q + 16 * K := by rw [Int.mul_sub, Int.mul_add, Int.mul_one, Int.mul_one] at g2; omega
    rw [w64 (n := 17 * K) (by omega) (by omega), w64 (n := 17 * Q) (by omega) (by omega), w64 (n := 16 * K) (by omega) (by omega), w64 (n := 16 * Q) (by omega) (by omega), w64 (n := 16 * Q * A) (by omega) (by omega), w64 (n := 17 * K * B) (by omega) (by omega), w64 (n := 16 * K * B) (by omega) (by omega), w64 (n := 17 * Q * A) (by omega) (by omega), w64 (n := 17 * K * B + 17 * K) (by omega) (by omega), w64 (n := 17 * Q * A + 17 * Q) (by omega) (by omega), w64 (n := 17 * K * B + 17 * K + 16 * Q) (by omega) (by omega), w64 (n := 17 * Q * A + 17 * Q + 16 * K) (by omega) (by omega)]
    rw [decide_eq_false (show ¬ 17 * K * B + 17 * K + 16 * Q < 16 * Q * A by omega), decide_eq_false (show ¬ 17 * Q * A + 17 * Q + 16 * K < 16 * K * B by omega)]
    exact ⟨hF (by omega), hμ (by omega), by simp⟩
  · rw [decide_eq_false hi]
    rfl
set_option maxRecDepth 100000 in
theorem spaceslaw_L1_entry1 (T : Int) (M : Int) (s : Int) (m : List (List Int)) (j : List Int) (d : List Int) (u : List Int) (e : Int) : (((spaceslaw_L1_I T M s m j d u e (1 : Int)) ∧ (((1 : Int) = (1 : Int)) ∧ (((spc T M) = (spc T M)) ∧ (True ∧ (True ∧ ((Bool.false = Bool.false) ∧ (((T = T) ∧ (M = M)) ∧ (((s = s) ∧ True) ∧ ((True ∧ (True ∧ True)) ∧ ((m = m) ∧ ((j = j) ∧ ((d = d) ∧ ((u = u) ∧ (((crT T M s m e) = (crT T M s m e)) ∧ (((if ((wValid T M) = Bool.true) then (eL T M s (Go.IntKind.wrap Go.IntKind.i64 (s + (115200 : Int)))) else ([] : List Int)) = (if ((wValid T M) = Bool.true) then (eL T M s (Go.IntKind.wrap Go.IntKind.i64 (s + (115200 : Int)))) else ([] : List Int))) ∧ True)))))))))))))))) = spaceslaw_L1_E T M s m j d u e (spaceslaw_L1_S1 T M s m j d u e) := by kernel_rfl
theorem spaceslaw_L1_1 (T : Int) (M : Int) (s : Int) (m : List (List Int)) (j : List Int) (d : List Int) (u : List Int) (e : Int) (p0 : (wfI .i64 T) = true) (p1 : (wfI .i64 M) = true) (p2 : (wfI .i64 s) = true) (p3 : (wfR [.int .i64, .int .i64] m) = true) (p4 : (wfL .i64 j) = true) (p5 : (wfL .i64 d) = true) (p6 : (wfL .i64 u) = true) (p7 : (wfI .i64 e) = true) (p8 : (lenB m) = true) (p9 : (lenB j) = true) (p10 : (lenB d) = true) (p11 : (lenB u) = true) (h : ((spaceslaw_L1_I T M s m j d u e (1 : Int)) ∧ (((1 : Int) = (1 : Int)) ∧ (((spc T M) = (spc T M)) ∧ (True ∧ (True ∧ ((Bool.false = Bool.false) ∧ (((T = T) ∧ (M = M)) ∧ (((s = s) ∧ True) ∧ ((True ∧ (True ∧ True)) ∧ ((m = m) ∧ ((j = j) ∧ ((d = d) ∧ ((u = u) ∧ (((crT T M s m e) = (crT T M s m e)) ∧ (((if ((wValid T M) = Bool.true) then (eL T M s (Go.IntKind.wrap Go.IntKind.i64 (s + (115200 : Int)))) else ([] : List Int)) = (if ((wValid T M) = Bool.true) then (eL T M s (Go.IntKind.wrap Go.IntKind.i64 (s + (115200 : Int)))) else ([] : List Int))) ∧ True)))))))))))))))) : LoopP (ex Try.prog (conOf [awake_e, few_e, short_e, toler_e, Crank_e, between_e, wspace_e]) (subC (bodyOf Try.f9) [1, 1, 1, 1, 1, 1, 1, 1, 1, 0, 1, 0, 0])) (kont Try.prog (conOf [awake_e, few_e, short_e, toler_e, Crank_e, between_e, wspace_e]) (bodyOf Try.f9) [1, 1, 1, 1, 1, 1, 1, 1, 1, 0, 1, 0] (retPost Try.prog Try.f9 4 (spaceslaw_res T M s m j d u e))) (spaceslaw_L1_S1 T M s m j d u e) := by
  have hE : spaceslaw_L1_E T M s m j d u e (spaceslaw_L1_S1 T M s m j d u e) := Eq.mp (spaceslaw_L1_entry1 T M s m j d u e) h
  unfold spaceslaw_L1_E at hE
  obtain ⟨i, hE⟩ := getI_of hE
  refine loop_of (α := (Int)) (fun xx_ => spaceslaw_L1_F T M s m j d u e xx_) (fun xx_ => spaceslaw_L1_I T M s m j d u e xx_) (fun xx_ => spaceslaw_L1_m T M s m j d u e xx_) (fun xx_ => spaceslaw_L1_N T M s m j d u e xx_) (fun xx_ => spaceslaw_L1_T T M s m j d u e xx_) (fun xx_ s_ h => ?_) ⟨i, hE⟩ (fun xx_ => spaceslaw_L1_tree T M s m j d u e xx_) (fun xx_ hI => spaceslaw_L1_round T M s m j d u e xx_ p0 p1 p2 p3 p4 p5 p6 p7 p8 p9 p10 p11 hI)
  unfold spaceslaw_L1_N at h
  obtain ⟨i, h⟩ := getI_of h
  exact ⟨i, h⟩
set_option maxRecDepth 100000 in
theorem spaceslaw_tree (T : Int) (M : Int) (s : Int) (m : List (List Int)) (j : List Int) (d : List Int) (u : List Int) (e : Int) : ((cnd (decide ((((List.length m) : Nat) : Int) ≤ (9223372036854775807 : Int)))
  (cnd ((!((decide ((((List.length m) : Nat) : Int) ≤ (60 : Int))) && (fewB s m e))) || (!(shB j d u)))
    (Bool.true = Bool.true)
    (cnd (fewB s m e)
      (cnd ((!(decide ((toE T M s m j d u e) = (0 : Int)))) || (!(toB T M s m j d u e)))
        ((!(toB T M s m j d u e)) = Bool.true)
        (cnd (fewB s m e)
          (cnd ((isT s) && (isT (Go.IntKind.wrap Go.IntKind.i64 (s + (115200 : Int)))))
            (cnd (decide (s ≤ (Go.IntKind.wrap Go.IntKind.i64 (s + (115200 : Int)))))
              (cnd (decide ((Go.IntKind.wrap Go.IntKind.i64 (s + (115200 : Int))) ≤ (s + (115200 : Int))))
                (cnd (((!(decide ((crE (wValid T M) s m e) = (0 : Int)))) || (!(decide ((if ((wValid T M) = Bool.true) then (0 : Int) else (1 : Int)) = (0 : Int))))) || (decide ((((List.length (if ((wValid T M) = Bool.true) then (eL T M s (Go.IntKind.wrap Go.IntKind.i64 (s + (115200 : Int)))) else ([] : List Int))) : Nat) : Int) < (((List.length (crT T M s m e)) : Nat) : Int))))
                  (Bool.false = Bool.true)
                  (LoopP (ex Try.prog (conOf [awake_e, few_e, short_e, toler_e, Crank_e, between_e, wspace_e]) (subC (bodyOf Try.f9) [1, 1, 1, 1, 1, 1, 1, 1, 1, 0, 1, 0, 0])) (kont Try.prog (conOf [awake_e, few_e, short_e, toler_e, Crank_e, between_e, wspace_e]) (bodyOf Try.f9) [1, 1, 1, 1, 1, 1, 1, 1, 1, 0, 1, 0] (retPost Try.prog Try.f9 4 (spaceslaw_res T M s m j d u e))) (spaceslaw_L1_S1 T M s m j d u e)))
                False)
              False)
            False)
          False))
      False))
  False)) = EXD Try.prog (conOf [awake_e, few_e, short_e, toler_e, Crank_e, between_e, wspace_e]) Try.f9 [.agg [.int .i64 T, .int .i64 M], .agg [.int .i64 s, .row 0], .agg [.row 1, .row 2, .row 3], .cel (.int .i64 e)] [.recs [.int .i64, .int .i64] m, .ints .i64 j, .ints .i64 d, .ints .i64 u] [] (spaceslaw_res T M s m j d u e) := by kernel_rfl
theorem spaceslaw_holds (T : Int) (M : Int) (s : Int) (m : List (List Int)) (j : List Int) (d : List Int) (u : List Int) (e : Int) (p0 : (wfI .i64 T) = true) (p1 : (wfI .i64 M) = true) (p2 : (wfI .i64 s) = true) (p3 : (wfR [.int .i64, .int .i64] m) = true) (p4 : (wfL .i64 j) = true) (p5 : (wfL .i64 d) = true) (p6 : (wfL .i64 u) = true) (p7 : (wfI .i64 e) = true) (p8 : (lenB m) = true) (p9 : (lenB j) = true) (p10 : (lenB d) = true) (p11 : (lenB u) = true) : (cnd (decide ((((List.length m) : Nat) : Int) ≤ (9223372036854775807 : Int)))
  (cnd ((!((decide ((((List.length m) : Nat) : Int) ≤ (60 : Int))) && (fewB s m e))) || (!(shB j d u)))
    (Bool.true = Bool.true)
    (cnd (fewB s m e)
      (cnd ((!(decide ((toE T M s m j d u e) = (0 : Int)))) || (!(toB T M s m j d u e)))
        ((!(toB T M s m j d u e)) = Bool.true)
        (cnd (fewB s m e)
          (cnd ((isT s) && (isT (Go.IntKind.wrap Go.IntKind.i64 (s + (115200 : Int)))))
            (cnd (decide (s ≤ (Go.IntKind.wrap Go.IntKind.i64 (s + (115200 : Int)))))
              (cnd (decide ((Go.IntKind.wrap Go.IntKind.i64 (s + (115200 : Int))) ≤ (s + (115200 : Int))))
                (cnd (((!(decide ((crE (wValid T M) s m e) = (0 : Int)))) || (!(decide ((if ((wValid T M) = Bool.true) then (0 : Int) else (1 : Int)) = (0 : Int))))) || (decide ((((List.length (if ((wValid T M) = Bool.true) then (eL T M s (Go.IntKind.wrap Go.IntKind.i64 (s + (115200 : Int)))) else ([] : List Int))) : Nat) : Int) < (((List.length (crT T M s m e)) : Nat) : Int))))
                  (Bool.false = Bool.true)
                  (LoopP (ex Try.prog (conOf [awake_e, few_e, short_e, toler_e, Crank_e, between_e, wspace_e]) (subC (bodyOf Try.f9) [1, 1, 1, 1, 1, 1, 1, 1, 1, 0, 1, 0, 0])) (kont Try.prog (conOf [awake_e, few_e, short_e, toler_e, Crank_e, between_e, wspace_e]) (bodyOf Try.f9) [1, 1, 1, 1, 1, 1, 1, 1, 1, 0, 1, 0] (retPost Try.prog Try.f9 4 (spaceslaw_res T M s m j d u e))) (spaceslaw_L1_S1 T M s m j d u e)))
                False)
              False)
            False)
          False))
      False))
  False) := by
  have hl := lenB_iff.1 p8
  rw [decide_eq_true (show (m.length : Int) ≤ 9223372036854775807 by omega)]
  refine cnd_i (fun _ => ?_) (fun h => by cases h)
  refine cnd_i (fun _ => rfl) (fun h => ?_)
  have hf : fewB s m e = true := by
    cases hf : fewB s m e with
    | true => rfl
    | false => rw [hf] at h; simp at h
  refine cnd_i (fun _ => ?_) (fun h => by rw [hf] at h; cases h)
  refine cnd_i (fun h => ?_) (fun h => ?_)
  · by_cases hE : toE T M s m j d u e = 0
    · rw [decide_eq_true hE] at h
      simpa using h
    · unfold toB
      rw [decide_eq_false hE]
      rfl
  · simp only [Bool.or_eq_false_iff, Bool.not_eq_false', decide_eq_true_eq] at h
    obtain ⟨hE, hT⟩ := h
    obtain ⟨z, z1, z2, z3, z4, z5, z6⟩ := to_facts hE
    obtain ⟨f1, f2, f3, f4, f5, f6, f7, f8, f9⟩ := cr_facts z hf
    obtain ⟨c1, c2, c3⟩ := cr_valid z hf
    obtain ⟨q1, q2⟩ := eL_get (T := T) (M := M) (a := s) (b := posOf s m e) (b' := s + 115200) (by omega)
    have hw := w64 (n := s + 115200) (by omega) (by omega)
    refine cnd_i (fun _ => ?_) (fun h => by rw [hf] at h; cases h)
    refine cnd_i (fun _ => ?_) (fun h => by rw [hw, isT_iff.2 (show 0 ≤ s ∧ s ≤ 1099511627776 by omega), isT_iff.2 (show 0 ≤ s + 115200 ∧ s + 115200 ≤ 1099511627776 by omega)] at h; cases h)
    refine cnd_i (fun _ => ?_) (fun h => by rw [hw, decide_eq_true (show s ≤ s + 115200 by omega)] at h; cases h)
    refine cnd_i (fun _ => ?_) (fun h => by rw [hw, decide_eq_true (show s + 115200 ≤ s + 115200 by omega)] at h; cases h)
    refine cnd_i (fun h => ?_) (fun _ => ?_)
    · rw [hw, if_pos f1, if_pos f1, decide_eq_true z, decide_eq_false (show ¬ ((eL T M s (s + 115200)).length : Int) < (crT T M s m e).length by omega)] at h
      cases h
    · exact spaceslaw_L1_1 T M s m j d u e p0 p1 p2 p3 p4 p5 p6 p7 p8 p9 p10 p11 ⟨⟨⟨hf, hE, hT⟩, by omega, by omega⟩, by simp⟩
set_option maxHeartbeats 2000000 in
theorem spaceslaw_ok : SoundEnt Try.prog spaceslaw_e := by
  refine ent_of_ex (Γ := (conOf [awake_e, few_e, short_e, toler_e, Crank_e, between_e, wspace_e])) (conOf_sound (scons awake_ok (scons few_ok (scons short_ok (scons toler_ok (scons Crank_ok (scons between_ok (scons wspace_ok snil)))))))) (by kernel_rfl) Try.func9 (by kernel_rfl) (by kernel_rfl) (fun args rows caps res h ho => ?_)
  change spaceslaw_go args rows caps = some res at h
  unfold spaceslaw_go at h
  split at h
  · simp only [Option.some.injEq] at h
    subst h
    rename_i q0_ q1_ q2_ q7_ q3_ q4_ q5_ q6_
    obtain ⟨p0, p1, p2, p3, p4, p5, p6, p7, p8, p9, p10, p11, _⟩ := ho
    exact EX.of (spaceslaw_tree q0_ q1_ q2_ q3_ q4_ q5_ q6_ q7_) (spaceslaw_holds q0_ q1_ q2_ q3_ q4_ q5_ q6_ q7_ p0 p1 p2 p3 p4 p5 p6 p7 p8 p9 p10 p11)
  · cases h
end Go.Proofs.Ythfliohfkhnpiaa

