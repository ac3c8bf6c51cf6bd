/- ToothSpacing: accepted edges are apart. No conditions. The walk of the law. -/
import Derived.Test.YtnpoofddnmodoaaEq
import Derived.Test.YtnpoofddnmodoaaPs
import Derived.RegionTactic
namespace Go.Proofs.Ytnpoofddnmodoaa
open Go.RowKit Go.Sort

theorem Row.form {w : World} {v : Value} {l : List Int} (h : Row w v l) : ∃ a c, v = .slice a l.length c ∧ l.length ≤ c ∧ c ≤ 9223372036854775807 := by
  obtain ⟨⟨a, c, h1, h2, h3, _⟩, _⟩ := h
  exact ⟨a, c, h1, h2, by unfold maxLen at h3; omega⟩

/-- The closure 'limit': its captured variable lies at the block X. -/
theorem limit_any (X : Nat) (b off c : Nat) (m : List Int) (i : Nat) (w : World) (hX : w.cell? ⟨X, 0, none⟩ = some (.slice (some ⟨b, off, none⟩) m.length c)) (hi : i < m.length) (hm : m.length ≤ 1000)
    (hc : ∀ j, j < m.length → w.cell? ⟨b, off + j, none⟩ = some (.int .i64 (m.getD j 0))) (hb : ∀ j, j < m.length → 0 ≤ m.getD j 0 ∧ m.getD j 0 ≤ 1099511627776) (hmono : ∀ j, j + 1 < m.length → m.getD j 0 ≤ m.getD (j + 1) 0) :
    Calls Try.prog 19 #[.int .i64 i, .pointer (some ⟨X, 0, none⟩)] w fun e w' => e = .returned (.int .i64 (lim m i)) ∧ ∃ n, w' = w.drewN n := by
  cases i with
  | zero =>
    have e : lim m 0 = 20 := rfl
    rw [e]
    go_enter Try.func19, Try.ntmps19
    go_wp2
    go_ret
    exact ⟨rfl, 0, rfl⟩
  | succ i =>
    have e : lim m (i + 1) = bl (m.getD (i + 1) 0 - m.getD i 0) := by unfold lim; rw [if_neg (by omega), Nat.add_sub_cancel]
    have h1 := hc (i + 1) hi
    have h2 := hc i (by omega)
    obtain ⟨p, hp⟩ : ∃ p, p = m.getD i 0 := ⟨_, rfl⟩
    obtain ⟨q, hq⟩ : ∃ q, q = m.getD (i + 1) 0 := ⟨_, rfl⟩
    have b1 := hb (i + 1) hi
    have b2 := hb i (by omega)
    have b3 := hmono i hi
    rw [← hq] at h1 b1 b3
    rw [← hp] at h2 b2 b3
    rw [e, ← hp, ← hq]
    obtain ⟨b11, b12⟩ := b1
    obtain ⟨b21, b22⟩ := b2
    have j0 : (0 : Int) ≤ (i : Int) := by omega
    have j1 : (i : Int) + 1 < (m.length : Int) := by omega
    have j2 : (i : Int) < (m.length : Int) := by omega
    have j3 : (((i : Int) + 1) == 0) = false := by simp; omega
    clear e hp hq hc hb hmono hi
    by_cases h20 : 20 < (q - p) / 4
    · have e2 : bl (q - p) = (q - p) / 4 := by unfold bl; rw [if_pos h20]
      rw [e2]
      clear e2
      go_enter Try.func19, Try.ntmps19
      go_wp2
      go_quiet (fail)
      go_wp2
      go_ret
      exact ⟨ret_int (by omega), _, rfl⟩
    · have e2 : bl (q - p) = 20 := by unfold bl; rw [if_neg h20]
      rw [e2]
      clear e2
      go_enter Try.func19, Try.ntmps19
      go_wp2
      go_quiet (fail)
      go_wp2
      go_ret
      exact ⟨ret_int (by omega), _, rfl⟩

set_option maxHeartbeats 1600000 in
theorem law_spacing (v : Value) (l : List Int) (w : World) (hr : Row w v l) : Calls Try.prog 5 #[v] w fun e w' => e = .returned (.bool true) ∧ Below w.heap.size w w' := by
  have hmf : ∀ (fn : Fn) (first cap : Array Value) (w : World), (Instr.makeFunc fn first cap).run Try.prog w = .ok (.func fn first cap) w := fun _ _ _ _ => rfl
  by_cases he : edgesB l = true
  · have HE := Lib.hid he
    have hlen := ((edgesB_iff l).1 he).1
    obtain ⟨a, c, rfl, hlc, hcm⟩ := hr.form
    by_cases h0 : l = []
    · subst h0
      simp only [List.length_nil]
      go_enter Try.func5, Try.ntmps5
      go_wp2_with (go_at_call 10; refine (awake_any _).mono ?_; rintro e w1 ⟨rfl, hbw1⟩; obtain ⟨hcw1, hfw1⟩ := bcell hbw1; have hzw1 := hbw1.size; (try simp at hzw1); (try have hs0w1 : w.heap.size < w1.heap.size := by omega); (try have hs1w1 : w.heap.size + 1 < w1.heap.size := by omega); (try have hs2w1 : w.heap.size + 1 + 1 < w1.heap.size := by omega); (try have hs3w1 : w.heap.size + 1 + 1 + 1 < w1.heap.size := by omega); (try have hs_w1_w1 : w1.heap.size < w1.heap.size := by omega); (try have hs_w1p_w1 : w1.heap.size + 1 < w1.heap.size := by omega); (try have hs_w2_w1 : w2.heap.size < w1.heap.size := by omega); (try have hs_w2p_w1 : w2.heap.size + 1 < w1.heap.size := by omega); (try have hs_w3_w1 : w3.heap.size < w1.heap.size := by omega); (try have hs_w3p_w1 : w3.heap.size + 1 < w1.heap.size := by omega); (try have hs_w4_w1 : w4.heap.size < w1.heap.size := by omega); (try have hs_w4p_w1 : w4.heap.size + 1 < w1.heap.size := by omega); (try have hs_w5_w1 : w5.heap.size < w1.heap.size := by omega); (try have hs_w5p_w1 : w5.heap.size + 1 < w1.heap.size := by omega); (try have hs_w6_w1 : w6.heap.size < w1.heap.size := by omega); (try have hs_w6p_w1 : w6.heap.size + 1 < w1.heap.size := by omega))
      have hr1 := hr.below hbw1
      refine (run_ok _ _ _ hr1 HE.out).mono ?_
      rintro e w2 ⟨x, rfl, hx, hbw2⟩
      rw [show runL [] = [] from rfl] at hx
      obtain ⟨xa, xc, rfl, hxc, hxm⟩ := hx.form
      simp only [List.length_nil]
      have z1 := hbw1.size
      have z2 := hbw2.size
      go_wp2
      go_ret
      refine ⟨rfl, ?_⟩
      repeat' (first | exact Below.refl _ _ | assumption | (refine Below.setCell ?_ (by first | omega | (simp <;> omega)) _) | (refine Below.alloc ?_ (by first | omega | (simp <;> omega)) _) | (refine Below.drew ?_) | (refine Below.trans ?_ (Below.mono (by assumption) (by first | omega | (simp <;> omega)))))
    · have hpos : 0 < l.length := List.length_pos_iff.2 h0
      obtain ⟨hm0, hmh⟩ := runL_head HE.out hpos
      have hrl := runL_eq HE.out
      have hle := (runF_sub l false 0 0).length_le
      have hem := edgesB_sub HE.out (runF_sub l false 0 0)
      obtain ⟨m, hm⟩ : ∃ m, m = runL l := ⟨_, rfl⟩
      rw [← hm] at hm0 hmh hrl
      have hle2 : m.length ≤ l.length := by rw [hm]; exact hle
      have hem2 : edgesB m = true := by rw [hm]; exact hem
      have HM := Lib.hid hm
      have HMH := Lib.hid hmh
      have HRL := Lib.hid hrl
      have HEM := Lib.hid hem2
      have hlp : (0 : Int) < (l.length : Int) := by omega
      have hl0 : ((l.length : Int) == 0) = false := by rw [beq_eq_false_iff_ne]; omega
      have hml0 : ((m.length : Int) == 0) = false := by rw [beq_eq_false_iff_ne]; omega
      have hmp : (0 : Int) < (m.length : Int) := by omega
      clear hm hmh hrl hle hem hem2 he
      go_enter Try.func5, Try.ntmps5
      go_wp2_with (go_at_call 10; refine (awake_any _).mono ?_; rintro e w1 ⟨rfl, hbw1⟩; obtain ⟨hcw1, hfw1⟩ := bcell hbw1; have hzw1 := hbw1.size; (try simp at hzw1); (try have hs0w1 : w.heap.size < w1.heap.size := by omega); (try have hs1w1 : w.heap.size + 1 < w1.heap.size := by omega); (try have hs2w1 : w.heap.size + 1 + 1 < w1.heap.size := by omega); (try have hs3w1 : w.heap.size + 1 + 1 + 1 < w1.heap.size := by omega); (try have hs_w1_w1 : w1.heap.size < w1.heap.size := by omega); (try have hs_w1p_w1 : w1.heap.size + 1 < w1.heap.size := by omega); (try have hs_w2_w1 : w2.heap.size < w1.heap.size := by omega); (try have hs_w2p_w1 : w2.heap.size + 1 < w1.heap.size := by omega); (try have hs_w3_w1 : w3.heap.size < w1.heap.size := by omega); (try have hs_w3p_w1 : w3.heap.size + 1 < w1.heap.size := by omega); (try have hs_w4_w1 : w4.heap.size < w1.heap.size := by omega); (try have hs_w4p_w1 : w4.heap.size + 1 < w1.heap.size := by omega); (try have hs_w5_w1 : w5.heap.size < w1.heap.size := by omega); (try have hs_w5p_w1 : w5.heap.size + 1 < w1.heap.size := by omega); (try have hs_w6_w1 : w6.heap.size < w1.heap.size := by omega); (try have hs_w6p_w1 : w6.heap.size + 1 < w1.heap.size := by omega))
      have hr1 := hr.below hbw1
      refine (run_ok _ _ _ hr1 HE.out).mono ?_
      rintro e w2 ⟨x, rfl, hx, hbw2⟩
      rw [← HM.out] at hx
      obtain ⟨xa, xc, rfl, hxc, hxm⟩ := hx.form
      have z1 := hbw1.size
      have z2 := hbw2.size
      have hr2 := hr1.below hbw2
      have hb2 := hbw1.trans (hbw2.mono z1)
      clear hbw1 hbw2 hcw1 hfw1 hr hr1
      obtain ⟨⟨a', c', q1, _, _, q4⟩, _⟩ := hr2
      simp only [Value.slice.injEq] at q1
      obtain ⟨rfl, _, rfl⟩ := q1
      obtain ⟨b, off, rfl, hbs, hc⟩ := q4 h0
      obtain ⟨⟨a', c', q1, _, _, q5⟩, _⟩ := hx
      simp only [Value.slice.injEq] at q1
      obtain ⟨rfl, _, rfl⟩ := q1
      obtain ⟨bx, offx, rfl, hbx, hcx⟩ := q5 (by intro h; subst h; simp at hm0)
      clear q4 q5
      have hmm : ∀ j, j < m.length → 0 ≤ m.getD j 0 ∧ m.getD j 0 ≤ 1099511627776 := fun j hj => edge_time (((edgesB_iff m).1 HEM.out).2 j hj)
      have hll : ∀ j, j < l.length → 0 ≤ l.getD j 0 ∧ l.getD j 0 ≤ 1099511627776 := fun j hj => edge_time (((edgesB_iff l).1 HE.out).2 j hj)
      have hmo : ∀ j, j + 1 < m.length → m.getD j 0 ≤ m.getD (j + 1) 0 := fun j hj => Int.le_of_lt (edge_lt (((edgesB_iff m).1 HEM.out).2 (j + 1) hj))
      have hpw := ((edgesB_pair l).1 HE.out).2.2
      have HMM := Lib.hid hmm
      have HLL := Lib.hid hll
      have HMO := Lib.hid hmo
      have HPW := Lib.hid hpw
      have HC := Lib.hid hc
      have HCX := Lib.hid hcx
      clear hmm hll hmo hpw hc hcx
      go_wp2_with fail
      obtain ⟨X, hX⟩ : ∃ X, X = w2.heap.size := ⟨_, rfl⟩
      refine wp_world ?_
      intro w3 hbw3
      obtain ⟨hcw3, hfw3⟩ := bcell hbw3
      have hzw3 := hbw3.size
      (try simp at hzw3)
      (try have hs0w3 : w.heap.size < w3.heap.size := by omega); (try have hs1w3 : w.heap.size + 1 < w3.heap.size := by omega); (try have hs2w3 : w.heap.size + 1 + 1 < w3.heap.size := by omega); (try have hs3w3 : w.heap.size + 1 + 1 + 1 < w3.heap.size := by omega); (try have hs_w1_w3 : w1.heap.size < w3.heap.size := by omega); (try have hs_w1p_w3 : w1.heap.size + 1 < w3.heap.size := by omega); (try have hs_w2_w3 : w2.heap.size < w3.heap.size := by omega); (try have hs_w2p_w3 : w2.heap.size + 1 < w3.heap.size := by omega); (try have hs_w3_w3 : w3.heap.size < w3.heap.size := by omega); (try have hs_w3p_w3 : w3.heap.size + 1 < w3.heap.size := by omega); (try have hs_w4_w3 : w4.heap.size < w3.heap.size := by omega); (try have hs_w4p_w3 : w4.heap.size + 1 < w3.heap.size := by omega); (try have hs_w5_w3 : w5.heap.size < w3.heap.size := by omega); (try have hs_w5p_w3 : w5.heap.size + 1 < w3.heap.size := by omega); (try have hs_w6_w3 : w6.heap.size < w3.heap.size := by omega); (try have hs_w6p_w3 : w6.heap.size + 1 < w3.heap.size := by omega)
      have zX : X < w3.heap.size := by omega
      have hb3 : Below X w2 w3 := ((Below.refl _ _).alloc (by omega) _).trans (hbw3.mono (by simp; omega))
      have cX : w3.cell? ⟨X, 0, none⟩ = some (.slice (some ⟨bx, offx, none⟩) m.length xc) := by
        rw [hcw3 _ _ (by simp; omega)]; exact World.cell?_alloc_at _ _ _ _ hX
      have cl : ∀ j, j < l.length → w3.cell? ⟨b, off + j, none⟩ = some (.int .i64 (l.getD j 0)) := fun j hj => (hb3.cell (by show b < X; omega)).trans (HC.out j hj)
      have cx : ∀ j, j < m.length → w3.cell? ⟨bx, offx + j, none⟩ = some (.int .i64 (m.getD j 0)) := fun j hj => (hb3.cell (by show bx < X; omega)).trans (HCX.out j hj)
      have hb03 : Below w.heap.size w w3 := hb2.trans (hb3.mono (by omega))
      have CL := Lib.hid cl
      have CX := Lib.hid cx
      have d1 := cl 0 hpos
      have d2 := cx 0 hm0
      rw [Nat.add_zero] at d1 d2
      rw [HMH.out] at d2
      obtain ⟨t, ht⟩ : ∃ t, t = l.getD 0 0 := ⟨_, rfl⟩
      rw [← ht] at d1 d2
      have hbt : (t != t) = false := by simp
      have hbx3 : bx < w3.heap.size := by omega
      have hbl3 : b < w3.heap.size := by omega
      rw [← hX]
      clear ht cl cx hcw3 hfw3 hbw3 hX hb3 hb2 hbx hbs
      go_quiet (fail)
      go_wp2
      clear d1 d2 hbt
      go_loopw [6, 41] (fun kk ii wr => ∃ i k : Nat, i ≤ l.length ∧ ii = .int .i64 i ∧ kk = .int .i64 k ∧ SpRel m l i k ∧ Below w3.heap.size w3 wr) (fun _ ii _ => l.length - (intOf ii).toNat)
      case atStart => exact ⟨0, 0, Nat.zero_le _, rfl, rfl, SpRel.start m l HRL.out, below_drewN (Below.refl _ _) _⟩
      case round =>
        obtain ⟨i, k, hi, rfl, rfl, hS, hb⟩ := hrel
        have cXr := (hb.cell (p := ⟨X, 0, none⟩) zX).trans cX
        by_cases hlt : i < l.length
        · have hkm1 := hS.le
          obtain ⟨t, ht⟩ : ∃ t, t = l.getD i 0 := ⟨_, rfl⟩
          have dt := (hb.cell (p := ⟨b, off + i, none⟩) hbl3).trans (CL.out i hlt)
          rw [← ht] at dt
          have htt := HLL.out i hlt
          rw [← ht] at htt
          obtain ⟨t0, t1⟩ := htt
          have hR := hS.round hlt HPW.out
          rw [← ht] at hR
          have j0 : (0 : Int) ≤ (i : Int) := by omega
          have j1 : (i : Int) < (l.length : Int) := by omega
          have hclr : ∀ j, j < m.length → wr.cell? ⟨bx, offx + j, none⟩ = some (.int .i64 (m.getD j 0)) := fun j hj => (hb.cell (p := ⟨bx, offx + j, none⟩) hbx3).trans (CX.out j hj)
          have HCR := Lib.hid hclr
          clear ht hS hclr
          have hm1000 : m.length ≤ 1000 := by omega
          rcases hR with ⟨hkm, hmk, hlim, hS1⟩ | ⟨hk0, hne, hlim, hS1⟩
          · have dk := HCR.out k hkm
            rw [hmk] at dk
            have jk : (k : Int) < (m.length : Int) := by omega
            have ebt : (t == t) = true := by simp
            clear hmk
            cases k with
            | zero =>
              rw [Nat.add_zero] at dk
              clear hlim
              go_wp2
              go_quiet (fail)
              go_wp2
              go_round
              case rel => exact ⟨i + 1, 1, by omega, by go_num, by go_num, hS1, below_drewN hb _⟩
              case measure => simp [intOf]; omega
            | succ n =>
              have dn := HCR.out n (by omega)
              have hl2 := hlim (by omega)
              rw [Nat.add_sub_cancel] at hl2
              have hpp := HMM.out n (by omega)
              obtain ⟨p, hp⟩ : ∃ p, p = m.getD n 0 := ⟨_, rfl⟩
              rw [← hp] at dn hl2 hpp
              obtain ⟨p0, p1⟩ := hpp
              have jn0 : (0 : Int) ≤ (n : Int) := by omega
              have jn1 : (n : Int) < (m.length : Int) := by omega
              clear hp hlim
              go_wp2
              go_quiet ((go_at_call 19; refine Calls.quiet_of (limit_any X bx offx xc m n _ cXr (by omega) hm1000 HCR.out HMM.out HMO.out)))
              go_wp2
              go_round
              case rel => exact ⟨i + 1, n + 1 + 1, by omega, by go_num, by go_num, hS1, below_drewN hb _⟩
              case measure => simp [intOf]; omega
          · obtain ⟨n, rfl⟩ : ∃ n, k = n + 1 := ⟨k - 1, by omega⟩
            rw [Nat.add_sub_cancel] at hlim
            have dn := HCR.out n (by omega)
            have hpp := HMM.out n (by omega)
            obtain ⟨p, hp⟩ : ∃ p, p = m.getD n 0 := ⟨_, rfl⟩
            rw [← hp] at dn hlim hpp
            obtain ⟨p0, p1⟩ := hpp
            have jn0 : (0 : Int) ≤ (n : Int) := by omega
            have jn1 : (n : Int) < (m.length : Int) := by omega
            have jk3 : (((n : Int) + 1) == 0) = false := by rw [beq_eq_false_iff_ne]; omega
            clear hp
            by_cases hkm : n + 1 < m.length
            · have dk := HCR.out (n + 1) hkm
              have hne2 := hne hkm
              obtain ⟨q, hq⟩ : ∃ q, q = m.getD (n + 1) 0 := ⟨_, rfl⟩
              rw [← hq] at dk hne2
              have ebt : (t == q) = false := by rw [beq_eq_false_iff_ne]; exact fun h => hne2 h.symm
              have jk : (n : Int) + 1 < (m.length : Int) := by omega
              clear hq hne hne2
              go_wp2
              go_quiet ((go_at_call 19; refine Calls.quiet_of (limit_any X bx offx xc m n _ cXr (by omega) hm1000 HCR.out HMM.out HMO.out)))
              go_wp2
              go_round
              case rel => exact ⟨i + 1, n + 1, by omega, by go_num, by go_num, hS1, below_drewN hb _⟩
              case measure => simp [intOf]; omega
            · have jk : ¬ ((n : Int) + 1 < (m.length : Int)) := by omega
              clear hne
              go_wp2
              go_quiet ((go_at_call 19; refine Calls.quiet_of (limit_any X bx offx xc m n _ cXr (by omega) hm1000 HCR.out HMM.out HMO.out)))
              go_wp2
              go_round
              case rel => exact ⟨i + 1, n + 1, by omega, by go_num, by go_num, hS1, below_drewN hb _⟩
              case measure => simp [intOf]; omega
        · obtain rfl : i = l.length := by omega
          have hkf := hS.finish
          subst hkf
          have em : ((m.length : Int) == (m.length : Int)) = true := by simp
          go_wp2
          go_ret
          exact ⟨rfl, hb03.trans (hb.mono hb03.size)⟩
  · have he' : edgesB l = false := by simpa using he
    have HE := Lib.hid he'
    go_enter Try.func5, Try.ntmps5
    go_wp2_with (go_at_call 10; refine (awake_any _).mono ?_; rintro e w1 ⟨rfl, hbw1⟩; obtain ⟨hcw1, hfw1⟩ := bcell hbw1; have hzw1 := hbw1.size; (try simp at hzw1); (try have hs0w1 : w.heap.size < w1.heap.size := by omega); (try have hs1w1 : w.heap.size + 1 < w1.heap.size := by omega); (try have hs2w1 : w.heap.size + 1 + 1 < w1.heap.size := by omega); (try have hs3w1 : w.heap.size + 1 + 1 + 1 < w1.heap.size := by omega); (try have hs_w1_w1 : w1.heap.size < w1.heap.size := by omega); (try have hs_w1p_w1 : w1.heap.size + 1 < w1.heap.size := by omega); (try have hs_w2_w1 : w2.heap.size < w1.heap.size := by omega); (try have hs_w2p_w1 : w2.heap.size + 1 < w1.heap.size := by omega); (try have hs_w3_w1 : w3.heap.size < w1.heap.size := by omega); (try have hs_w3p_w1 : w3.heap.size + 1 < w1.heap.size := by omega); (try have hs_w4_w1 : w4.heap.size < w1.heap.size := by omega); (try have hs_w4p_w1 : w4.heap.size + 1 < w1.heap.size := by omega); (try have hs_w5_w1 : w5.heap.size < w1.heap.size := by omega); (try have hs_w5p_w1 : w5.heap.size + 1 < w1.heap.size := by omega); (try have hs_w6_w1 : w6.heap.size < w1.heap.size := by omega); (try have hs_w6p_w1 : w6.heap.size + 1 < w1.heap.size := by omega))
    have hr1 := hr.below hbw1
    refine (run_err _ _ _ hr1 HE.out).mono ?_
    rintro e w2 ⟨a, c, rfl, hbw2⟩
    have z1 := hbw1.size
    have z2 := hbw2.size
    go_wp2
    go_ret
    refine ⟨rfl, ?_⟩
    repeat' (first | exact Below.refl _ _ | assumption | (refine Below.setCell ?_ (by first | omega | (simp <;> omega)) _) | (refine Below.alloc ?_ (by first | omega | (simp <;> omega)) _) | (refine Below.drew ?_) | (refine Below.trans ?_ (Below.mono (by assumption) (by first | omega | (simp <;> omega)))))

end Go.Proofs.Ytnpoofddnmodoaa
