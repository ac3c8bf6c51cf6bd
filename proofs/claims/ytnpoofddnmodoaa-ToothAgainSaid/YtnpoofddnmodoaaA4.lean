/- ToothAgain: filtering again changes nothing. No conditions. The walk of the law. -/
import Derived.Test.YtnpoofddnmodoaaEq
import Derived.Test.YtnpoofddnmodoaaPl
namespace Go.Proofs.Ytnpoofddnmodoaa
open Go.RowKit Go.Sort

theorem Row.form {w : World} {v : Value} {l : List Int} (h : Row w v l) : ∃ a c, v = .slice a l.length c ∧ l.length ≤ c ∧ c ≤ 9223372036854775807 := by
  obtain ⟨⟨a, c, h1, h2, h3, _⟩, _⟩ := h
  exact ⟨a, c, h1, h2, by unfold maxLen at h3; omega⟩

theorem Row.take {w : World} {a : Option Addr} {n c : Nat} {l : List Int} (h : Row w (.slice a n c) l) (k : Nat) (hk : k ≤ l.length) : Row w (.slice a k c) (l.take k) := by
  obtain ⟨⟨a', c', h1, h2, h3, h4⟩, hw⟩ := h
  simp only [Value.slice.injEq] at h1
  obtain ⟨rfl, rfl, rfl⟩ := h1
  have hl : (l.take k).length = k := by rw [List.length_take]; omega
  refine ⟨⟨a, c, by rw [hl], by omega, h3, fun hne => ?_⟩, fun n hn => hw n (List.mem_of_mem_take hn)⟩
  obtain ⟨b, off, h5, h6, h7⟩ := h4 (by intro e; subst e; simp at hne)
  refine ⟨b, off, h5, h6, fun i hi => ?_⟩
  rw [hl] at hi
  rw [h7 i (by omega)]
  simp [hi]

theorem law_again (v : Value) (l : List Int) (n : Int) (w : World) (hr : Row w v l) (hn : (Lit.int .u16 n).wf = true) : Calls Try.prog 6 #[v, .int .u16 n] w fun e w' => e = .returned (.bool true) ∧ Below w.heap.size w w' := by
  have hn0 : 0 ≤ n ∧ n ≤ 65535 := by simp [Lit.wf, IntKind.min, IntKind.max, IntKind.signed, IntKind.bits] at hn; omega
  obtain ⟨hn0, hn1⟩ := hn0
  by_cases he : edgesB l = true
  · have HE := Lib.hid he
    have hlen := ((edgesB_iff l).1 he).1
    obtain ⟨a, c, rfl, hlc, hcm⟩ := hr.form
    obtain ⟨k, hk⟩ : ∃ k : Nat, k = (n % ((l.length : Int) + 1)).toNat := ⟨_, rfl⟩
    have hk0 : 0 ≤ n % ((l.length : Int) + 1) := Int.emod_nonneg _ (by omega)
    have hk1 : n % ((l.length : Int) + 1) < (l.length : Int) + 1 := Int.emod_lt_of_pos _ (by omega)
    have hkl : k ≤ l.length := by omega
    have HK := Lib.hid hk
    clear hk hn
    go_enter Try.func6, Try.ntmps6
    go_wp2_with (go_at_call 10; refine (awake_any _).mono ?_; rintro e w1 ⟨rfl, hbw1⟩; obtain ⟨hcw1, hfw1⟩ := bcell hbw1; have hzw1 := hbw1.size; (try simp at hzw1); (try have hs0w1 : w.heap.size < w1.heap.size := by omega); (try have hs1w1 : w.heap.size + 1 < w1.heap.size := by omega); (try have hs2w1 : w.heap.size + 1 + 1 < w1.heap.size := by omega); (try have hs3w1 : w.heap.size + 1 + 1 + 1 < w1.heap.size := by omega); (try have hs_w1_w1 : w1.heap.size < w1.heap.size := by omega); (try have hs_w1p_w1 : w1.heap.size + 1 < w1.heap.size := by omega); (try have hs_w2_w1 : w2.heap.size < w1.heap.size := by omega); (try have hs_w2p_w1 : w2.heap.size + 1 < w1.heap.size := by omega); (try have hs_w3_w1 : w3.heap.size < w1.heap.size := by omega); (try have hs_w3p_w1 : w3.heap.size + 1 < w1.heap.size := by omega); (try have hs_w4_w1 : w4.heap.size < w1.heap.size := by omega); (try have hs_w4p_w1 : w4.heap.size + 1 < w1.heap.size := by omega); (try have hs_w5_w1 : w5.heap.size < w1.heap.size := by omega); (try have hs_w5p_w1 : w5.heap.size + 1 < w1.heap.size := by omega); (try have hs_w6_w1 : w6.heap.size < w1.heap.size := by omega); (try have hs_w6p_w1 : w6.heap.size + 1 < w1.heap.size := by omega))
    have hr1 := hr.below hbw1
    refine (run_ok _ _ _ hr1 HE.out).mono ?_
    rintro e w2 ⟨x, rfl, hx, hbw2⟩
    obtain ⟨xa, xc, rfl, hxc, hxm⟩ := hx.form
    go_wp2_with fail
    refine (run_ok _ _ _ hx (edgesB_sub HE.out (runF_sub l _ _ _))).mono ?_
    rintro e w3 ⟨y, rfl, hy, hbw3⟩
    go_wp2_with fail
    rw [← HK.out]
    have hr3 := ((hr1.below hbw2).below hbw3).take k hkl
    obtain ⟨ht1, ht2⟩ := runF_take l k false 0 0
    refine (run_ok _ _ _ hr3 (edgesB_sub HE.out (List.take_sublist k l))).mono ?_
    rintro e w4 ⟨z, rfl, hz, hbw4⟩
    obtain ⟨za, zc, rfl, hzc, hzm⟩ := hz.form
    have ht2' : (((runL (l.take k)).length : Nat) : Int) ≤ ((runL l).length : Int) := by unfold runL; omega
    have HT1 := Lib.hid ht1
    clear ht1 ht2
    go_wp2_with fail
    refine (equal_any _ _ _ _ _ ((hx.below hbw3).below hbw4) (hy.below hbw4)).mono ?_
    rintro e w5 ⟨rfl, hbw5⟩
    rw [show decide (runL l = runL (runL l)) = true from by rw [decide_eq_true_eq]; exact (runF_idem l _ _ _).symm]
    go_wp2_with fail
    refine (equal_any _ _ _ _ _ (hz.below hbw5) ((((hx.below hbw3).below hbw4).below hbw5).take _ (by omega))).mono ?_
    rintro e w6 ⟨rfl, hbw6⟩
    have HF := Lib.hid (show decide (runL (l.take k) = (runL l).take (runL (l.take k)).length) = true from by rw [decide_eq_true_eq]; exact HT1.out)
    clear HT1
    go_wp2
    go_ret
    have z1 := hbw1.size
    have z2 := hbw2.size
    have z3 := hbw3.size
    have z4 := hbw4.size
    have z5 := hbw5.size
    refine ⟨ret_b HF.out, ?_⟩
    repeat' (first | exact Below.refl _ _ | assumption | (refine Below.setCell ?_ (by first | omega | (simp <;> omega)) _) | (refine Below.alloc ?_ (by first | omega | (simp <;> omega)) _) | (refine Below.drew ?_) | (refine Below.trans ?_ (Below.mono (by assumption) (by first | omega | (simp <;> omega)))))
  · have he' : edgesB l = false := by simpa using he
    have HE := Lib.hid he'
    go_enter Try.func6, Try.ntmps6
    go_wp2_with (go_at_call 10; refine (awake_any _).mono ?_; rintro e w1 ⟨rfl, hbw1⟩; obtain ⟨hcw1, hfw1⟩ := bcell hbw1; have hzw1 := hbw1.size; (try simp at hzw1); (try have hs0w1 : w.heap.size < w1.heap.size := by omega); (try have hs1w1 : w.heap.size + 1 < w1.heap.size := by omega); (try have hs2w1 : w.heap.size + 1 + 1 < w1.heap.size := by omega); (try have hs3w1 : w.heap.size + 1 + 1 + 1 < w1.heap.size := by omega); (try have hs_w1_w1 : w1.heap.size < w1.heap.size := by omega); (try have hs_w1p_w1 : w1.heap.size + 1 < w1.heap.size := by omega); (try have hs_w2_w1 : w2.heap.size < w1.heap.size := by omega); (try have hs_w2p_w1 : w2.heap.size + 1 < w1.heap.size := by omega); (try have hs_w3_w1 : w3.heap.size < w1.heap.size := by omega); (try have hs_w3p_w1 : w3.heap.size + 1 < w1.heap.size := by omega); (try have hs_w4_w1 : w4.heap.size < w1.heap.size := by omega); (try have hs_w4p_w1 : w4.heap.size + 1 < w1.heap.size := by omega); (try have hs_w5_w1 : w5.heap.size < w1.heap.size := by omega); (try have hs_w5p_w1 : w5.heap.size + 1 < w1.heap.size := by omega); (try have hs_w6_w1 : w6.heap.size < w1.heap.size := by omega); (try have hs_w6p_w1 : w6.heap.size + 1 < w1.heap.size := by omega))
    have hr1 := hr.below hbw1
    refine (run_err _ _ _ hr1 HE.out).mono ?_
    rintro e w2 ⟨a, c, rfl, hbw2⟩
    go_wp2
    go_ret
    have z1 := hbw1.size
    have z2 := hbw2.size
    refine ⟨rfl, ?_⟩
    repeat' (first | exact Below.refl _ _ | assumption | (refine Below.setCell ?_ (by first | omega | (simp <;> omega)) _) | (refine Below.alloc ?_ (by first | omega | (simp <;> omega)) _) | (refine Below.drew ?_) | (refine Below.trans ?_ (Below.mono (by assumption) (by first | omega | (simp <;> omega)))))

end Go.Proofs.Ytnpoofddnmodoaa
