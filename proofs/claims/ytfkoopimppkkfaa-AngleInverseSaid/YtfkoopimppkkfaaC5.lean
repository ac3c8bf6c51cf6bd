/- The clock's time is the first one; the angle never goes back. -/
import Derived.Test.YtfkoopimppkkfaaC2
namespace Go.Proofs.Ytfkoopimppkkfaa
set_option linter.unusedVariables false
set_option linter.unusedSimpArgs false
open Go.RowKit

theorem upq_spec (a b : Int) (h : 1 ≤ b) : a ≤ upq a b * b ∧ (upq a b - 1) * b < a := by
  unfold upq
  have h1 := Int.emod_add_mul_ediv (-a) b
  have h2 := Int.emod_nonneg (-a) (show b ≠ 0 by omega)
  have h3 := Int.emod_lt_of_pos (-a) (show 0 < b by omega)
  have e1 : -(-a / b) * b = -(b * (-a / b)) := by rw [Int.neg_mul, Int.mul_comm]
  have e2 : (-(-a / b) - 1) * b = -(b * (-a / b)) - b := by rw [Int.sub_mul, Int.one_mul, e1]
  rw [e1, e2]
  omega
def inverse_res (v : Bool) (a0 : Int) (an : Int) (pe : Int) (sp : Int) (ah : Int) (a : Int) : CRes := ⟨[wfI .i64 a0, wfI .i64 an, wfI .i64 pe, wfI .i64 sp, wfI .i64 ah, wfI .i64 a], .one (.cel (.bool (true))), []⟩
def inverse_go : List TV → List RowA → Option CRes := fun args rows =>
  match args, rows with
  | [.agg [.bool v, .int .i64 a0, .int .i64 an, .int .i64 pe, .int .i64 sp, .int .i64 ah], .cel (.int .i64 a)], [] => some (inverse_res v a0 an pe sp ah a)
  | _, _ => none
def inverse_e : Ent := ⟨4, [], inverse_go⟩
set_option maxRecDepth 100000 in
theorem inverse_tree (v : Bool) (a0 : Int) (an : Int) (pe : Int) (sp : Int) (ah : Int) (a : Int) : ((cnd (!(decide ((tmErr v a0 an pe sp ah a) = (0 : Int))))
  ((decide ((tmT v a0 an pe sp ah a) = (0 : Int))) = Bool.true)
  (cnd ((!(decide ((atErr v a0 an pe sp ah (tmT v a0 an pe sp ah a)) = (0 : Int)))) || (decide ((tmT v a0 an pe sp ah a) < a0)))
    (Bool.false = Bool.true)
    (cnd (decide ((Int.tmod (Go.IntKind.wrap Go.IntKind.i64 ((Int.tmod (Go.IntKind.wrap Go.IntKind.i64 ((atA v a0 an pe sp ah (tmT v a0 an pe sp ah a)) - an)) (46080 : Int)) + (46080 : Int))) (46080 : Int)) < (Int.tmod (Go.IntKind.wrap Go.IntKind.i64 ((Int.tmod (Go.IntKind.wrap Go.IntKind.i64 (a - an)) (46080 : Int)) + (46080 : Int))) (46080 : Int))))
      (Bool.false = Bool.true)
      (cnd (decide ((tmT v a0 an pe sp ah a) = a0))
        ((decide (a = an)) = Bool.true)
        (cnd ((decide ((atErr v a0 an pe sp ah (Go.IntKind.wrap Go.IntKind.i64 ((tmT v a0 an pe sp ah a) - (1 : Int)))) = (0 : Int))) == Bool.true)
          (cnd ((decide ((atErr v a0 an pe sp ah (Go.IntKind.wrap Go.IntKind.i64 ((tmT v a0 an pe sp ah a) - (1 : Int)))) = (0 : Int))) == Bool.true)
            (((decide ((atErr v a0 an pe sp ah (Go.IntKind.wrap Go.IntKind.i64 ((tmT v a0 an pe sp ah a) - (1 : Int)))) = (0 : Int))) && (decide ((Int.tmod (Go.IntKind.wrap Go.IntKind.i64 ((Int.tmod (Go.IntKind.wrap Go.IntKind.i64 ((atA v a0 an pe sp ah (Go.IntKind.wrap Go.IntKind.i64 ((tmT v a0 an pe sp ah a) - (1 : Int)))) - an)) (46080 : Int)) + (46080 : Int))) (46080 : Int)) < (Int.tmod (Go.IntKind.wrap Go.IntKind.i64 ((Int.tmod (Go.IntKind.wrap Go.IntKind.i64 (a - an)) (46080 : Int)) + (46080 : Int))) (46080 : Int))))) = Bool.true)
            (((decide ((atErr v a0 an pe sp ah (Go.IntKind.wrap Go.IntKind.i64 ((tmT v a0 an pe sp ah a) - (1 : Int)))) = (0 : Int))) && (decide ((Int.tmod (Go.IntKind.wrap Go.IntKind.i64 ((Int.tmod (Go.IntKind.wrap Go.IntKind.i64 ((atA v a0 an pe sp ah (Go.IntKind.wrap Go.IntKind.i64 ((tmT v a0 an pe sp ah a) - (1 : Int)))) - an)) (46080 : Int)) + (46080 : Int))) (46080 : Int)) < (0 : Int)))) = Bool.true))
          (cnd ((decide ((atErr v a0 an pe sp ah (Go.IntKind.wrap Go.IntKind.i64 ((tmT v a0 an pe sp ah a) - (1 : Int)))) = (0 : Int))) == Bool.true)
            (((decide ((atErr v a0 an pe sp ah (Go.IntKind.wrap Go.IntKind.i64 ((tmT v a0 an pe sp ah a) - (1 : Int)))) = (0 : Int))) && (decide ((0 : Int) < (Int.tmod (Go.IntKind.wrap Go.IntKind.i64 ((Int.tmod (Go.IntKind.wrap Go.IntKind.i64 (a - an)) (46080 : Int)) + (46080 : Int))) (46080 : Int))))) = Bool.true)
            (((decide ((atErr v a0 an pe sp ah (Go.IntKind.wrap Go.IntKind.i64 ((tmT v a0 an pe sp ah a) - (1 : Int)))) = (0 : Int))) && (decide ((0 : Int) < (0 : Int)))) = Bool.true)))))))) = EXD Try.prog (inlOf Try.prog [awake_e, atime_e, aat_e] [(15, Try.f15)]) Try.f4 [.agg [.bool v, .int .i64 a0, .int .i64 an, .int .i64 pe, .int .i64 sp, .int .i64 ah], .cel (.int .i64 a)] [] (inverse_res v a0 an pe sp ah a) := by kernel_rfl
set_option maxHeartbeats 1000000 in
theorem inverse_holds (v : Bool) (a0 : Int) (an : Int) (pe : Int) (sp : Int) (ah : Int) (a : Int) (p0 : wfI .i64 a0 = true) (p1 : wfI .i64 an = true) (p2 : wfI .i64 pe = true) (p3 : wfI .i64 sp = true) (p4 : wfI .i64 ah = true) (p5 : wfI .i64 a = true) : (cnd (!(decide ((tmErr v a0 an pe sp ah a) = (0 : Int))))
  ((decide ((tmT v a0 an pe sp ah a) = (0 : Int))) = Bool.true)
  (cnd ((!(decide ((atErr v a0 an pe sp ah (tmT v a0 an pe sp ah a)) = (0 : Int)))) || (decide ((tmT v a0 an pe sp ah a) < a0)))
    (Bool.false = Bool.true)
    (cnd (decide ((Int.tmod (Go.IntKind.wrap Go.IntKind.i64 ((Int.tmod (Go.IntKind.wrap Go.IntKind.i64 ((atA v a0 an pe sp ah (tmT v a0 an pe sp ah a)) - an)) (46080 : Int)) + (46080 : Int))) (46080 : Int)) < (Int.tmod (Go.IntKind.wrap Go.IntKind.i64 ((Int.tmod (Go.IntKind.wrap Go.IntKind.i64 (a - an)) (46080 : Int)) + (46080 : Int))) (46080 : Int))))
      (Bool.false = Bool.true)
      (cnd (decide ((tmT v a0 an pe sp ah a) = a0))
        ((decide (a = an)) = Bool.true)
        (cnd ((decide ((atErr v a0 an pe sp ah (Go.IntKind.wrap Go.IntKind.i64 ((tmT v a0 an pe sp ah a) - (1 : Int)))) = (0 : Int))) == Bool.true)
          (cnd ((decide ((atErr v a0 an pe sp ah (Go.IntKind.wrap Go.IntKind.i64 ((tmT v a0 an pe sp ah a) - (1 : Int)))) = (0 : Int))) == Bool.true)
            (((decide ((atErr v a0 an pe sp ah (Go.IntKind.wrap Go.IntKind.i64 ((tmT v a0 an pe sp ah a) - (1 : Int)))) = (0 : Int))) && (decide ((Int.tmod (Go.IntKind.wrap Go.IntKind.i64 ((Int.tmod (Go.IntKind.wrap Go.IntKind.i64 ((atA v a0 an pe sp ah (Go.IntKind.wrap Go.IntKind.i64 ((tmT v a0 an pe sp ah a) - (1 : Int)))) - an)) (46080 : Int)) + (46080 : Int))) (46080 : Int)) < (Int.tmod (Go.IntKind.wrap Go.IntKind.i64 ((Int.tmod (Go.IntKind.wrap Go.IntKind.i64 (a - an)) (46080 : Int)) + (46080 : Int))) (46080 : Int))))) = Bool.true)
            (((decide ((atErr v a0 an pe sp ah (Go.IntKind.wrap Go.IntKind.i64 ((tmT v a0 an pe sp ah a) - (1 : Int)))) = (0 : Int))) && (decide ((Int.tmod (Go.IntKind.wrap Go.IntKind.i64 ((Int.tmod (Go.IntKind.wrap Go.IntKind.i64 ((atA v a0 an pe sp ah (Go.IntKind.wrap Go.IntKind.i64 ((tmT v a0 an pe sp ah a) - (1 : Int)))) - an)) (46080 : Int)) + (46080 : Int))) (46080 : Int)) < (0 : Int)))) = Bool.true))
          (cnd ((decide ((atErr v a0 an pe sp ah (Go.IntKind.wrap Go.IntKind.i64 ((tmT v a0 an pe sp ah a) - (1 : Int)))) = (0 : Int))) == Bool.true)
            (((decide ((atErr v a0 an pe sp ah (Go.IntKind.wrap Go.IntKind.i64 ((tmT v a0 an pe sp ah a) - (1 : Int)))) = (0 : Int))) && (decide ((0 : Int) < (Int.tmod (Go.IntKind.wrap Go.IntKind.i64 ((Int.tmod (Go.IntKind.wrap Go.IntKind.i64 (a - an)) (46080 : Int)) + (46080 : Int))) (46080 : Int))))) = Bool.true)
            (((decide ((atErr v a0 an pe sp ah (Go.IntKind.wrap Go.IntKind.i64 ((tmT v a0 an pe sp ah a) - (1 : Int)))) = (0 : Int))) && (decide ((0 : Int) < (0 : Int)))) = Bool.true))))))) := by
  by_cases he : tmErr v a0 an pe sp ah a = 0
  · have hz : cErr v a0 an pe sp ah = 0 := by
      unfold tmErr at he
      split at he
      · assumption
      · exact he
    obtain ⟨rfl, hk⟩ := cErr_zero.1 hz
    have hk' := hk
    rw [cKnown_iff] at hk
    obtain ⟨⟨k1, k2⟩, k3, k4, k5, k6, k7, k8, k9⟩ := hk
    obtain ⟨ha, hd, hv⟩ : (0 ≤ a ∧ a < 46080) ∧ tmD an a < ah ∧ isT (a0 + upq (tmD an a * pe) sp) = true := by
      unfold tmErr at he
      rw [if_pos hz] at he
      split at he
      · rename_i h1
        split at he
        · omega
        · rename_i h2
          split at he
          · rename_i h3
            exact ⟨h1, by omega, h3⟩
          · omega
      · omega
    have ht : tmT true a0 an pe sp ah a = a0 + upq (tmD an a * pe) sp := by unfold tmT; rw [if_pos he]
    have hd2 : 0 ≤ tmD an a ∧ tmD an a < 46080 := by unfold tmD; omega
    have hb := mul_bd (a := tmD an a) (b := pe) (A := 46080) (B := 1073741824) (by omega) (by omega) (by omega) (by omega)
    have hu := upq_bd hb.1 (show 1 ≤ sp by omega)
    obtain ⟨d, hdd⟩ : ∃ d, d = tmD an a := ⟨_, rfl⟩
    obtain ⟨q, hq⟩ : ∃ q, q = upq (tmD an a * pe) sp := ⟨_, rfl⟩
    rw [← hq] at ht hv hu
    have hv2 := isT_iff.1 hv
    obtain ⟨u1, u2⟩ := upq_spec (tmD an a * pe) sp (by omega)
    rw [← hq] at u1 u2
    rw [ht]
    have hal : ∀ x, 0 ≤ x → x < 46080 → Int.tmod (IntKind.i64.wrap (Int.tmod (IntKind.i64.wrap (x - an)) 46080 + 46080)) 46080 = tmD an x := by
      intro x h1 h2
      rw [w64 (n := x - an) (by omega) (by omega)]
      have e : Int.tmod (x - an) 46080 = if x - an < 0 then -((an - x) % 46080) else (x - an) % 46080 := by
        split
        · have : x - an = -(an - x) := by omega
          rw [this, Int.neg_tmod, show Int.tmod (an - x) 46080 = (an - x) % 46080 from tmod_pos (by omega)]
        · exact tmod_pos (by omega)
      rw [e]
      unfold tmD
      split
      · rw [w64 (by omega) (by omega), show Int.tmod (-((an - x) % 46080) + 46080) 46080 = (-((an - x) % 46080) + 46080) % 46080 from tmod_pos (by omega)]
        omega
      · rw [w64 (by omega) (by omega), show Int.tmod ((x - an) % 46080 + 46080) 46080 = ((x - an) % 46080 + 46080) % 46080 from tmod_pos (by omega)]
        omega
    have hat : ∀ t, isT t = true → a0 ≤ t → atErr true a0 an pe sp ah t = 0 ∧ atA true a0 an pe sp ah t = (an + min ah ((t - a0) * sp / pe)) % 46080 ∧ 0 ≤ (t - a0) * sp / pe := by
      intro t h1 h2
      have h3 : atErr true a0 an pe sp ah t = 0 := by unfold atErr; rw [if_pos hz, if_pos h1, if_neg (by omega)]
      refine ⟨h3, by unfold atA; rw [if_pos h3], ?_⟩
      exact Int.ediv_nonneg (Int.mul_nonneg (by omega) (by omega)) (by omega)
    have htm : ∀ m, 0 ≤ m → m ≤ 5760 → tmD an ((an + m) % 46080) = m := by
      intro m h1 h2
      unfold tmD
      omega
    obtain ⟨e1, e2, e3⟩ := hat (a0 + q) hv (by omega)
    have hq0 : a0 + q - a0 = q := by omega
    rw [hq0] at e2 e3
    have hge : d ≤ q * sp / pe := by
      rw [hdd]
      exact Int.le_ediv_of_mul_le (by omega) u1
    have ex : tmD an (atA true a0 an pe sp ah (a0 + q)) = min ah (q * sp / pe) := by
      rw [e2]
      exact htm _ (by omega) (by omega)
    have hx : 0 ≤ atA true a0 an pe sp ah (a0 + q) ∧ atA true a0 an pe sp ah (a0 + q) < 46080 := by rw [e2]; omega
    rw [hal a ha.1 ha.2, hal _ hx.1 hx.2, ex]
    have j1 : decide (min ah (q * sp / pe) < tmD an a) = false := by simp; omega
    have j2 : decide (a0 + q < a0) = false := by simp; omega
    simp only [he, e1, decide_true, Bool.not_true, Bool.false_or, cnd, j1, j2]
    by_cases hz0 : a0 + q = a0
    · have hq00 : q = 0 := by omega
      simp only [hz0, decide_true, decide_eq_true_eq]
      have : tmD an a * pe ≤ 0 := by rw [hq00] at u1; omega
      have h0 : tmD an a = 0 := by
        rcases Int.lt_or_le 0 (tmD an a) with h | h
        · have := Int.mul_pos h (show 0 < pe by omega)
          omega
        · omega
      unfold tmD at h0
      omega
    · simp only [hz0, decide_false]
      rw [w64 (n := a0 + q - 1) (by omega) (by omega)]
      obtain ⟨f1, f2, f3⟩ := hat (a0 + q - 1) (isT_iff.2 (by omega)) (by omega)
      rw [show a0 + q - 1 - a0 = q - 1 by omega] at f2 f3
      have hlt : (q - 1) * sp / pe < d := by
        rw [hdd]
        exact Int.ediv_lt_of_lt_mul (by omega) u2
      have ey : tmD an (atA true a0 an pe sp ah (a0 + q - 1)) = min ah ((q - 1) * sp / pe) := by
        rw [f2]
        exact htm _ (by omega) (by omega)
      have hy : 0 ≤ atA true a0 an pe sp ah (a0 + q - 1) ∧ atA true a0 an pe sp ah (a0 + q - 1) < 46080 := by rw [f2]; omega
      rw [hal _ hy.1 hy.2, ey]
      have j3 : decide (min ah ((q - 1) * sp / pe) < tmD an a) = true := by simp; omega
      simp only [f1, decide_true, beq_self_eq_true, cnd, Bool.true_and, j3]
  · simp [he, cnd, tmT]
theorem inverse_ok : SoundEnt Try.prog inverse_e := by
  refine ent_of_ex (Γ := (inlOf Try.prog [awake_e, atime_e, aat_e] [(15, Try.f15)])) (inlOf_sound (scons awake_ok (scons atime_ok (scons aat_ok snil))) (by kernel_rfl) ⟨⟨Try.func15, by kernel_rfl, by kernel_rfl⟩, trivial⟩) (by kernel_rfl) Try.func4 (by kernel_rfl) (by kernel_rfl) (fun args rows res h ho => ?_)
  change inverse_go args rows = some res at h
  unfold inverse_go at h
  split at h
  · simp only [Option.some.injEq] at h
    subst h
    obtain ⟨p0, p1, p2, p3, p4, p5, _⟩ := ho
    exact EX.of (inverse_tree _ _ _ _ _ _ _) (inverse_holds _ _ _ _ _ _ _ p0 p1 p2 p3 p4 p5)
  · cases h
end Go.Proofs.Ytfkoopimppkkfaa

