/- Turns per minute and ticks agree. -/
import Derived.Test.YtfkoopimppkkfaaC2
namespace Go.Proofs.Ytfkoopimppkkfaa
set_option linter.unusedVariables false
set_option linter.unusedSimpArgs false
open Go.RowKit

theorem upq_spec (a : Int) {b : Int} (h : 1 ≤ b) : (upq a b - 1) * b < a ∧ a ≤ upq a b * b := by
  unfold upq
  have h1 := Int.emod_add_mul_ediv (-a) b
  have h2 := Int.emod_nonneg (-a) (show b ≠ 0 by omega)
  have h3 := Int.emod_lt_of_pos (-a) (show 0 < b by omega)
  generalize (-a) / b = z at *
  generalize (-a) % b = r at *
  rw [Int.sub_mul, Int.neg_mul, Int.mul_comm z b]
  omega
theorem lt_of_mul {a b c : Int} (hc : 1 ≤ c) (h : a * c < b * c) : a < b := Int.lt_of_mul_lt_mul_right h (by omega)
theorem agree_rpm {P S K : Int} (hP : 1 ≤ P) (hS : 1 ≤ S) (hK : 0 ≤ K) : (K * S / P) * (upq P S - 1) ≤ K ∧ K < (K * S / P + 1) * upq P S := by
  obtain ⟨h1, h2⟩ := upq_spec P hS
  have h3 := Int.emod_add_mul_ediv (K * S) P
  have h4 := Int.emod_nonneg (K * S) (show P ≠ 0 by omega)
  have h5 := Int.emod_lt_of_pos (K * S) (show 0 < P by omega)
  have h6 : 0 ≤ K * S / P := Int.ediv_nonneg (Int.mul_nonneg hK (by omega)) (by omega)
  generalize K * S / P = R at *
  generalize upq P S = n at *
  have e1 : R * ((n - 1) * S) ≤ R * P := Int.mul_le_mul_of_nonneg_left (by omega) h6
  have e2 : (R + 1) * P ≤ (R + 1) * (n * S) := Int.mul_le_mul_of_nonneg_left h2 (by omega)
  have e3 : (R + 1) * P = P * R + P := by rw [Int.add_mul, Int.one_mul, Int.mul_comm]
  have e4 : R * P = P * R := Int.mul_comm _ _
  rw [← Int.mul_assoc] at e1 e2
  constructor
  · have : R * (n - 1) < K + 1 := lt_of_mul hS (by rw [Int.add_mul]; omega)
    omega
  · exact lt_of_mul hS (by omega)
theorem agree_sum {P S x y : Int} (hS : 1 ≤ S) : upq (x * P) S + upq (y * P) S - 1 ≤ upq ((x + y) * P) S ∧ upq ((x + y) * P) S ≤ upq (x * P) S + upq (y * P) S := by
  obtain ⟨h1, h2⟩ := upq_spec (x * P) hS
  obtain ⟨h3, h4⟩ := upq_spec (y * P) hS
  obtain ⟨h5, h6⟩ := upq_spec ((x + y) * P) hS
  have e : (x + y) * P = x * P + y * P := Int.add_mul _ _ _
  rw [e] at h5 h6 ⊢
  generalize upq (x * P) S = p at *
  generalize upq (y * P) S = q at *
  generalize upq (x * P + y * P) S = s at *
  rw [Int.sub_mul] at h1 h3 h5
  constructor
  · have : p + q - 2 < s := lt_of_mul hS (by rw [Int.sub_mul, Int.add_mul]; omega)
    omega
  · have : s - 1 < p + q := lt_of_mul hS (by rw [Int.sub_mul, Int.add_mul]; omega)
    omega
def agrees_res (v : Bool) (a0 : Int) (an : Int) (pe : Int) (sp : Int) (ah : Int) (a : Int) (b : Int) : CRes := ⟨[wfI .i64 a0, wfI .i64 an, wfI .i64 pe, wfI .i64 sp, wfI .i64 ah, wfI .u16 a, wfI .u16 b], .one (.cel (.bool (true))), []⟩
def agrees_go : List TV → List RowA → Option CRes := fun args rows =>
  match args, rows with
  | [.agg [.bool v, .int .i64 a0, .int .i64 an, .int .i64 pe, .int .i64 sp, .int .i64 ah], .cel (.int .u16 a), .cel (.int .u16 b)], [] => some (agrees_res v a0 an pe sp ah a b)
  | _, _ => none
def agrees_e : Ent := ⟨7, [], agrees_go⟩
set_option maxRecDepth 100000 in
theorem agrees_tree (v : Bool) (a0 : Int) (an : Int) (pe : Int) (sp : Int) (ah : Int) (a : Int) (b : Int) : ((cnd (!(decide ((tkErr v a0 an pe sp ah (23040 : Int)) = (0 : Int))))
  (((decide ((rpmOf v a0 an pe sp ah) = (0 : Int))) && (decide ((tkT v a0 an pe sp ah (23040 : Int)) = (0 : Int)))) = Bool.true)
  (cnd (((decide ((tkT v a0 an pe sp ah (23040 : Int)) < (1 : Int))) || (decide ((60000000 : Int) < (Go.IntKind.wrap Go.IntKind.i64 ((rpmOf v a0 an pe sp ah) * (Go.IntKind.wrap Go.IntKind.i64 ((tkT v a0 an pe sp ah (23040 : Int)) - (1 : Int)))))))) || (decide ((Go.IntKind.wrap Go.IntKind.i64 ((Go.IntKind.wrap Go.IntKind.i64 ((rpmOf v a0 an pe sp ah) + (1 : Int))) * (tkT v a0 an pe sp ah (23040 : Int)))) ≤ (60000000 : Int))))
    (Bool.false = Bool.true)
    (((((((decide ((tkErr v a0 an pe sp ah (Int.tmod (Go.IntKind.wrap Go.IntKind.i64 a) (23040 : Int))) = (0 : Int))) && (decide ((tkErr v a0 an pe sp ah (Int.tmod (Go.IntKind.wrap Go.IntKind.i64 b) (23040 : Int))) = (0 : Int)))) && (decide ((tkErr v a0 an pe sp ah (Go.IntKind.wrap Go.IntKind.i64 ((Int.tmod (Go.IntKind.wrap Go.IntKind.i64 a) (23040 : Int)) + (Int.tmod (Go.IntKind.wrap Go.IntKind.i64 b) (23040 : Int))))) = (0 : Int)))) && (decide ((Go.IntKind.wrap Go.IntKind.i64 ((Go.IntKind.wrap Go.IntKind.i64 ((tkT v a0 an pe sp ah (Int.tmod (Go.IntKind.wrap Go.IntKind.i64 a) (23040 : Int))) + (tkT v a0 an pe sp ah (Int.tmod (Go.IntKind.wrap Go.IntKind.i64 b) (23040 : Int))))) - (1 : Int))) ≤ (tkT v a0 an pe sp ah (Go.IntKind.wrap Go.IntKind.i64 ((Int.tmod (Go.IntKind.wrap Go.IntKind.i64 a) (23040 : Int)) + (Int.tmod (Go.IntKind.wrap Go.IntKind.i64 b) (23040 : Int)))))))) && (decide ((tkT v a0 an pe sp ah (Go.IntKind.wrap Go.IntKind.i64 ((Int.tmod (Go.IntKind.wrap Go.IntKind.i64 a) (23040 : Int)) + (Int.tmod (Go.IntKind.wrap Go.IntKind.i64 b) (23040 : Int))))) ≤ (Go.IntKind.wrap Go.IntKind.i64 ((tkT v a0 an pe sp ah (Int.tmod (Go.IntKind.wrap Go.IntKind.i64 a) (23040 : Int))) + (tkT v a0 an pe sp ah (Int.tmod (Go.IntKind.wrap Go.IntKind.i64 b) (23040 : Int)))))))) && ((decide ((0 : Int) < (Int.tmod (Go.IntKind.wrap Go.IntKind.i64 a) (23040 : Int)))) || (decide ((tkT v a0 an pe sp ah (Int.tmod (Go.IntKind.wrap Go.IntKind.i64 a) (23040 : Int))) = (0 : Int))))) = Bool.true)))) = EXD Try.prog (conOf [awake_e, arpm_e, aticks_e]) Try.f7 [.agg [.bool v, .int .i64 a0, .int .i64 an, .int .i64 pe, .int .i64 sp, .int .i64 ah], .cel (.int .u16 a), .cel (.int .u16 b)] [] (agrees_res v a0 an pe sp ah a b) := by kernel_rfl
theorem agrees_holds (v : Bool) (a0 : Int) (an : Int) (pe : Int) (sp : Int) (ah : Int) (a : Int) (b : Int) (p0 : wfI .i64 a0 = true) (p1 : wfI .i64 an = true) (p2 : wfI .i64 pe = true) (p3 : wfI .i64 sp = true) (p4 : wfI .i64 ah = true) (p5 : wfI .u16 a = true) (p6 : wfI .u16 b = true) : (cnd (!(decide ((tkErr v a0 an pe sp ah (23040 : Int)) = (0 : Int))))
  (((decide ((rpmOf v a0 an pe sp ah) = (0 : Int))) && (decide ((tkT v a0 an pe sp ah (23040 : Int)) = (0 : Int)))) = Bool.true)
  (cnd (((decide ((tkT v a0 an pe sp ah (23040 : Int)) < (1 : Int))) || (decide ((60000000 : Int) < (Go.IntKind.wrap Go.IntKind.i64 ((rpmOf v a0 an pe sp ah) * (Go.IntKind.wrap Go.IntKind.i64 ((tkT v a0 an pe sp ah (23040 : Int)) - (1 : Int)))))))) || (decide ((Go.IntKind.wrap Go.IntKind.i64 ((Go.IntKind.wrap Go.IntKind.i64 ((rpmOf v a0 an pe sp ah) + (1 : Int))) * (tkT v a0 an pe sp ah (23040 : Int)))) ≤ (60000000 : Int))))
    (Bool.false = Bool.true)
    (((((((decide ((tkErr v a0 an pe sp ah (Int.tmod (Go.IntKind.wrap Go.IntKind.i64 a) (23040 : Int))) = (0 : Int))) && (decide ((tkErr v a0 an pe sp ah (Int.tmod (Go.IntKind.wrap Go.IntKind.i64 b) (23040 : Int))) = (0 : Int)))) && (decide ((tkErr v a0 an pe sp ah (Go.IntKind.wrap Go.IntKind.i64 ((Int.tmod (Go.IntKind.wrap Go.IntKind.i64 a) (23040 : Int)) + (Int.tmod (Go.IntKind.wrap Go.IntKind.i64 b) (23040 : Int))))) = (0 : Int)))) && (decide ((Go.IntKind.wrap Go.IntKind.i64 ((Go.IntKind.wrap Go.IntKind.i64 ((tkT v a0 an pe sp ah (Int.tmod (Go.IntKind.wrap Go.IntKind.i64 a) (23040 : Int))) + (tkT v a0 an pe sp ah (Int.tmod (Go.IntKind.wrap Go.IntKind.i64 b) (23040 : Int))))) - (1 : Int))) ≤ (tkT v a0 an pe sp ah (Go.IntKind.wrap Go.IntKind.i64 ((Int.tmod (Go.IntKind.wrap Go.IntKind.i64 a) (23040 : Int)) + (Int.tmod (Go.IntKind.wrap Go.IntKind.i64 b) (23040 : Int)))))))) && (decide ((tkT v a0 an pe sp ah (Go.IntKind.wrap Go.IntKind.i64 ((Int.tmod (Go.IntKind.wrap Go.IntKind.i64 a) (23040 : Int)) + (Int.tmod (Go.IntKind.wrap Go.IntKind.i64 b) (23040 : Int))))) ≤ (Go.IntKind.wrap Go.IntKind.i64 ((tkT v a0 an pe sp ah (Int.tmod (Go.IntKind.wrap Go.IntKind.i64 a) (23040 : Int))) + (tkT v a0 an pe sp ah (Int.tmod (Go.IntKind.wrap Go.IntKind.i64 b) (23040 : Int)))))))) && ((decide ((0 : Int) < (Int.tmod (Go.IntKind.wrap Go.IntKind.i64 a) (23040 : Int)))) || (decide ((tkT v a0 an pe sp ah (Int.tmod (Go.IntKind.wrap Go.IntKind.i64 a) (23040 : Int))) = (0 : Int))))) = Bool.true))) := by
  have ha := wfU16 p5
  have hb := wfU16 p6
  by_cases hz : cErr v a0 an pe sp ah = 0
  · obtain ⟨hv, hk⟩ := cErr_zero.1 hz
    rw [cKnown_iff] at hk
    obtain ⟨⟨k1, k2⟩, k3, k4, k5, k6, k7, k8, k9⟩ := hk
    rw [w64 (n := a) (by omega) (by omega), w64 (n := b) (by omega) (by omega), show Int.tmod a 23040 = a % 23040 from tmod_pos ha.1, show Int.tmod b 23040 = b % 23040 from tmod_pos hb.1]
    have hx : 0 ≤ a % 23040 ∧ a % 23040 < 23040 := by omega
    have hy : 0 ≤ b % 23040 ∧ b % 23040 < 23040 := by omega
    generalize a % 23040 = x at *
    generalize b % 23040 = y at *
    rw [w64 (n := x + y) (by omega) (by omega)]
    have t0 : ∀ u : Int, 0 ≤ u → u ≤ 46080 → tkErr v a0 an pe sp ah u = 0 ∧ tkT v a0 an pe sp ah u = upq (u * pe) sp := fun u h0 h1 => by
      have e : tkErr v a0 an pe sp ah u = 0 := by unfold tkErr; rw [if_pos hz, if_pos ⟨h0, h1⟩]
      exact ⟨e, by unfold tkT; rw [if_pos e]⟩
    have hr : rpmOf v a0 an pe sp ah = 60000000 * sp / (23040 * pe) := by unfold rpmOf; rw [if_pos hz, Int.mul_comm pe]
    rw [(t0 23040 (by omega) (by omega)).1, (t0 23040 (by omega) (by omega)).2, (t0 x (by omega) (by omega)).1, (t0 x (by omega) (by omega)).2, (t0 y (by omega) (by omega)).1, (t0 y (by omega) (by omega)).2, (t0 (x + y) (by omega) (by omega)).1, (t0 (x + y) (by omega) (by omega)).2, hr]
    obtain ⟨g1, g2⟩ := agree_rpm (P := 23040 * pe) (S := sp) (K := 60000000) (by omega) (by omega) (by omega)
    obtain ⟨g3, g4⟩ := agree_sum (P := pe) (S := sp) (x := x) (y := y) (by omega)
    have g5 : x = 0 → upq (x * pe) sp = 0 := fun e => by subst e; simp [upq]
    have u1 := mul_bd (a := x) (b := pe) (A := 23040) (B := 1073741824) (by omega) (by omega) (by omega) (by omega)
    have u2 := mul_bd (a := y) (b := pe) (A := 23040) (B := 1073741824) (by omega) (by omega) (by omega) (by omega)
    have v1 := upq_bd u1.1 (show 1 ≤ sp by omega)
    have v2 := upq_bd u2.1 (show 1 ≤ sp by omega)
    have v3 := upq_bd (a := 23040 * pe) (b := sp) (by omega) (by omega)
    have v4 : 1 ≤ upq (23040 * pe) sp ∧ upq (23040 * pe) sp ≤ 128849018881 := by
      obtain ⟨q1, q2⟩ := upq_spec (23040 * pe) (b := sp) (by omega)
      have w1 : 1 ≤ upq (23040 * pe) sp := by
        have : 0 * sp < upq (23040 * pe) sp * sp := by omega
        have := lt_of_mul (show 1 ≤ sp by omega) this
        omega
      have h8 : (upq (23040 * pe) sp - 1) * 192 ≤ (upq (23040 * pe) sp - 1) * sp := Int.mul_le_mul_of_nonneg_left k7 (by omega)
      omega
    have v5 : 0 ≤ 60000000 * sp / (23040 * pe) ∧ 60000000 * sp / (23040 * pe) ≤ 5000000 := by
      refine ⟨Int.ediv_nonneg (by omega) (by omega), ?_⟩
      refine Int.ediv_le_of_le_mul (by omega) (by omega)
    generalize 60000000 * sp / (23040 * pe) = R at *
    generalize upq (23040 * pe) sp = n at *
    generalize upq (x * pe) sp = p at *
    generalize upq (y * pe) sp = q at *
    generalize upq ((x + y) * pe) sp = s at *
    have b1 := mul_bd (a := R) (b := n - 1) (A := 5000000) (B := 128849018880) v5.1 v5.2 (by omega) (by omega)
    have b2 := mul_bd (a := R + 1) (b := n) (A := 5000001) (B := 128849018881) (by omega) (by omega) (by omega) (by omega)
    rw [w64 (n := n - 1) (by omega) (by omega), w64 (n := R * (n - 1)) (by omega) (by omega), w64 (n := R + 1) (by omega) (by omega), w64 (n := (R + 1) * n) (by omega) (by omega), w64 (n := p + q) (by omega) (by omega), w64 (n := p + q - 1) (by omega) (by omega)]
    have d1 : ((decide (n < 1) || decide (60000000 < R * (n - 1))) || decide ((R + 1) * n ≤ 60000000)) = false := by simp; omega
    rw [d1]
    simp [cnd]
    omega
  · have e1 : tkErr v a0 an pe sp ah 23040 = cErr v a0 an pe sp ah := by unfold tkErr; rw [if_neg hz]
    have e2 : tkT v a0 an pe sp ah 23040 = 0 := by unfold tkT; rw [e1, if_neg hz]
    have e3 : rpmOf v a0 an pe sp ah = 0 := by unfold rpmOf; rw [if_neg hz]
    simp [e1, e2, e3, hz, cnd]
theorem agrees_ok : SoundEnt Try.prog agrees_e := by
  refine ent_of_ex (Γ := (conOf [awake_e, arpm_e, aticks_e])) (conOf_sound (scons awake_ok (scons arpm_ok (scons aticks_ok snil)))) (by kernel_rfl) Try.func7 (by kernel_rfl) (by kernel_rfl) (fun args rows res h ho => ?_)
  change agrees_go args rows = some res at h
  unfold agrees_go at h
  split at h
  · simp only [Option.some.injEq] at h
    subst h
    obtain ⟨p0, p1, p2, p3, p4, p5, p6, _⟩ := ho
    exact EX.of (agrees_tree _ _ _ _ _ _ _ _) (agrees_holds _ _ _ _ _ _ _ _ p0 p1 p2 p3 p4 p5 p6)
  · cases h
end Go.Proofs.Ytfkoopimppkkfaa

