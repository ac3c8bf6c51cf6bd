/- Motions: speeds, ends, and the reference. -/
import Derived.Test.YtajaaohjdeegeaaM2
namespace Go.Proofs.Ytajaaohjdeegeaa
set_option linter.unusedVariables false
set_option linter.unusedSimpArgs false
open Go.RowKit

def spd : Int → List (List Int) → Int
  | _, [] => 0
  | t, r :: l => if t < r0 r then r1 r else spd (t - r0 r) l
def spdOf (s : Int) (l : List (List Int)) (t : Int) : Int := if mErr s l t = 0 then spd t l else 0
def endL : List (List Int) → Int
  | [] => 0
  | r :: l => r0 r + endL l
def endOf (s : Int) (l : List (List Int)) : Int := if mValid s l then endL l else 0
theorem r0e (r : List Int) : List.getD r 0 (0 : Int) = r0 r := by simp [r0]
theorem r1e (r : List Int) : List.getD r (0 + 1) (0 : Int) = r1 r := by simp [r1]
theorem mV_iff {s : Int} {l : List (List Int)} : mValid s l = true ↔ (0 ≤ s ∧ s < 46080) ∧ (l.length : Int) ≤ 2000 ∧ vL 0 l = true := by
  simp only [mValid, Bool.and_eq_true, decide_eq_true_eq, and_assoc]
theorem mErr_zero {s : Int} {l : List (List Int)} {t : Int} : mErr s l t = 0 ↔ mValid s l = true ∧ 0 ≤ t ∧ t ≤ 1099511627776 := by
  unfold mErr
  by_cases h : mValid s l = true
  · rw [if_pos h]
    by_cases h2 : 0 ≤ t ∧ t ≤ 1099511627776
    · rw [if_pos h2]; simp [h, h2]
    · rw [if_neg h2]; simp [h2]
  · rw [if_neg h]; simp [h]
theorem endL_bd : ∀ (l : List (List Int)) (e : Int), e ≤ 1099511627776 → vL e l = true → 0 ≤ endL l ∧ e + endL l ≤ 1099511627776
  | [], _, he, _ => by simp only [endL]; omega
  | r :: l, e, _, hv => by
    obtain ⟨⟨a1, a2, a3, a4⟩, a5, a6⟩ := vL_cons hv
    have := endL_bd l (e + r0 r) a5 a6
    simp only [endL]
    omega
def mspeed_res (s : Int) (l : List (List Int)) (t : Int) : CRes := ⟨[], .tup [.cel (.int .i64 (spdOf s l t)), .cel (.int .i64 (mErr s l t))], []⟩
def mspeed_go : List TV → List RowA → List (List CV) → Option CRes := fun args rows caps =>
  match args, rows, caps with
  | [.agg [.int .i64 s, .row 0], .cel (.int .i64 t)], [.recs [.int .i64, .int .i64] l], [] => some (mspeed_res s l t)
  | _, _, _ => none
def mspeed_e : Ent := ⟨19, [.recs [.int .i64, .int .i64] []], mspeed_go⟩
def mspeed_L1_F (s : Int) (l : List (List Int)) (t : Int) (i : Int) (u : Int) : St := ⟨33, [], [(18, (.one (.cel (.int .i64 i)))), (17, (.one (.cel (.int .i64 (((List.length l) : Nat) : Int))))), (16, (.one (.cel (.row 0)))), (5, (.one (.cel (.int .i64 (0 : Int))))), (4, (.one (.cel (.int .i64 (0 : Int))))), (1, (.one (.cel (.int .i64 u))))], [[(.int .i64 s), (.row 0)]], [⟨(.recs [.int .i64, .int .i64] l), none⟩], 0⟩
def mspeed_L1_I (s : Int) (l : List (List Int)) (t : Int) (i : Int) (u : Int) : Prop := (0 ≤ i ∧ i ≤ l.length ∧ (l.length : Int) ≤ 2000 ∧ mErr s l t = 0 ∧ 0 ≤ u ∧ u ≤ 1099511627776) ∧ (spd u (l.drop i.toNat) = spd t l ∧ ∃ e, vL e (l.drop i.toNat) = true)
def mspeed_L1_m (s : Int) (l : List (List Int)) (t : Int) (i : Int) (u : Int) : Nat := (l.length - i).toNat
def mspeed_L1_N (s : Int) (l : List (List Int)) (t : Int) (i' : Int) (u' : Int) (st_ : St) : Prop := getI st_ 18 fun i => getI st_ 1 fun u => mspeed_L1_I s l t i u ∧ mspeed_L1_m s l t i u < mspeed_L1_m s l t i' u' ∧ SubA st_ (mspeed_L1_F s l t i u)
def mspeed_L1_E (s : Int) (l : List (List Int)) (t : Int) (st_ : St) : Prop := getI st_ 18 fun i => getI st_ 1 fun u => mspeed_L1_I s l t i u ∧ SubA st_ (mspeed_L1_F s l t i u)
def mspeed_L1_S1 (s : Int) (l : List (List Int)) (t : Int) : St := ⟨33, [], [(18, (.one (.cel (.int .i64 (0 : Int))))), (17, (.one (.cel (.int .i64 (((List.length l) : Nat) : Int))))), (16, (.one (.cel (.row 0)))), (15, (.one (.cel (.ptr 0 1)))), (13, (.one (.cel (.bool (!(decide ((mErr s l t) = (0 : Int)))))))), (12, (.one (.cel (.int .i64 (mErr s l t))))), (6, (.one (.cel (.int .i64 (mErr s l t))))), (11, (.one (.cel (.int .i64 (mErr s l t))))), (10, (.one (.cel (.int .i64 t)))), (9, (.one (.agg [(.int .i64 s), (.row 0)]))), (5, (.one (.cel (.int .i64 (0 : Int))))), (4, (.one (.cel (.int .i64 (0 : Int))))), (2, (.one (.cel (.ptr 0 0)))), (0, (.one (.agg [(.int .i64 s), (.row 0)]))), (1, (.one (.cel (.int .i64 t))))], [[(.int .i64 s), (.row 0)]], [⟨(.recs [.int .i64, .int .i64] l), none⟩], 0⟩
def mspeed_L1_T (s : Int) (l : List (List Int)) (t : Int) (i : Int) (u : Int) : Prop := (cnd (decide (i < (((List.length l) : Nat) : Int)))
  (cnd (decide ((0 : Int) ≤ i))
    (cnd (decide (i < (((List.length l) : Nat) : Int)))
      (cnd (decide (u < (List.getD (List.getD l (Int.toNat i) ([] : List Int)) 0 (0 : Int))))
        (((List.getD (List.getD l (Int.toNat i) ([] : List Int)) (0 + 1) (0 : Int)) = (spdOf s l t)) ∧ ((0 : Int) = (mErr s l t)))
        ((mspeed_L1_I s l t (Go.IntKind.wrap Go.IntKind.i64 (i + (1 : Int))) (Go.IntKind.wrap Go.IntKind.i64 (u - (List.getD (List.getD l (Int.toNat i) ([] : List Int)) 0 (0 : Int))))) ∧ (((mspeed_L1_m s l t (Go.IntKind.wrap Go.IntKind.i64 (i + (1 : Int))) (Go.IntKind.wrap Go.IntKind.i64 (u - (List.getD (List.getD l (Int.toNat i) ([] : List Int)) 0 (0 : Int))))) < (mspeed_L1_m s l t i u)) ∧ (((Go.IntKind.wrap Go.IntKind.i64 (i + (1 : Int))) = (Go.IntKind.wrap Go.IntKind.i64 (i + (1 : Int)))) ∧ (((((List.length l) : Nat) : Int) = (((List.length l) : Nat) : Int)) ∧ (True ∧ (((0 : Int) = (0 : Int)) ∧ (((0 : Int) = (0 : Int)) ∧ (((Go.IntKind.wrap Go.IntKind.i64 (u - (List.getD (List.getD l (Int.toNat i) ([] : List Int)) 0 (0 : Int)))) = (Go.IntKind.wrap Go.IntKind.i64 (u - (List.getD (List.getD l (Int.toNat i) ([] : List Int)) 0 (0 : Int))))) ∧ (((s = s) ∧ True) ∧ ((l = l) ∧ True)))))))))))
      False)
    False)
  (((0 : Int) = (spdOf s l t)) ∧ ((0 : Int) = (mErr s l t))))
set_option maxRecDepth 100000 in
theorem mspeed_L1_tree (s : Int) (l : List (List Int)) (t : Int) (i : Int) (u : Int) : mspeed_L1_T s l t i u = ex Try.prog (conOf [fault_e]) (subC (bodyOf Try.f19) [1, 1, 0, 1, 0, 0]) (nextE (mspeed_L1_N s l t i u) (kont Try.prog (conOf [fault_e]) (bodyOf Try.f19) [1, 1, 0, 1, 0] (retPost Try.prog Try.f19 1 (mspeed_res s l t)))) (mspeed_L1_F s l t i u) := by kernel_rfl
set_option maxRecDepth 100000 in
theorem mspeed_L1_round (s : Int) (l : List (List Int)) (t : Int) (i : Int) (u : Int)  (hI_L1 : mspeed_L1_I s l t i u) : mspeed_L1_T s l t i u := by
  obtain ⟨⟨i0, i1, i2, he, u0, u1⟩, hw, e, hv⟩ := hI_L1
  have hs : spdOf s l t = spd t l := by unfold spdOf; rw [if_pos he]
  unfold mspeed_L1_T
  rw [hs, he]
  by_cases hi : i < l.length
  · have hd := drop_consR (l := l) (i := i) i0 hi
    rw [hd] at hv hw
    simp only [hi, i0, decide_true, cnd]
    generalize l.getD i.toNat [] = r at *
    rw [r0e, r1e]
    obtain ⟨⟨a1, a2, a3, a4⟩, a5, a6⟩ := vL_cons hv
    simp only [spd] at hw
    rw [w64 (n := i + 1) (by omega) (by omega)]
    by_cases hc : u < r0 r
    · rw [if_pos hc] at hw
      rw [decide_eq_true hc]
      exact ⟨hw, trivial⟩
    · rw [if_neg hc] at hw
      rw [decide_eq_false hc, w64 (n := u - r0 r) (by omega) (by omega)]
      have e1 : (i + 1).toNat = i.toNat + 1 := by omega
      refine ⟨⟨⟨by omega, by omega, i2, he, by omega, by omega⟩, ?_, ?_⟩, ?_, by simp⟩
      · rw [e1]; exact hw
      · rw [e1]; exact ⟨_, a6⟩
      · unfold mspeed_L1_m
        omega
  · simp only [hi, decide_false, cnd]
    have e : l.drop i.toNat = [] := List.drop_eq_nil_of_le (by omega)
    rw [e] at hw
    exact ⟨hw, trivial⟩
set_option maxRecDepth 100000 in
theorem mspeed_L1_entry1 (s : Int) (l : List (List Int)) (t : Int) : (((mspeed_L1_I s l t (0 : Int) t) ∧ (((0 : Int) = (0 : Int)) ∧ (((((List.length l) : Nat) : Int) = (((List.length l) : Nat) : Int)) ∧ (True ∧ (((0 : Int) = (0 : Int)) ∧ (((0 : Int) = (0 : Int)) ∧ ((t = t) ∧ (((s = s) ∧ True) ∧ ((l = l) ∧ True)))))))))) = mspeed_L1_E s l t (mspeed_L1_S1 s l t) := by kernel_rfl
theorem mspeed_L1_1 (s : Int) (l : List (List Int)) (t : Int)  (h : ((mspeed_L1_I s l t (0 : Int) t) ∧ (((0 : Int) = (0 : Int)) ∧ (((((List.length l) : Nat) : Int) = (((List.length l) : Nat) : Int)) ∧ (True ∧ (((0 : Int) = (0 : Int)) ∧ (((0 : Int) = (0 : Int)) ∧ ((t = t) ∧ (((s = s) ∧ True) ∧ ((l = l) ∧ True)))))))))) : LoopP (ex Try.prog (conOf [fault_e]) (subC (bodyOf Try.f19) [1, 1, 0, 1, 0, 0])) (kont Try.prog (conOf [fault_e]) (bodyOf Try.f19) [1, 1, 0, 1, 0] (retPost Try.prog Try.f19 1 (mspeed_res s l t))) (mspeed_L1_S1 s l t) := by
  have hE : mspeed_L1_E s l t (mspeed_L1_S1 s l t) := Eq.mp (mspeed_L1_entry1 s l t) h
  unfold mspeed_L1_E at hE
  obtain ⟨i, hE⟩ := getI_of hE
  obtain ⟨u, hE⟩ := getI_of hE
  refine loop_of (α := (Int) × (Int)) (fun xx_ => mspeed_L1_F s l t xx_.1 xx_.2) (fun xx_ => mspeed_L1_I s l t xx_.1 xx_.2) (fun xx_ => mspeed_L1_m s l t xx_.1 xx_.2) (fun xx_ => mspeed_L1_N s l t xx_.1 xx_.2) (fun xx_ => mspeed_L1_T s l t xx_.1 xx_.2) (fun xx_ s_ h => ?_) ⟨⟨i, u⟩, hE⟩ (fun xx_ => mspeed_L1_tree s l t xx_.1 xx_.2) (fun xx_ hI => mspeed_L1_round s l t xx_.1 xx_.2  hI)
  unfold mspeed_L1_N at h
  obtain ⟨i, h⟩ := getI_of h
  obtain ⟨u, h⟩ := getI_of h
  exact ⟨⟨i, u⟩, h⟩
set_option maxRecDepth 100000 in
theorem mspeed_tree (s : Int) (l : List (List Int)) (t : Int) : ((cnd (!(decide ((mErr s l t) = (0 : Int))))
  (((0 : Int) = (spdOf s l t)) ∧ ((mErr s l t) = (mErr s l t)))
  (LoopP (ex Try.prog (conOf [fault_e]) (subC (bodyOf Try.f19) [1, 1, 0, 1, 0, 0])) (kont Try.prog (conOf [fault_e]) (bodyOf Try.f19) [1, 1, 0, 1, 0] (retPost Try.prog Try.f19 1 (mspeed_res s l t))) (mspeed_L1_S1 s l t)))) = EXD Try.prog (conOf [fault_e]) Try.f19 [.agg [.int .i64 s, .row 0], .cel (.int .i64 t)] [.recs [.int .i64, .int .i64] l] [] (mspeed_res s l t) := by kernel_rfl
theorem mspeed_holds (s : Int) (l : List (List Int)) (t : Int)  : (cnd (!(decide ((mErr s l t) = (0 : Int))))
  (((0 : Int) = (spdOf s l t)) ∧ ((mErr s l t) = (mErr s l t)))
  (LoopP (ex Try.prog (conOf [fault_e]) (subC (bodyOf Try.f19) [1, 1, 0, 1, 0, 0])) (kont Try.prog (conOf [fault_e]) (bodyOf Try.f19) [1, 1, 0, 1, 0] (retPost Try.prog Try.f19 1 (mspeed_res s l t))) (mspeed_L1_S1 s l t))) := by
  by_cases he : mErr s l t = 0
  · obtain ⟨h1, h2, h3⟩ := mErr_zero.1 he
    obtain ⟨v1, v2, v3⟩ := mV_iff.1 h1
    have j : (!decide (mErr s l t = 0)) = false := by simp [he]
    simp only [j, cnd]
    exact mspeed_L1_1 s l t ⟨⟨⟨by omega, by omega, v2, he, h2, h3⟩, by simp, 0, by simpa using v3⟩, by simp⟩
  · have j : (!decide (mErr s l t = 0)) = true := by simp [he]
    simp only [j, cnd]
    exact ⟨by unfold spdOf; rw [if_neg he], trivial⟩
set_option maxHeartbeats 2000000 in
theorem mspeed_ok : SoundEnt Try.prog mspeed_e := by
  refine ent_of_ex (Γ := (conOf [fault_e])) (conOf_sound (scons fault_ok snil)) (by kernel_rfl) Try.func19 (by kernel_rfl) (by kernel_rfl) (fun args rows caps res h ho => ?_)
  change mspeed_go args rows caps = some res at h
  unfold mspeed_go at h
  split at h
  · simp only [Option.some.injEq] at h
    subst h
    rename_i q0_ q2_ q1_
    skip
    exact EX.of (mspeed_tree q0_ q1_ q2_) (mspeed_holds q0_ q1_ q2_)
  · cases h
def mend_res (s : Int) (l : List (List Int)) : CRes := ⟨[], .one (.cel (.int .i64 (endOf s l))), []⟩
def mend_go : List TV → List RowA → List (List CV) → Option CRes := fun args rows caps =>
  match args, rows, caps with
  | [.agg [.int .i64 s, .row 0]], [.recs [.int .i64, .int .i64] l], [] => some (mend_res s l)
  | _, _, _ => none
def mend_e : Ent := ⟨21, [.recs [.int .i64, .int .i64] []], mend_go⟩
def mend_L1_F (s : Int) (l : List (List Int)) (i : Int) (en : Int) : St := ⟨22, [], [(12, (.one (.cel (.int .i64 i)))), (11, (.one (.cel (.int .i64 (((List.length l) : Nat) : Int))))), (10, (.one (.cel (.row 0)))), (3, (.one (.cel (.int .i64 en)))), (2, (.one (.cel (.int .i64 (0 : Int)))))], [[(.int .i64 s), (.row 0)]], [⟨(.recs [.int .i64, .int .i64] l), none⟩], 0⟩
def mend_L1_I (s : Int) (l : List (List Int)) (i : Int) (en : Int) : Prop := (0 ≤ i ∧ i ≤ l.length ∧ (l.length : Int) ≤ 2000 ∧ 0 ≤ en ∧ en ≤ 1099511627776) ∧ (en + endL (l.drop i.toNat) = endL l ∧ vL en (l.drop i.toNat) = true ∧ mValid s l = true)
def mend_L1_m (s : Int) (l : List (List Int)) (i : Int) (en : Int) : Nat := (l.length - i).toNat
def mend_L1_N (s : Int) (l : List (List Int)) (i' : Int) (en' : Int) (st_ : St) : Prop := getI st_ 12 fun i => getI st_ 3 fun en => mend_L1_I s l i en ∧ mend_L1_m s l i en < mend_L1_m s l i' en' ∧ SubA st_ (mend_L1_F s l i en)
def mend_L1_E (s : Int) (l : List (List Int)) (st_ : St) : Prop := getI st_ 12 fun i => getI st_ 3 fun en => mend_L1_I s l i en ∧ SubA st_ (mend_L1_F s l i en)
def mend_L1_S1 (s : Int) (l : List (List Int)) : St := ⟨22, [], [(12, (.one (.cel (.int .i64 (0 : Int))))), (11, (.one (.cel (.int .i64 (((List.length l) : Nat) : Int))))), (10, (.one (.cel (.row 0)))), (9, (.one (.cel (.ptr 0 1)))), (3, (.one (.cel (.int .i64 (0 : Int))))), (8, (.one (.cel (.bool (!(mValid s l)))))), (7, (.one (.cel (.bool (mValid s l))))), (6, (.one (.agg [(.int .i64 s), (.row 0)]))), (2, (.one (.cel (.int .i64 (0 : Int))))), (1, (.one (.cel (.ptr 0 0)))), (0, (.one (.agg [(.int .i64 s), (.row 0)])))], [[(.int .i64 s), (.row 0)]], [⟨(.recs [.int .i64, .int .i64] l), none⟩], 0⟩
def mend_L1_T (s : Int) (l : List (List Int)) (i : Int) (en : Int) : Prop := (cnd (decide (i < (((List.length l) : Nat) : Int)))
  (cnd (decide ((0 : Int) ≤ i))
    (cnd (decide (i < (((List.length l) : Nat) : Int)))
      ((mend_L1_I s l (Go.IntKind.wrap Go.IntKind.i64 (i + (1 : Int))) (Go.IntKind.wrap Go.IntKind.i64 (en + (List.getD (List.getD l (Int.toNat i) ([] : List Int)) 0 (0 : Int))))) ∧ (((mend_L1_m s l (Go.IntKind.wrap Go.IntKind.i64 (i + (1 : Int))) (Go.IntKind.wrap Go.IntKind.i64 (en + (List.getD (List.getD l (Int.toNat i) ([] : List Int)) 0 (0 : Int))))) < (mend_L1_m s l i en)) ∧ (((Go.IntKind.wrap Go.IntKind.i64 (i + (1 : Int))) = (Go.IntKind.wrap Go.IntKind.i64 (i + (1 : Int)))) ∧ (((((List.length l) : Nat) : Int) = (((List.length l) : Nat) : Int)) ∧ (True ∧ (((Go.IntKind.wrap Go.IntKind.i64 (en + (List.getD (List.getD l (Int.toNat i) ([] : List Int)) 0 (0 : Int)))) = (Go.IntKind.wrap Go.IntKind.i64 (en + (List.getD (List.getD l (Int.toNat i) ([] : List Int)) 0 (0 : Int))))) ∧ (((0 : Int) = (0 : Int)) ∧ (((s = s) ∧ True) ∧ ((l = l) ∧ True)))))))))
      False)
    False)
  (en = (endOf s l)))
set_option maxRecDepth 100000 in
theorem mend_L1_tree (s : Int) (l : List (List Int)) (i : Int) (en : Int) : mend_L1_T s l i en = ex Try.prog (conOf [valid_e]) (subC (bodyOf Try.f21) [1, 1, 1, 0, 1, 0, 0]) (nextE (mend_L1_N s l i en) (kont Try.prog (conOf [valid_e]) (bodyOf Try.f21) [1, 1, 1, 0, 1, 0] (retPost Try.prog Try.f21 1 (mend_res s l)))) (mend_L1_F s l i en) := by kernel_rfl
set_option maxRecDepth 100000 in
theorem mend_L1_round (s : Int) (l : List (List Int)) (i : Int) (en : Int)  (hI_L1 : mend_L1_I s l i en) : mend_L1_T s l i en := by
  obtain ⟨⟨i0, i1, i2, u0, u1⟩, hw, hv, hm⟩ := hI_L1
  unfold mend_L1_T
  by_cases hi : i < l.length
  · have hd := drop_consR (l := l) (i := i) i0 hi
    rw [hd] at hv hw
    simp only [hi, i0, decide_true, cnd]
    generalize l.getD i.toNat [] = r at *
    rw [r0e]
    obtain ⟨⟨a1, a2, a3, a4⟩, a5, a6⟩ := vL_cons hv
    simp only [endL] at hw
    rw [w64 (n := i + 1) (by omega) (by omega), w64 (n := en + r0 r) (by omega) (by omega)]
    have e1 : (i + 1).toNat = i.toNat + 1 := by omega
    refine ⟨⟨⟨by omega, by omega, i2, by omega, by omega⟩, ?_, ?_, hm⟩, ?_, by simp⟩
    · rw [e1]; omega
    · rw [e1]; exact a6
    · unfold mend_L1_m
      omega
  · simp only [hi, decide_false, cnd]
    have e : l.drop i.toNat = [] := List.drop_eq_nil_of_le (by omega)
    rw [e] at hw
    simp only [endL] at hw
    unfold endOf
    rw [if_pos hm]
    omega
set_option maxRecDepth 100000 in
theorem mend_L1_entry1 (s : Int) (l : List (List Int)) : (((mend_L1_I s l (0 : Int) (0 : Int)) ∧ (((0 : Int) = (0 : Int)) ∧ (((((List.length l) : Nat) : Int) = (((List.length l) : Nat) : Int)) ∧ (True ∧ (((0 : Int) = (0 : Int)) ∧ (((0 : Int) = (0 : Int)) ∧ (((s = s) ∧ True) ∧ ((l = l) ∧ True))))))))) = mend_L1_E s l (mend_L1_S1 s l) := by kernel_rfl
theorem mend_L1_1 (s : Int) (l : List (List Int))  (h : ((mend_L1_I s l (0 : Int) (0 : Int)) ∧ (((0 : Int) = (0 : Int)) ∧ (((((List.length l) : Nat) : Int) = (((List.length l) : Nat) : Int)) ∧ (True ∧ (((0 : Int) = (0 : Int)) ∧ (((0 : Int) = (0 : Int)) ∧ (((s = s) ∧ True) ∧ ((l = l) ∧ True))))))))) : LoopP (ex Try.prog (conOf [valid_e]) (subC (bodyOf Try.f21) [1, 1, 1, 0, 1, 0, 0])) (kont Try.prog (conOf [valid_e]) (bodyOf Try.f21) [1, 1, 1, 0, 1, 0] (retPost Try.prog Try.f21 1 (mend_res s l))) (mend_L1_S1 s l) := by
  have hE : mend_L1_E s l (mend_L1_S1 s l) := Eq.mp (mend_L1_entry1 s l) h
  unfold mend_L1_E at hE
  obtain ⟨i, hE⟩ := getI_of hE
  obtain ⟨en, hE⟩ := getI_of hE
  refine loop_of (α := (Int) × (Int)) (fun xx_ => mend_L1_F s l xx_.1 xx_.2) (fun xx_ => mend_L1_I s l xx_.1 xx_.2) (fun xx_ => mend_L1_m s l xx_.1 xx_.2) (fun xx_ => mend_L1_N s l xx_.1 xx_.2) (fun xx_ => mend_L1_T s l xx_.1 xx_.2) (fun xx_ s_ h => ?_) ⟨⟨i, en⟩, hE⟩ (fun xx_ => mend_L1_tree s l xx_.1 xx_.2) (fun xx_ hI => mend_L1_round s l xx_.1 xx_.2  hI)
  unfold mend_L1_N at h
  obtain ⟨i, h⟩ := getI_of h
  obtain ⟨en, h⟩ := getI_of h
  exact ⟨⟨i, en⟩, h⟩
set_option maxRecDepth 100000 in
theorem mend_tree (s : Int) (l : List (List Int)) : ((cnd (!(mValid s l))
  ((0 : Int) = (endOf s l))
  (LoopP (ex Try.prog (conOf [valid_e]) (subC (bodyOf Try.f21) [1, 1, 1, 0, 1, 0, 0])) (kont Try.prog (conOf [valid_e]) (bodyOf Try.f21) [1, 1, 1, 0, 1, 0] (retPost Try.prog Try.f21 1 (mend_res s l))) (mend_L1_S1 s l)))) = EXD Try.prog (conOf [valid_e]) Try.f21 [.agg [.int .i64 s, .row 0]] [.recs [.int .i64, .int .i64] l] [] (mend_res s l) := by kernel_rfl
theorem mend_holds (s : Int) (l : List (List Int))  : (cnd (!(mValid s l))
  ((0 : Int) = (endOf s l))
  (LoopP (ex Try.prog (conOf [valid_e]) (subC (bodyOf Try.f21) [1, 1, 1, 0, 1, 0, 0])) (kont Try.prog (conOf [valid_e]) (bodyOf Try.f21) [1, 1, 1, 0, 1, 0] (retPost Try.prog Try.f21 1 (mend_res s l))) (mend_L1_S1 s l))) := by
  cases hm : mValid s l with
  | false => simp [cnd, endOf, hm]
  | true =>
    obtain ⟨v1, v2, v3⟩ := mV_iff.1 hm
    simp only [Bool.not_true, cnd]
    exact mend_L1_1 s l ⟨⟨⟨by omega, by omega, v2, by omega, by omega⟩, by simp, by simpa using v3, hm⟩, by simp⟩
set_option maxHeartbeats 2000000 in
theorem mend_ok : SoundEnt Try.prog mend_e := by
  refine ent_of_ex (Γ := (conOf [valid_e])) (conOf_sound (scons valid_ok snil)) (by kernel_rfl) Try.func21 (by kernel_rfl) (by kernel_rfl) (fun args rows caps res h ho => ?_)
  change mend_go args rows caps = some res at h
  unfold mend_go at h
  split at h
  · simp only [Option.some.injEq] at h
    subst h
    rename_i q0_ q1_
    skip
    exact EX.of (mend_tree q0_ q1_) (mend_holds q0_ q1_)
  · cases h
def rvalid_res (s : Int) (l : List (List Int)) : CRes := ⟨[], .one (.cel (.bool (mValid s l))), []⟩
def rvalid_go : List TV → List RowA → List (List CV) → Option CRes := fun args rows caps =>
  match args, rows, caps with
  | [.agg [.int .i64 s, .row 0]], [.recs [.int .i64, .int .i64] l], [] => some (rvalid_res s l)
  | _, _, _ => none
def rvalid_e : Ent := ⟨12, [.recs [.int .i64, .int .i64] []], rvalid_go⟩
def rvalid_L1_F (s : Int) (l : List (List Int)) (i : Int) (en : Int) : St := ⟨70, [], [(4, (.one (.cel (.int .i64 i)))), (3, (.one (.cel (.int .i64 en)))), (2, (.one (.cel (.bool Bool.false)))), (1, (.one (.cel (.ptr 0 0))))], [[(.int .i64 s), (.row 0)]], [⟨(.recs [.int .i64, .int .i64] l), none⟩], 0⟩
def rvalid_L1_I (s : Int) (l : List (List Int)) (i : Int) (en : Int) : Prop := (0 ≤ i ∧ i ≤ l.length ∧ (l.length : Int) ≤ 2000 ∧ 0 ≤ s ∧ s < 46080 ∧ 0 ≤ en ∧ en ≤ 1099511627776 ∧ vL en (l.drop i.toNat) = vL 0 l)
def rvalid_L1_m (s : Int) (l : List (List Int)) (i : Int) (en : Int) : Nat := (l.length - i).toNat
def rvalid_L1_N (s : Int) (l : List (List Int)) (i' : Int) (en' : Int) (st_ : St) : Prop := getI st_ 4 fun i => getI st_ 3 fun en => rvalid_L1_I s l i en ∧ rvalid_L1_m s l i en < rvalid_L1_m s l i' en' ∧ SubA st_ (rvalid_L1_F s l i en)
def rvalid_L1_E (s : Int) (l : List (List Int)) (st_ : St) : Prop := getI st_ 4 fun i => getI st_ 3 fun en => rvalid_L1_I s l i en ∧ SubA st_ (rvalid_L1_F s l i en)
def rvalid_L1_S1 (s : Int) (l : List (List Int)) : St := ⟨70, [13, 8], [(4, (.one (.cel (.int .i64 (0 : Int))))), (3, (.one (.cel (.int .i64 (0 : Int))))), (18, (.one (.cel (.bool (((decide (s < (0 : Int))) || (decide ((46080 : Int) ≤ s))) || (decide ((2000 : Int) < (((List.length l) : Nat) : Int)))))))), (17, (.spec 13 Bool.false (.cel (.bool (decide ((2000 : Int) < (((List.length l) : Nat) : Int))))))), (16, (.spec 13 Bool.false (.cel (.int .i64 (((List.length l) : Nat) : Int))))), (15, (.spec 13 Bool.false (.cel (.row 0)))), (14, (.spec 13 Bool.false (.cel (.ptr 0 1)))), (13, (.one (.cel (.bool ((decide (s < (0 : Int))) || (decide ((46080 : Int) ≤ s))))))), (12, (.one (.cel (.bool ((decide (s < (0 : Int))) || (decide ((46080 : Int) ≤ s))))))), (11, (.spec 8 Bool.false (.cel (.bool (decide ((46080 : Int) ≤ s)))))), (10, (.spec 8 Bool.false (.cel (.int .i64 s)))), (9, (.spec 8 Bool.false (.cel (.ptr 0 0)))), (8, (.one (.cel (.bool (decide (s < (0 : Int))))))), (7, (.one (.cel (.bool (decide (s < (0 : Int))))))), (6, (.one (.cel (.int .i64 s)))), (5, (.one (.cel (.ptr 0 0)))), (2, (.one (.cel (.bool Bool.false)))), (1, (.one (.cel (.ptr 0 0)))), (0, (.one (.agg [(.int .i64 s), (.row 0)])))], [[(.int .i64 s), (.row 0)]], [⟨(.recs [.int .i64, .int .i64] l), none⟩], 0⟩
def rvalid_L1_T (s : Int) (l : List (List Int)) (i : Int) (en : Int) : Prop := (cnd (decide (i < (((List.length l) : Nat) : Int)))
  (cnd (decide ((0 : Int) ≤ i))
    (cnd (decide (i < (((List.length l) : Nat) : Int)))
      (cnd ((!((decide ((List.getD (List.getD l (Int.toNat i) ([] : List Int)) 0 (0 : Int)) < (1 : Int))) == Bool.false)) || (decide ((0 : Int) ≤ i)))
        (cnd ((!((decide ((List.getD (List.getD l (Int.toNat i) ([] : List Int)) 0 (0 : Int)) < (1 : Int))) == Bool.false)) || (decide (i < (((List.length l) : Nat) : Int))))
          (cnd ((!(((decide ((List.getD (List.getD l (Int.toNat i) ([] : List Int)) 0 (0 : Int)) < (1 : Int))) || (decide ((1099511627776 : Int) < (List.getD (List.getD l (Int.toNat i) ([] : List Int)) 0 (0 : Int))))) == Bool.false)) || (decide ((0 : Int) ≤ i)))
            (cnd ((!(((decide ((List.getD (List.getD l (Int.toNat i) ([] : List Int)) 0 (0 : Int)) < (1 : Int))) || (decide ((1099511627776 : Int) < (List.getD (List.getD l (Int.toNat i) ([] : List Int)) 0 (0 : Int))))) == Bool.false)) || (decide (i < (((List.length l) : Nat) : Int))))
              (cnd ((!((((decide ((List.getD (List.getD l (Int.toNat i) ([] : List Int)) 0 (0 : Int)) < (1 : Int))) || (decide ((1099511627776 : Int) < (List.getD (List.getD l (Int.toNat i) ([] : List Int)) 0 (0 : Int))))) || (decide ((List.getD (List.getD l (Int.toNat i) ([] : List Int)) (0 + 1) (0 : Int)) < (0 : Int)))) == Bool.false)) || (decide ((0 : Int) ≤ i)))
                (cnd ((!((((decide ((List.getD (List.getD l (Int.toNat i) ([] : List Int)) 0 (0 : Int)) < (1 : Int))) || (decide ((1099511627776 : Int) < (List.getD (List.getD l (Int.toNat i) ([] : List Int)) 0 (0 : Int))))) || (decide ((List.getD (List.getD l (Int.toNat i) ([] : List Int)) (0 + 1) (0 : Int)) < (0 : Int)))) == Bool.false)) || (decide (i < (((List.length l) : Nat) : Int))))
                  (cnd ((((decide ((List.getD (List.getD l (Int.toNat i) ([] : List Int)) 0 (0 : Int)) < (1 : Int))) || (decide ((1099511627776 : Int) < (List.getD (List.getD l (Int.toNat i) ([] : List Int)) 0 (0 : Int))))) || (decide ((List.getD (List.getD l (Int.toNat i) ([] : List Int)) (0 + 1) (0 : Int)) < (0 : Int)))) || (decide ((524288 : Int) < (List.getD (List.getD l (Int.toNat i) ([] : List Int)) (0 + 1) (0 : Int)))))
                    (Bool.false = (mValid s l))
                    (cnd (decide ((0 : Int) ≤ i))
                      (cnd (decide (i < (((List.length l) : Nat) : Int)))
                        (cnd (decide ((1099511627776 : Int) < (Go.IntKind.wrap Go.IntKind.i64 (en + (List.getD (List.getD l (Int.toNat i) ([] : List Int)) 0 (0 : Int))))))
                          (Bool.false = (mValid s l))
                          ((rvalid_L1_I s l (Go.IntKind.wrap Go.IntKind.i64 (i + (1 : Int))) (Go.IntKind.wrap Go.IntKind.i64 (en + (List.getD (List.getD l (Int.toNat i) ([] : List Int)) 0 (0 : Int))))) ∧ (((rvalid_L1_m s l (Go.IntKind.wrap Go.IntKind.i64 (i + (1 : Int))) (Go.IntKind.wrap Go.IntKind.i64 (en + (List.getD (List.getD l (Int.toNat i) ([] : List Int)) 0 (0 : Int))))) < (rvalid_L1_m s l i en)) ∧ (((Go.IntKind.wrap Go.IntKind.i64 (i + (1 : Int))) = (Go.IntKind.wrap Go.IntKind.i64 (i + (1 : Int)))) ∧ (((Go.IntKind.wrap Go.IntKind.i64 (en + (List.getD (List.getD l (Int.toNat i) ([] : List Int)) 0 (0 : Int)))) = (Go.IntKind.wrap Go.IntKind.i64 (en + (List.getD (List.getD l (Int.toNat i) ([] : List Int)) 0 (0 : Int))))) ∧ ((Bool.false = Bool.false) ∧ (True ∧ (((s = s) ∧ True) ∧ ((l = l) ∧ True)))))))))
                        False)
                      False))
                  False)
                False)
              False)
            False)
          False)
        False)
      False)
    False)
  (Bool.true = (mValid s l)))
set_option maxRecDepth 100000 in
theorem rvalid_L1_tree (s : Int) (l : List (List Int)) (i : Int) (en : Int) : rvalid_L1_T s l i en = ex Try.prog (conOf []) (subC (bodyOf Try.f12) [1, 1, 1, 0, 1, 0, 0]) (nextE (rvalid_L1_N s l i en) (kont Try.prog (conOf []) (bodyOf Try.f12) [1, 1, 1, 0, 1, 0] (retPost Try.prog Try.f12 1 (rvalid_res s l)))) (rvalid_L1_F s l i en) := by kernel_rfl
set_option maxRecDepth 100000 in
theorem rvalid_L1_round (s : Int) (l : List (List Int)) (i : Int) (en : Int)  (hI_L1 : rvalid_L1_I s l i en) : rvalid_L1_T s l i en := by
  obtain ⟨i0, i1, i2, s0, s1, e0, e1, hv⟩ := hI_L1
  unfold rvalid_L1_T
  have hmv : mValid s l = vL 0 l := by simp [mValid, s0, s1, i2]
  rw [hmv]
  by_cases hi : i < l.length
  · have hd := drop_consR (l := l) (i := i) i0 hi
    rw [hd] at hv
    simp only [hi, i0, decide_true, cnd, Bool.or_true]
    generalize l.getD i.toNat [] = r at *
    rw [r0e, r1e, ← hv]
    simp only [vL]
    by_cases hr : vRun r = true
    · have hr2 := hr
      simp only [vRun, Bool.and_eq_true, decide_eq_true_eq] at hr2
      have j : ((((decide (r0 r < 1)) || (decide (1099511627776 < r0 r))) || (decide (r1 r < 0))) || (decide (524288 < r1 r))) = false := by simp; omega
      rw [j, w64 (n := en + r0 r) (by omega) (by omega), w64 (n := i + 1) (by omega) (by omega)]
      simp only [hr, Bool.true_and, cnd]
      by_cases hm : en + r0 r ≤ 1099511627776
      · have j2 : decide (1099511627776 < en + r0 r) = false := by simp; omega
        rw [j2]
        refine ⟨⟨by omega, by omega, i2, s0, s1, by omega, hm, ?_⟩, ?_, by simp⟩
        · have e : (i + 1).toNat = i.toNat + 1 := by omega
          rw [e, ← hv]
          simp [vL, hr, hm]
        · unfold rvalid_L1_m
          omega
      · have j2 : decide (1099511627776 < en + r0 r) = true := by simp; omega
        simp [j2, hm]
    · have hr1 : vRun r = false := by simpa using hr
      have j : ((((decide (r0 r < 1)) || (decide (1099511627776 < r0 r))) || (decide (r1 r < 0))) || (decide (524288 < r1 r))) = true := by
        simp only [vRun, Bool.and_eq_true, decide_eq_true_eq] at hr
        simp; omega
      rw [j, hr1]
      simp [cnd]
  · simp only [hi, decide_false, cnd]
    have e : l.drop i.toNat = [] := List.drop_eq_nil_of_le (by omega)
    rw [e] at hv
    simp [← hv, vL]
set_option maxRecDepth 100000 in
theorem rvalid_L1_entry1 (s : Int) (l : List (List Int)) : (((rvalid_L1_I s l (0 : Int) (0 : Int)) ∧ (((0 : Int) = (0 : Int)) ∧ (((0 : Int) = (0 : Int)) ∧ ((Bool.false = Bool.false) ∧ (True ∧ (((s = s) ∧ True) ∧ ((l = l) ∧ True)))))))) = rvalid_L1_E s l (rvalid_L1_S1 s l) := by kernel_rfl
theorem rvalid_L1_1 (s : Int) (l : List (List Int))  (h : ((rvalid_L1_I s l (0 : Int) (0 : Int)) ∧ (((0 : Int) = (0 : Int)) ∧ (((0 : Int) = (0 : Int)) ∧ ((Bool.false = Bool.false) ∧ (True ∧ (((s = s) ∧ True) ∧ ((l = l) ∧ True)))))))) : LoopP (ex Try.prog (conOf []) (subC (bodyOf Try.f12) [1, 1, 1, 0, 1, 0, 0])) (kont Try.prog (conOf []) (bodyOf Try.f12) [1, 1, 1, 0, 1, 0] (retPost Try.prog Try.f12 1 (rvalid_res s l))) (rvalid_L1_S1 s l) := by
  have hE : rvalid_L1_E s l (rvalid_L1_S1 s l) := Eq.mp (rvalid_L1_entry1 s l) h
  unfold rvalid_L1_E at hE
  obtain ⟨i, hE⟩ := getI_of hE
  obtain ⟨en, hE⟩ := getI_of hE
  refine loop_of (α := (Int) × (Int)) (fun xx_ => rvalid_L1_F s l xx_.1 xx_.2) (fun xx_ => rvalid_L1_I s l xx_.1 xx_.2) (fun xx_ => rvalid_L1_m s l xx_.1 xx_.2) (fun xx_ => rvalid_L1_N s l xx_.1 xx_.2) (fun xx_ => rvalid_L1_T s l xx_.1 xx_.2) (fun xx_ s_ h => ?_) ⟨⟨i, en⟩, hE⟩ (fun xx_ => rvalid_L1_tree s l xx_.1 xx_.2) (fun xx_ hI => rvalid_L1_round s l xx_.1 xx_.2  hI)
  unfold rvalid_L1_N at h
  obtain ⟨i, h⟩ := getI_of h
  obtain ⟨en, h⟩ := getI_of h
  exact ⟨⟨i, en⟩, h⟩
set_option maxRecDepth 100000 in
theorem rvalid_tree (s : Int) (l : List (List Int)) : ((cnd (((decide (s < (0 : Int))) || (decide ((46080 : Int) ≤ s))) || (decide ((2000 : Int) < (((List.length l) : Nat) : Int))))
  (Bool.false = (mValid s l))
  (LoopP (ex Try.prog (conOf []) (subC (bodyOf Try.f12) [1, 1, 1, 0, 1, 0, 0])) (kont Try.prog (conOf []) (bodyOf Try.f12) [1, 1, 1, 0, 1, 0] (retPost Try.prog Try.f12 1 (rvalid_res s l))) (rvalid_L1_S1 s l)))) = EXD Try.prog (conOf []) Try.f12 [.agg [.int .i64 s, .row 0]] [.recs [.int .i64, .int .i64] l] [] (rvalid_res s l) := by kernel_rfl
theorem rvalid_holds (s : Int) (l : List (List Int))  : (cnd (((decide (s < (0 : Int))) || (decide ((46080 : Int) ≤ s))) || (decide ((2000 : Int) < (((List.length l) : Nat) : Int))))
  (Bool.false = (mValid s l))
  (LoopP (ex Try.prog (conOf []) (subC (bodyOf Try.f12) [1, 1, 1, 0, 1, 0, 0])) (kont Try.prog (conOf []) (bodyOf Try.f12) [1, 1, 1, 0, 1, 0] (retPost Try.prog Try.f12 1 (rvalid_res s l))) (rvalid_L1_S1 s l))) := by
  by_cases h : 0 ≤ s ∧ s < 46080 ∧ (l.length : Int) ≤ 2000
  · have j : ((decide (s < 0) || decide (46080 ≤ s)) || decide ((2000 : Int) < (l.length : Int))) = false := by simp; omega
    rw [j]
    simp only [cnd]
    exact rvalid_L1_1 s l ⟨⟨by omega, by omega, h.2.2, h.1, h.2.1, by omega, by omega, rfl⟩, by simp⟩
  · have j : ((decide (s < 0) || decide (46080 ≤ s)) || decide ((2000 : Int) < (l.length : Int))) = true := by simp; omega
    rw [j]
    simp only [cnd]
    symm
    simp [mValid]
    omega
set_option maxHeartbeats 2000000 in
theorem rvalid_ok : SoundEnt Try.prog rvalid_e := by
  refine ent_of_ex (Γ := (conOf [])) (conOf_sound snil) (by kernel_rfl) Try.func12 (by kernel_rfl) (by kernel_rfl) (fun args rows caps res h ho => ?_)
  change rvalid_go args rows caps = some res at h
  unfold rvalid_go at h
  split at h
  · simp only [Option.some.injEq] at h
    subst h
    rename_i q0_ q1_
    skip
    exact EX.of (rvalid_tree q0_ q1_) (rvalid_holds q0_ q1_)
  · cases h
def rend_res (s : Int) (l : List (List Int)) : CRes := ⟨[mValid s l], .one (.cel (.int .i64 (endL l))), []⟩
def rend_go : List TV → List RowA → List (List CV) → Option CRes := fun args rows caps =>
  match args, rows, caps with
  | [.agg [.int .i64 s, .row 0]], [.recs [.int .i64, .int .i64] l], [] => some (rend_res s l)
  | _, _, _ => none
def rend_e : Ent := ⟨22, [.recs [.int .i64, .int .i64] []], rend_go⟩
def rend_L1_F (s : Int) (l : List (List Int)) (i : Int) (en : Int) : St := ⟨21, [], [(4, (.one (.cel (.int .i64 i)))), (3, (.one (.cel (.int .i64 en)))), (2, (.one (.cel (.int .i64 (0 : Int))))), (1, (.one (.cel (.ptr 0 0))))], [[(.int .i64 s), (.row 0)]], [⟨(.recs [.int .i64, .int .i64] l), none⟩], 0⟩
def rend_L1_I (s : Int) (l : List (List Int)) (i : Int) (en : Int) : Prop := (0 ≤ i ∧ i ≤ l.length ∧ (l.length : Int) ≤ 2000 ∧ 0 ≤ en ∧ en ≤ 1099511627776) ∧ (en + endL (l.drop i.toNat) = endL l ∧ vL en (l.drop i.toNat) = true)
def rend_L1_m (s : Int) (l : List (List Int)) (i : Int) (en : Int) : Nat := (l.length - i).toNat
def rend_L1_N (s : Int) (l : List (List Int)) (i' : Int) (en' : Int) (st_ : St) : Prop := getI st_ 4 fun i => getI st_ 3 fun en => rend_L1_I s l i en ∧ rend_L1_m s l i en < rend_L1_m s l i' en' ∧ SubA st_ (rend_L1_F s l i en)
def rend_L1_E (s : Int) (l : List (List Int)) (st_ : St) : Prop := getI st_ 4 fun i => getI st_ 3 fun en => rend_L1_I s l i en ∧ SubA st_ (rend_L1_F s l i en)
def rend_L1_S1 (s : Int) (l : List (List Int)) : St := ⟨21, [], [(4, (.one (.cel (.int .i64 (0 : Int))))), (3, (.one (.cel (.int .i64 (0 : Int))))), (2, (.one (.cel (.int .i64 (0 : Int))))), (1, (.one (.cel (.ptr 0 0)))), (0, (.one (.agg [(.int .i64 s), (.row 0)])))], [[(.int .i64 s), (.row 0)]], [⟨(.recs [.int .i64, .int .i64] l), none⟩], 0⟩
def rend_L1_T (s : Int) (l : List (List Int)) (i : Int) (en : Int) : Prop := (cnd (decide (i < (((List.length l) : Nat) : Int)))
  (cnd (decide ((0 : Int) ≤ i))
    (cnd (decide (i < (((List.length l) : Nat) : Int)))
      ((rend_L1_I s l (Go.IntKind.wrap Go.IntKind.i64 (i + (1 : Int))) (Go.IntKind.wrap Go.IntKind.i64 (en + (List.getD (List.getD l (Int.toNat i) ([] : List Int)) 0 (0 : Int))))) ∧ (((rend_L1_m s l (Go.IntKind.wrap Go.IntKind.i64 (i + (1 : Int))) (Go.IntKind.wrap Go.IntKind.i64 (en + (List.getD (List.getD l (Int.toNat i) ([] : List Int)) 0 (0 : Int))))) < (rend_L1_m s l i en)) ∧ (((Go.IntKind.wrap Go.IntKind.i64 (i + (1 : Int))) = (Go.IntKind.wrap Go.IntKind.i64 (i + (1 : Int)))) ∧ (((Go.IntKind.wrap Go.IntKind.i64 (en + (List.getD (List.getD l (Int.toNat i) ([] : List Int)) 0 (0 : Int)))) = (Go.IntKind.wrap Go.IntKind.i64 (en + (List.getD (List.getD l (Int.toNat i) ([] : List Int)) 0 (0 : Int))))) ∧ (((0 : Int) = (0 : Int)) ∧ (True ∧ (((s = s) ∧ True) ∧ ((l = l) ∧ True))))))))
      False)
    False)
  (en = (endL l)))
set_option maxRecDepth 100000 in
theorem rend_L1_tree (s : Int) (l : List (List Int)) (i : Int) (en : Int) : rend_L1_T s l i en = ex Try.prog (conOf []) (subC (bodyOf Try.f22) [1, 1, 0, 1, 0, 0]) (nextE (rend_L1_N s l i en) (kont Try.prog (conOf []) (bodyOf Try.f22) [1, 1, 0, 1, 0] (retPost Try.prog Try.f22 1 (rend_res s l)))) (rend_L1_F s l i en) := by kernel_rfl
set_option maxRecDepth 100000 in
theorem rend_L1_round (s : Int) (l : List (List Int)) (i : Int) (en : Int) (p0 : (mValid s l) = true) (hI_L1 : rend_L1_I s l i en) : rend_L1_T s l i en := by
  obtain ⟨⟨i0, i1, i2, u0, u1⟩, hw, hv⟩ := hI_L1
  unfold rend_L1_T
  by_cases hi : i < l.length
  · have hd := drop_consR (l := l) (i := i) i0 hi
    rw [hd] at hv hw
    simp only [hi, i0, decide_true, cnd]
    generalize l.getD i.toNat [] = r at *
    rw [r0e]
    obtain ⟨⟨a1, a2, a3, a4⟩, a5, a6⟩ := vL_cons hv
    simp only [endL] at hw
    rw [w64 (n := i + 1) (by omega) (by omega), w64 (n := en + r0 r) (by omega) (by omega)]
    have e1 : (i + 1).toNat = i.toNat + 1 := by omega
    refine ⟨⟨⟨by omega, by omega, i2, by omega, by omega⟩, ?_, ?_⟩, ?_, by simp⟩
    · rw [e1]; omega
    · rw [e1]; exact a6
    · unfold rend_L1_m
      omega
  · simp only [hi, decide_false, cnd]
    have e : l.drop i.toNat = [] := List.drop_eq_nil_of_le (by omega)
    rw [e] at hw
    simp only [endL] at hw
    omega
set_option maxRecDepth 100000 in
theorem rend_L1_entry1 (s : Int) (l : List (List Int)) : (((rend_L1_I s l (0 : Int) (0 : Int)) ∧ (((0 : Int) = (0 : Int)) ∧ (((0 : Int) = (0 : Int)) ∧ (((0 : Int) = (0 : Int)) ∧ (True ∧ (((s = s) ∧ True) ∧ ((l = l) ∧ True)))))))) = rend_L1_E s l (rend_L1_S1 s l) := by kernel_rfl
theorem rend_L1_1 (s : Int) (l : List (List Int)) (p0 : (mValid s l) = true) (h : ((rend_L1_I s l (0 : Int) (0 : Int)) ∧ (((0 : Int) = (0 : Int)) ∧ (((0 : Int) = (0 : Int)) ∧ (((0 : Int) = (0 : Int)) ∧ (True ∧ (((s = s) ∧ True) ∧ ((l = l) ∧ True)))))))) : LoopP (ex Try.prog (conOf []) (subC (bodyOf Try.f22) [1, 1, 0, 1, 0, 0])) (kont Try.prog (conOf []) (bodyOf Try.f22) [1, 1, 0, 1, 0] (retPost Try.prog Try.f22 1 (rend_res s l))) (rend_L1_S1 s l) := by
  have hE : rend_L1_E s l (rend_L1_S1 s l) := Eq.mp (rend_L1_entry1 s l) h
  unfold rend_L1_E at hE
  obtain ⟨i, hE⟩ := getI_of hE
  obtain ⟨en, hE⟩ := getI_of hE
  refine loop_of (α := (Int) × (Int)) (fun xx_ => rend_L1_F s l xx_.1 xx_.2) (fun xx_ => rend_L1_I s l xx_.1 xx_.2) (fun xx_ => rend_L1_m s l xx_.1 xx_.2) (fun xx_ => rend_L1_N s l xx_.1 xx_.2) (fun xx_ => rend_L1_T s l xx_.1 xx_.2) (fun xx_ s_ h => ?_) ⟨⟨i, en⟩, hE⟩ (fun xx_ => rend_L1_tree s l xx_.1 xx_.2) (fun xx_ hI => rend_L1_round s l xx_.1 xx_.2 p0 hI)
  unfold rend_L1_N at h
  obtain ⟨i, h⟩ := getI_of h
  obtain ⟨en, h⟩ := getI_of h
  exact ⟨⟨i, en⟩, h⟩
set_option maxRecDepth 100000 in
theorem rend_tree (s : Int) (l : List (List Int)) : ((LoopP (ex Try.prog (conOf []) (subC (bodyOf Try.f22) [1, 1, 0, 1, 0, 0])) (kont Try.prog (conOf []) (bodyOf Try.f22) [1, 1, 0, 1, 0] (retPost Try.prog Try.f22 1 (rend_res s l))) (rend_L1_S1 s l))) = EXD Try.prog (conOf []) Try.f22 [.agg [.int .i64 s, .row 0]] [.recs [.int .i64, .int .i64] l] [] (rend_res s l) := by kernel_rfl
theorem rend_holds (s : Int) (l : List (List Int)) (p0 : (mValid s l) = true) : (LoopP (ex Try.prog (conOf []) (subC (bodyOf Try.f22) [1, 1, 0, 1, 0, 0])) (kont Try.prog (conOf []) (bodyOf Try.f22) [1, 1, 0, 1, 0] (retPost Try.prog Try.f22 1 (rend_res s l))) (rend_L1_S1 s l)) := by
  obtain ⟨v1, v2, v3⟩ := mV_iff.1 p0
  exact rend_L1_1 s l p0 ⟨⟨⟨by omega, by omega, v2, by omega, by omega⟩, by simp, by simpa using v3⟩, by simp⟩
set_option maxHeartbeats 2000000 in
theorem rend_ok : SoundEnt Try.prog rend_e := by
  refine ent_of_ex (Γ := (conOf [])) (conOf_sound snil) (by kernel_rfl) Try.func22 (by kernel_rfl) (by kernel_rfl) (fun args rows caps res h ho => ?_)
  change rend_go args rows caps = some res at h
  unfold rend_go at h
  split at h
  · simp only [Option.some.injEq] at h
    subst h
    rename_i q0_ q1_
    obtain ⟨p0, _⟩ := ho
    exact EX.of (rend_tree q0_ q1_) (rend_holds q0_ q1_ p0)
  · cases h
def rway_res (s : Int) (l : List (List Int)) (t : Int) : CRes := ⟨[mValid s l, decide (0 ≤ t), decide (t ≤ 1099511627776)], .one (.cel (.int .i64 (way t l))), []⟩
def rway_go : List TV → List RowA → List (List CV) → Option CRes := fun args rows caps =>
  match args, rows, caps with
  | [.agg [.int .i64 s, .row 0], .cel (.int .i64 t)], [.recs [.int .i64, .int .i64] l], [] => some (rway_res s l t)
  | _, _, _ => none
def rway_e : Ent := ⟨33, [.recs [.int .i64, .int .i64] []], rway_go⟩
def rway_L1_F (s : Int) (l : List (List Int)) (t : Int) (i : Int) (w : Int) (u : Int) : St := ⟨39, [], [(7, (.one (.cel (.int .i64 i)))), (6, (.one (.cel (.int .i64 u)))), (5, (.one (.cel (.int .i64 w)))), (4, (.one (.cel (.int .i64 (0 : Int))))), (2, (.one (.cel (.ptr 0 0))))], [[(.int .i64 s), (.row 0)]], [⟨(.recs [.int .i64, .int .i64] l), none⟩], 0⟩
def rway_L1_I (s : Int) (l : List (List Int)) (t : Int) (i : Int) (w : Int) (u : Int) : Prop := (0 ≤ i ∧ i ≤ l.length ∧ (l.length : Int) ≤ 2000 ∧ 0 ≤ u ∧ u ≤ t ∧ t ≤ 1099511627776 ∧ 0 ≤ w ∧ w ≤ (t - u) * 524288) ∧ (w + way u (l.drop i.toNat) = way t l ∧ ∃ e, vL e (l.drop i.toNat) = true)
def rway_L1_m (s : Int) (l : List (List Int)) (t : Int) (i : Int) (w : Int) (u : Int) : Nat := (l.length - i).toNat
def rway_L1_N (s : Int) (l : List (List Int)) (t : Int) (i' : Int) (w' : Int) (u' : Int) (st_ : St) : Prop := getI st_ 7 fun i => getI st_ 5 fun w => getI st_ 6 fun u => rway_L1_I s l t i w u ∧ rway_L1_m s l t i w u < rway_L1_m s l t i' w' u' ∧ SubA st_ (rway_L1_F s l t i w u)
def rway_L1_E (s : Int) (l : List (List Int)) (t : Int) (st_ : St) : Prop := getI st_ 7 fun i => getI st_ 5 fun w => getI st_ 6 fun u => rway_L1_I s l t i w u ∧ SubA st_ (rway_L1_F s l t i w u)
def rway_L1_S1 (s : Int) (l : List (List Int)) (t : Int) : St := ⟨39, [], [(7, (.one (.cel (.int .i64 (0 : Int))))), (6, (.one (.cel (.int .i64 t)))), (9, (.one (.cel (.int .i64 t)))), (5, (.one (.cel (.int .i64 (0 : Int))))), (4, (.one (.cel (.int .i64 (0 : Int))))), (2, (.one (.cel (.ptr 0 0)))), (0, (.one (.agg [(.int .i64 s), (.row 0)]))), (1, (.one (.cel (.int .i64 t))))], [[(.int .i64 s), (.row 0)]], [⟨(.recs [.int .i64, .int .i64] l), none⟩], 0⟩
def rway_L1_T (s : Int) (l : List (List Int)) (t : Int) (i : Int) (w : Int) (u : Int) : Prop := (cnd (decide (i < (((List.length l) : Nat) : Int)))
  (cnd (decide ((0 : Int) ≤ i))
    (cnd (decide (i < (((List.length l) : Nat) : Int)))
      (cnd (decide ((0 : Int) ≤ i))
        (cnd (decide (i < (((List.length l) : Nat) : Int)))
          ((rway_L1_I s l t (Go.IntKind.wrap Go.IntKind.i64 (i + (1 : Int))) (Go.IntKind.wrap Go.IntKind.i64 (w + (Go.IntKind.wrap Go.IntKind.i64 ((gmin u (List.getD (List.getD l (Int.toNat i) ([] : List Int)) 0 (0 : Int))) * (List.getD (List.getD l (Int.toNat i) ([] : List Int)) (0 + 1) (0 : Int)))))) (Go.IntKind.wrap Go.IntKind.i64 (u - (gmin u (List.getD (List.getD l (Int.toNat i) ([] : List Int)) 0 (0 : Int)))))) ∧ (((rway_L1_m s l t (Go.IntKind.wrap Go.IntKind.i64 (i + (1 : Int))) (Go.IntKind.wrap Go.IntKind.i64 (w + (Go.IntKind.wrap Go.IntKind.i64 ((gmin u (List.getD (List.getD l (Int.toNat i) ([] : List Int)) 0 (0 : Int))) * (List.getD (List.getD l (Int.toNat i) ([] : List Int)) (0 + 1) (0 : Int)))))) (Go.IntKind.wrap Go.IntKind.i64 (u - (gmin u (List.getD (List.getD l (Int.toNat i) ([] : List Int)) 0 (0 : Int)))))) < (rway_L1_m s l t i w u)) ∧ (((Go.IntKind.wrap Go.IntKind.i64 (i + (1 : Int))) = (Go.IntKind.wrap Go.IntKind.i64 (i + (1 : Int)))) ∧ (((Go.IntKind.wrap Go.IntKind.i64 (u - (gmin u (List.getD (List.getD l (Int.toNat i) ([] : List Int)) 0 (0 : Int))))) = (Go.IntKind.wrap Go.IntKind.i64 (u - (gmin u (List.getD (List.getD l (Int.toNat i) ([] : List Int)) 0 (0 : Int)))))) ∧ (((Go.IntKind.wrap Go.IntKind.i64 (w + (Go.IntKind.wrap Go.IntKind.i64 ((gmin u (List.getD (List.getD l (Int.toNat i) ([] : List Int)) 0 (0 : Int))) * (List.getD (List.getD l (Int.toNat i) ([] : List Int)) (0 + 1) (0 : Int)))))) = (Go.IntKind.wrap Go.IntKind.i64 (w + (Go.IntKind.wrap Go.IntKind.i64 ((gmin u (List.getD (List.getD l (Int.toNat i) ([] : List Int)) 0 (0 : Int))) * (List.getD (List.getD l (Int.toNat i) ([] : List Int)) (0 + 1) (0 : Int))))))) ∧ (((0 : Int) = (0 : Int)) ∧ (True ∧ (((s = s) ∧ True) ∧ ((l = l) ∧ True)))))))))
          False)
        False)
      False)
    False)
  (w = (way t l)))
set_option maxRecDepth 100000 in
theorem rway_L1_tree (s : Int) (l : List (List Int)) (t : Int) (i : Int) (w : Int) (u : Int) : rway_L1_T s l t i w u = ex Try.prog (conOf []) (subC (bodyOf Try.f33) [1, 1, 1, 0, 1, 0, 0]) (nextE (rway_L1_N s l t i w u) (kont Try.prog (conOf []) (bodyOf Try.f33) [1, 1, 1, 0, 1, 0] (retPost Try.prog Try.f33 1 (rway_res s l t)))) (rway_L1_F s l t i w u) := by kernel_rfl
set_option maxRecDepth 100000 in
theorem rway_L1_round (s : Int) (l : List (List Int)) (t : Int) (i : Int) (w : Int) (u : Int) (p0 : (mValid s l) = true) (p1 : (decide (0 ≤ t)) = true) (p2 : (decide (t ≤ 1099511627776)) = true) (hI_L1 : rway_L1_I s l t i w u) : rway_L1_T s l t i w u := by
  obtain ⟨⟨i0, i1, i2, u0, u1, t1, w0, w1⟩, hw, e, hv⟩ := hI_L1
  unfold rway_L1_T
  by_cases hi : i < l.length
  · have hd := drop_consR (l := l) (i := i) i0 hi
    rw [hd] at hv hw
    simp only [hi, i0, decide_true, cnd]
    generalize l.getD i.toNat [] = r at *
    rw [r0e, r1e]
    obtain ⟨⟨a1, a2, a3, a4⟩, a5, a6⟩ := vL_cons hv
    have hg : gmin u (r0 r) = min u (r0 r) := by unfold gmin; omega
    simp only [way] at hw
    rw [hg]
    have hm : 0 ≤ min u (r0 r) * r1 r ∧ min u (r0 r) * r1 r ≤ min u (r0 r) * 524288 := ⟨Int.mul_nonneg (by omega) a3, Int.mul_le_mul_of_nonneg_left a4 (by omega)⟩
    generalize hn : min u (r0 r) = n at *
    have n0 : 0 ≤ n ∧ n ≤ u := by omega
    generalize hp : n * r1 r = p at *
    rw [w64 (n := p) (by omega) (by omega), w64 (n := w + p) (by omega) (by omega), w64 (n := i + 1) (by omega) (by omega), w64 (n := u - n) (by omega) (by omega)]
    have e1 : (i + 1).toNat = i.toNat + 1 := by omega
    refine ⟨⟨⟨by omega, by omega, i2, by omega, by omega, t1, by omega, by omega⟩, ?_, _, by rw [e1]; exact a6⟩, ?_, by simp⟩
    · rw [e1]; omega
    · unfold rway_L1_m
      omega
  · simp only [hi, decide_false, cnd]
    have e : l.drop i.toNat = [] := List.drop_eq_nil_of_le (by omega)
    rw [e] at hw
    simp only [way] at hw
    omega
set_option maxRecDepth 100000 in
theorem rway_L1_entry1 (s : Int) (l : List (List Int)) (t : Int) : (((rway_L1_I s l t (0 : Int) (0 : Int) t) ∧ (((0 : Int) = (0 : Int)) ∧ ((t = t) ∧ (((0 : Int) = (0 : Int)) ∧ (((0 : Int) = (0 : Int)) ∧ (True ∧ (((s = s) ∧ True) ∧ ((l = l) ∧ True))))))))) = rway_L1_E s l t (rway_L1_S1 s l t) := by kernel_rfl
theorem rway_L1_1 (s : Int) (l : List (List Int)) (t : Int) (p0 : (mValid s l) = true) (p1 : (decide (0 ≤ t)) = true) (p2 : (decide (t ≤ 1099511627776)) = true) (h : ((rway_L1_I s l t (0 : Int) (0 : Int) t) ∧ (((0 : Int) = (0 : Int)) ∧ ((t = t) ∧ (((0 : Int) = (0 : Int)) ∧ (((0 : Int) = (0 : Int)) ∧ (True ∧ (((s = s) ∧ True) ∧ ((l = l) ∧ True))))))))) : LoopP (ex Try.prog (conOf []) (subC (bodyOf Try.f33) [1, 1, 1, 0, 1, 0, 0])) (kont Try.prog (conOf []) (bodyOf Try.f33) [1, 1, 1, 0, 1, 0] (retPost Try.prog Try.f33 1 (rway_res s l t))) (rway_L1_S1 s l t) := by
  have hE : rway_L1_E s l t (rway_L1_S1 s l t) := Eq.mp (rway_L1_entry1 s l t) h
  unfold rway_L1_E at hE
  obtain ⟨i, hE⟩ := getI_of hE
  obtain ⟨w, hE⟩ := getI_of hE
  obtain ⟨u, hE⟩ := getI_of hE
  refine loop_of (α := (Int) × (Int) × (Int)) (fun xx_ => rway_L1_F s l t xx_.1 xx_.2.1 xx_.2.2) (fun xx_ => rway_L1_I s l t xx_.1 xx_.2.1 xx_.2.2) (fun xx_ => rway_L1_m s l t xx_.1 xx_.2.1 xx_.2.2) (fun xx_ => rway_L1_N s l t xx_.1 xx_.2.1 xx_.2.2) (fun xx_ => rway_L1_T s l t xx_.1 xx_.2.1 xx_.2.2) (fun xx_ s_ h => ?_) ⟨⟨i, w, u⟩, hE⟩ (fun xx_ => rway_L1_tree s l t xx_.1 xx_.2.1 xx_.2.2) (fun xx_ hI => rway_L1_round s l t xx_.1 xx_.2.1 xx_.2.2 p0 p1 p2 hI)
  unfold rway_L1_N at h
  obtain ⟨i, h⟩ := getI_of h
  obtain ⟨w, h⟩ := getI_of h
  obtain ⟨u, h⟩ := getI_of h
  exact ⟨⟨i, w, u⟩, h⟩
set_option maxRecDepth 100000 in
theorem rway_tree (s : Int) (l : List (List Int)) (t : Int) : ((LoopP (ex Try.prog (conOf []) (subC (bodyOf Try.f33) [1, 1, 1, 0, 1, 0, 0])) (kont Try.prog (conOf []) (bodyOf Try.f33) [1, 1, 1, 0, 1, 0] (retPost Try.prog Try.f33 1 (rway_res s l t))) (rway_L1_S1 s l t))) = EXD Try.prog (conOf []) Try.f33 [.agg [.int .i64 s, .row 0], .cel (.int .i64 t)] [.recs [.int .i64, .int .i64] l] [] (rway_res s l t) := by kernel_rfl
theorem rway_holds (s : Int) (l : List (List Int)) (t : Int) (p0 : (mValid s l) = true) (p1 : (decide (0 ≤ t)) = true) (p2 : (decide (t ≤ 1099511627776)) = true) : (LoopP (ex Try.prog (conOf []) (subC (bodyOf Try.f33) [1, 1, 1, 0, 1, 0, 0])) (kont Try.prog (conOf []) (bodyOf Try.f33) [1, 1, 1, 0, 1, 0] (retPost Try.prog Try.f33 1 (rway_res s l t))) (rway_L1_S1 s l t)) := by
  have q0 := p0
  have q1 := p1
  have q2 := p2
  simp only [decide_eq_true_eq] at p1 p2
  obtain ⟨v1, v2, v3⟩ := mV_iff.1 p0
  exact rway_L1_1 s l t q0 q1 q2 ⟨⟨⟨by omega, by omega, v2, by omega, by omega, by omega, by omega, by omega⟩, by simp, 0, by simpa using v3⟩, by simp⟩
set_option maxHeartbeats 2000000 in
theorem rway_ok : SoundEnt Try.prog rway_e := by
  refine ent_of_ex (Γ := (conOf [])) (conOf_sound snil) (by kernel_rfl) Try.func33 (by kernel_rfl) (by kernel_rfl) (fun args rows caps res h ho => ?_)
  change rway_go args rows caps = some res at h
  unfold rway_go at h
  split at h
  · simp only [Option.some.injEq] at h
    subst h
    rename_i q0_ q2_ q1_
    obtain ⟨p0, p1, p2, _⟩ := ho
    exact EX.of (rway_tree q0_ q1_ q2_) (rway_holds q0_ q1_ q2_ p0 p1 p2)
  · cases h
theorem way_bnd {s : Int} {l : List (List Int)} {t : Int} (hm : mValid s l = true) (h0 : 0 ≤ t) (h1 : t ≤ 1099511627776) : 0 ≤ way t l ∧ way t l ≤ 1099511627776 * 524288 := by
  obtain ⟨v1, v2, v3⟩ := mV_iff.1 hm
  have := way_bd l 0 t v3 h0
  omega
def rposition_res (s : Int) (l : List (List Int)) (t : Int) : CRes := ⟨[mValid s l, decide (0 ≤ t), decide (t ≤ 1099511627776)], .one (.cel (.int .i64 (s + way t l / 65536))), []⟩
def rposition_go : List TV → List RowA → List (List CV) → Option CRes := fun args rows caps =>
  match args, rows, caps with
  | [.agg [.int .i64 s, .row 0], .cel (.int .i64 t)], [.recs [.int .i64, .int .i64] l], [] => some (rposition_res s l t)
  | _, _, _ => none
def rposition_e : Ent := ⟨23, [.recs [.int .i64, .int .i64] []], rposition_go⟩
set_option maxRecDepth 100000 in
theorem rposition_tree (s : Int) (l : List (List Int)) (t : Int) : ((cnd (mValid s l)
  (cnd (decide ((0 : Int) ≤ t))
    (cnd (decide (t ≤ (1099511627776 : Int)))
      (cnd (inBig (way t l))
        ((Go.IntKind.wrap Go.IntKind.i64 (s + ((way t l) / (65536 : Int)))) = (s + ((way t l) / (65536 : Int))))
        False)
      False)
    False)
  False)) = EXD Try.prog (conOf [rway_e, rfloor_e]) Try.f23 [.agg [.int .i64 s, .row 0], .cel (.int .i64 t)] [.recs [.int .i64, .int .i64] l] [] (rposition_res s l t) := by kernel_rfl
theorem rposition_holds (s : Int) (l : List (List Int)) (t : Int) (p0 : (mValid s l) = true) (p1 : (decide (0 ≤ t)) = true) (p2 : (decide (t ≤ 1099511627776)) = true) : (cnd (mValid s l)
  (cnd (decide ((0 : Int) ≤ t))
    (cnd (decide (t ≤ (1099511627776 : Int)))
      (cnd (inBig (way t l))
        ((Go.IntKind.wrap Go.IntKind.i64 (s + ((way t l) / (65536 : Int)))) = (s + ((way t l) / (65536 : Int))))
        False)
      False)
    False)
  False) := by
  rw [p0, p1, p2]
  simp only [decide_eq_true_eq] at p1 p2
  obtain ⟨b1, b2⟩ := way_bnd p0 p1 p2
  obtain ⟨v1, v2, v3⟩ := mV_iff.1 p0
  have j : inBig (way t l) = true := inBig_iff.2 (by omega)
  rw [j]
  exact w64 (by omega) (by omega)
set_option maxHeartbeats 2000000 in
theorem rposition_ok : SoundEnt Try.prog rposition_e := by
  refine ent_of_ex (Γ := (conOf [rway_e, rfloor_e])) (conOf_sound (scons rway_ok (scons rfloor_ok snil))) (by kernel_rfl) Try.func23 (by kernel_rfl) (by kernel_rfl) (fun args rows caps res h ho => ?_)
  change rposition_go args rows caps = some res at h
  unfold rposition_go at h
  split at h
  · simp only [Option.some.injEq] at h
    subst h
    rename_i q0_ q2_ q1_
    obtain ⟨p0, p1, p2, _⟩ := ho
    exact EX.of (rposition_tree q0_ q1_ q2_) (rposition_holds q0_ q1_ q2_ p0 p1 p2)
  · cases h
def rspeed_res (s : Int) (l : List (List Int)) (t : Int) : CRes := ⟨[mValid s l, decide (0 ≤ t), decide (t ≤ 1099511627776)], .one (.cel (.int .i64 (spd t l))), []⟩
def rspeed_go : List TV → List RowA → List (List CV) → Option CRes := fun args rows caps =>
  match args, rows, caps with
  | [.agg [.int .i64 s, .row 0], .cel (.int .i64 t)], [.recs [.int .i64, .int .i64] l], [] => some (rspeed_res s l t)
  | _, _, _ => none
def rspeed_e : Ent := ⟨24, [.recs [.int .i64, .int .i64] []], rspeed_go⟩
def rspeed_L1_F (s : Int) (l : List (List Int)) (t : Int) (i : Int) (en : Int) : St := ⟨31, [], [(6, (.one (.cel (.int .i64 i)))), (5, (.one (.cel (.int .i64 en)))), (4, (.one (.cel (.int .i64 (0 : Int))))), (2, (.one (.cel (.ptr 0 0)))), (1, (.one (.cel (.int .i64 t))))], [[(.int .i64 s), (.row 0)]], [⟨(.recs [.int .i64, .int .i64] l), none⟩], 0⟩
def rspeed_L1_I (s : Int) (l : List (List Int)) (t : Int) (i : Int) (en : Int) : Prop := (0 ≤ i ∧ i ≤ l.length ∧ (l.length : Int) ≤ 2000 ∧ 0 ≤ en ∧ en ≤ t ∧ t ≤ 1099511627776) ∧ (spd (t - en) (l.drop i.toNat) = spd t l ∧ ∃ e, vL e (l.drop i.toNat) = true)
def rspeed_L1_m (s : Int) (l : List (List Int)) (t : Int) (i : Int) (en : Int) : Nat := (l.length - i).toNat
def rspeed_L1_N (s : Int) (l : List (List Int)) (t : Int) (i' : Int) (en' : Int) (st_ : St) : Prop := getI st_ 6 fun i => getI st_ 5 fun en => rspeed_L1_I s l t i en ∧ rspeed_L1_m s l t i en < rspeed_L1_m s l t i' en' ∧ SubA st_ (rspeed_L1_F s l t i en)
def rspeed_L1_E (s : Int) (l : List (List Int)) (t : Int) (st_ : St) : Prop := getI st_ 6 fun i => getI st_ 5 fun en => rspeed_L1_I s l t i en ∧ SubA st_ (rspeed_L1_F s l t i en)
def rspeed_L1_S1 (s : Int) (l : List (List Int)) (t : Int) : St := ⟨31, [], [(6, (.one (.cel (.int .i64 (0 : Int))))), (5, (.one (.cel (.int .i64 (0 : Int))))), (4, (.one (.cel (.int .i64 (0 : Int))))), (2, (.one (.cel (.ptr 0 0)))), (0, (.one (.agg [(.int .i64 s), (.row 0)]))), (1, (.one (.cel (.int .i64 t))))], [[(.int .i64 s), (.row 0)]], [⟨(.recs [.int .i64, .int .i64] l), none⟩], 0⟩
def rspeed_L1_T (s : Int) (l : List (List Int)) (t : Int) (i : Int) (en : Int) : Prop := (cnd (decide (i < (((List.length l) : Nat) : Int)))
  (cnd (decide ((0 : Int) ≤ i))
    (cnd (decide (i < (((List.length l) : Nat) : Int)))
      (cnd (decide (t < (Go.IntKind.wrap Go.IntKind.i64 (en + (List.getD (List.getD l (Int.toNat i) ([] : List Int)) 0 (0 : Int))))))
        (cnd (decide ((0 : Int) ≤ i))
          (cnd (decide (i < (((List.length l) : Nat) : Int)))
            ((List.getD (List.getD l (Int.toNat i) ([] : List Int)) (0 + 1) (0 : Int)) = (spd t l))
            False)
          False)
        ((rspeed_L1_I s l t (Go.IntKind.wrap Go.IntKind.i64 (i + (1 : Int))) (Go.IntKind.wrap Go.IntKind.i64 (en + (List.getD (List.getD l (Int.toNat i) ([] : List Int)) 0 (0 : Int))))) ∧ (((rspeed_L1_m s l t (Go.IntKind.wrap Go.IntKind.i64 (i + (1 : Int))) (Go.IntKind.wrap Go.IntKind.i64 (en + (List.getD (List.getD l (Int.toNat i) ([] : List Int)) 0 (0 : Int))))) < (rspeed_L1_m s l t i en)) ∧ (((Go.IntKind.wrap Go.IntKind.i64 (i + (1 : Int))) = (Go.IntKind.wrap Go.IntKind.i64 (i + (1 : Int)))) ∧ (((Go.IntKind.wrap Go.IntKind.i64 (en + (List.getD (List.getD l (Int.toNat i) ([] : List Int)) 0 (0 : Int)))) = (Go.IntKind.wrap Go.IntKind.i64 (en + (List.getD (List.getD l (Int.toNat i) ([] : List Int)) 0 (0 : Int))))) ∧ (((0 : Int) = (0 : Int)) ∧ (True ∧ ((t = t) ∧ (((s = s) ∧ True) ∧ ((l = l) ∧ True))))))))))
      False)
    False)
  ((0 : Int) = (spd t l)))
set_option maxRecDepth 100000 in
theorem rspeed_L1_tree (s : Int) (l : List (List Int)) (t : Int) (i : Int) (en : Int) : rspeed_L1_T s l t i en = ex Try.prog (conOf []) (subC (bodyOf Try.f24) [1, 1, 0, 1, 0, 0]) (nextE (rspeed_L1_N s l t i en) (kont Try.prog (conOf []) (bodyOf Try.f24) [1, 1, 0, 1, 0] (retPost Try.prog Try.f24 1 (rspeed_res s l t)))) (rspeed_L1_F s l t i en) := by kernel_rfl
set_option maxRecDepth 100000 in
theorem rspeed_L1_round (s : Int) (l : List (List Int)) (t : Int) (i : Int) (en : Int) (p0 : (mValid s l) = true) (p1 : (decide (0 ≤ t)) = true) (p2 : (decide (t ≤ 1099511627776)) = true) (hI_L1 : rspeed_L1_I s l t i en) : rspeed_L1_T s l t i en := by
  obtain ⟨⟨i0, i1, i2, u0, u1, t1⟩, hw, e, hv⟩ := hI_L1
  unfold rspeed_L1_T
  by_cases hi : i < l.length
  · have hd := drop_consR (l := l) (i := i) i0 hi
    rw [hd] at hv hw
    simp only [hi, i0, decide_true, cnd]
    generalize l.getD i.toNat [] = r at *
    rw [r0e, r1e]
    obtain ⟨⟨a1, a2, a3, a4⟩, a5, a6⟩ := vL_cons hv
    simp only [spd] at hw
    rw [w64 (n := i + 1) (by omega) (by omega), w64 (n := en + r0 r) (by omega) (by omega)]
    by_cases hc : t < en + r0 r
    · rw [if_pos (by omega)] at hw
      rw [decide_eq_true hc]
      exact hw
    · rw [if_neg (by omega)] at hw
      rw [decide_eq_false hc]
      have e1 : (i + 1).toNat = i.toNat + 1 := by omega
      refine ⟨⟨⟨by omega, by omega, i2, by omega, by omega, t1⟩, ?_, ?_⟩, ?_, by simp⟩
      · rw [e1, ← hw]; congr 1; omega
      · rw [e1]; exact ⟨_, a6⟩
      · unfold rspeed_L1_m
        omega
  · simp only [hi, decide_false, cnd]
    have e : l.drop i.toNat = [] := List.drop_eq_nil_of_le (by omega)
    rw [e] at hw
    exact hw
set_option maxRecDepth 100000 in
theorem rspeed_L1_entry1 (s : Int) (l : List (List Int)) (t : Int) : (((rspeed_L1_I s l t (0 : Int) (0 : Int)) ∧ (((0 : Int) = (0 : Int)) ∧ (((0 : Int) = (0 : Int)) ∧ (((0 : Int) = (0 : Int)) ∧ (True ∧ ((t = t) ∧ (((s = s) ∧ True) ∧ ((l = l) ∧ True))))))))) = rspeed_L1_E s l t (rspeed_L1_S1 s l t) := by kernel_rfl
theorem rspeed_L1_1 (s : Int) (l : List (List Int)) (t : Int) (p0 : (mValid s l) = true) (p1 : (decide (0 ≤ t)) = true) (p2 : (decide (t ≤ 1099511627776)) = true) (h : ((rspeed_L1_I s l t (0 : Int) (0 : Int)) ∧ (((0 : Int) = (0 : Int)) ∧ (((0 : Int) = (0 : Int)) ∧ (((0 : Int) = (0 : Int)) ∧ (True ∧ ((t = t) ∧ (((s = s) ∧ True) ∧ ((l = l) ∧ True))))))))) : LoopP (ex Try.prog (conOf []) (subC (bodyOf Try.f24) [1, 1, 0, 1, 0, 0])) (kont Try.prog (conOf []) (bodyOf Try.f24) [1, 1, 0, 1, 0] (retPost Try.prog Try.f24 1 (rspeed_res s l t))) (rspeed_L1_S1 s l t) := by
  have hE : rspeed_L1_E s l t (rspeed_L1_S1 s l t) := Eq.mp (rspeed_L1_entry1 s l t) h
  unfold rspeed_L1_E at hE
  obtain ⟨i, hE⟩ := getI_of hE
  obtain ⟨en, hE⟩ := getI_of hE
  refine loop_of (α := (Int) × (Int)) (fun xx_ => rspeed_L1_F s l t xx_.1 xx_.2) (fun xx_ => rspeed_L1_I s l t xx_.1 xx_.2) (fun xx_ => rspeed_L1_m s l t xx_.1 xx_.2) (fun xx_ => rspeed_L1_N s l t xx_.1 xx_.2) (fun xx_ => rspeed_L1_T s l t xx_.1 xx_.2) (fun xx_ s_ h => ?_) ⟨⟨i, en⟩, hE⟩ (fun xx_ => rspeed_L1_tree s l t xx_.1 xx_.2) (fun xx_ hI => rspeed_L1_round s l t xx_.1 xx_.2 p0 p1 p2 hI)
  unfold rspeed_L1_N at h
  obtain ⟨i, h⟩ := getI_of h
  obtain ⟨en, h⟩ := getI_of h
  exact ⟨⟨i, en⟩, h⟩
set_option maxRecDepth 100000 in
theorem rspeed_tree (s : Int) (l : List (List Int)) (t : Int) : ((LoopP (ex Try.prog (conOf []) (subC (bodyOf Try.f24) [1, 1, 0, 1, 0, 0])) (kont Try.prog (conOf []) (bodyOf Try.f24) [1, 1, 0, 1, 0] (retPost Try.prog Try.f24 1 (rspeed_res s l t))) (rspeed_L1_S1 s l t))) = EXD Try.prog (conOf []) Try.f24 [.agg [.int .i64 s, .row 0], .cel (.int .i64 t)] [.recs [.int .i64, .int .i64] l] [] (rspeed_res s l t) := by kernel_rfl
theorem rspeed_holds (s : Int) (l : List (List Int)) (t : Int) (p0 : (mValid s l) = true) (p1 : (decide (0 ≤ t)) = true) (p2 : (decide (t ≤ 1099511627776)) = true) : (LoopP (ex Try.prog (conOf []) (subC (bodyOf Try.f24) [1, 1, 0, 1, 0, 0])) (kont Try.prog (conOf []) (bodyOf Try.f24) [1, 1, 0, 1, 0] (retPost Try.prog Try.f24 1 (rspeed_res s l t))) (rspeed_L1_S1 s l t)) := by
  have q0 := p0
  have q1 := p1
  have q2 := p2
  simp only [decide_eq_true_eq] at p1 p2
  obtain ⟨v1, v2, v3⟩ := mV_iff.1 p0
  exact rspeed_L1_1 s l t q0 q1 q2 ⟨⟨⟨by omega, by omega, v2, by omega, by omega, by omega⟩, by simp, 0, by simpa using v3⟩, by simp⟩
set_option maxHeartbeats 2000000 in
theorem rspeed_ok : SoundEnt Try.prog rspeed_e := by
  refine ent_of_ex (Γ := (conOf [])) (conOf_sound snil) (by kernel_rfl) Try.func24 (by kernel_rfl) (by kernel_rfl) (fun args rows caps res h ho => ?_)
  change rspeed_go args rows caps = some res at h
  unfold rspeed_go at h
  split at h
  · simp only [Option.some.injEq] at h
    subst h
    rename_i q0_ q2_ q1_
    obtain ⟨p0, p1, p2, _⟩ := ho
    exact EX.of (rspeed_tree q0_ q1_ q2_) (rspeed_holds q0_ q1_ q2_ p0 p1 p2)
  · cases h
end Go.Proofs.Ytajaaohjdeegeaa

