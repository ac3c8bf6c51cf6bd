/- Motions: the reference. -/
import Derived.Test.YthfliohfkhnpiaaJ1
namespace Go.Proofs.Ythfliohfkhnpiaa
set_option linter.unusedVariables false
set_option linter.unusedSimpArgs false
open Go.RowKit


def spd : Int → List (List Int) → Int
  | _, [] => 0
  | t, r :: l => if t < r0 r then r1 r else spd (t - r0 r) l
def spdOf (s : Int) (l : List (List Int)) (t : Int) : Int := if mErr s l t = 0 then spd t l else 0
def endL : List (List Int) → Int
  | [] => 0
  | r :: l => r0 r + endL l
def endOf (s : Int) (l : List (List Int)) : Int := if mValid s l then endL l else 0
theorem r0e (r : List Int) : List.getD r 0 (0 : Int) = r0 r := by simp [r0]
theorem r1e (r : List Int) : List.getD r (0 + 1) (0 : Int) = r1 r := by simp [r1]
theorem mV_iff {s : Int} {l : List (List Int)} : mValid s l = true ↔ (0 ≤ s ∧ s < 46080) ∧ (l.length : Int) ≤ 2000 ∧ vL 0 l = true := by
  simp only [mValid, Bool.and_eq_true, decide_eq_true_eq, and_assoc]
theorem mErr_zero {s : Int} {l : List (List Int)} {t : Int} : mErr s l t = 0 ↔ mValid s l = true ∧ 0 ≤ t ∧ t ≤ 1099511627776 := by
  unfold mErr
  by_cases h : mValid s l = true
  · rw [if_pos h]
    by_cases h2 : 0 ≤ t ∧ t ≤ 1099511627776
    · rw [if_pos h2]; simp [h, h2]
    · rw [if_neg h2]; simp [h2]
  · rw [if_neg h]; simp [h]
theorem endL_bd : ∀ (l : List (List Int)) (e : Int), e ≤ 1099511627776 → vL e l = true → 0 ≤ endL l ∧ e + endL l ≤ 1099511627776
  | [], _, he, _ => by simp only [endL]; omega
  | r :: l, e, _, hv => by
    obtain ⟨⟨a1, a2, a3, a4⟩, a5, a6⟩ := vL_cons hv
    have := endL_bd l (e + r0 r) a5 a6
    simp only [endL]
    omega
def rvalid_res (s : Int) (l : List (List Int)) : CRes := ⟨[], .one (.cel (.bool (mValid s l))), []⟩
def rvalid_go : List TV → List RowA → List (List CV) → Option CRes := fun args rows caps =>
  match args, rows, caps with
  | [.agg [.int .i64 s, .row 0]], [.recs [.int .i64, .int .i64] l], [] => some (rvalid_res s l)
  | _, _, _ => none
def rvalid_e : Ent := ⟨71, [.recs [.int .i64, .int .i64] []], rvalid_go⟩
def rvalid_L1_F (s : Int) (l : List (List Int)) (i : Int) (en : Int) : St := ⟨70, [], [(4, (.one (.cel (.int .i64 i)))), (3, (.one (.cel (.int .i64 en)))), (2, (.one (.cel (.bool Bool.false)))), (1, (.one (.cel (.ptr 0 0))))], [[(.int .i64 s), (.row 0)]], [⟨(.recs [.int .i64, .int .i64] l), none⟩], 0⟩
def rvalid_L1_I (s : Int) (l : List (List Int)) (i : Int) (en : Int) : Prop := (0 ≤ i ∧ i ≤ l.length ∧ (l.length : Int) ≤ 2000 ∧ 0 ≤ s ∧ s < 46080 ∧ 0 ≤ en ∧ en ≤ 1099511627776 ∧ vL en (l.drop i.toNat) = vL 0 l)
def rvalid_L1_m (s : Int) (l : List (List Int)) (i : Int) (en : Int) : Nat := (l.length - i).toNat
def rvalid_L1_N (s : Int) (l : List (List Int)) (i' : Int) (en' : Int) (st_ : St) : Prop := getI st_ 4 fun i => getI st_ 3 fun en => rvalid_L1_I s l i en ∧ rvalid_L1_m s l i en < rvalid_L1_m s l i' en' ∧ SubA st_ (rvalid_L1_F s l i en)
def rvalid_L1_E (s : Int) (l : List (List Int)) (st_ : St) : Prop := getI st_ 4 fun i => getI st_ 3 fun en => rvalid_L1_I s l i en ∧ SubA st_ (rvalid_L1_F s l i en)
def rvalid_L1_S1 (s : Int) (l : List (List Int)) : St := ⟨70, [13, 8], [(4, (.one (.cel (.int .i64 (0 : Int))))), (3, (.one (.cel (.int .i64 (0 : Int))))), (18, (.one (.cel (.bool (((decide (s < (0 : Int))) || (decide ((46080 : Int) ≤ s))) || (decide ((2000 : Int) < (((List.length l) : Nat) : Int)))))))), (17, (.spec 13 Bool.false (.cel (.bool (decide ((2000 : Int) < (((List.length l) : Nat) : Int))))))), (16, (.spec 13 Bool.false (.cel (.int .i64 (((List.length l) : Nat) : Int))))), (15, (.spec 13 Bool.false (.cel (.row 0)))), (14, (.spec 13 Bool.false (.cel (.ptr 0 1)))), (13, (.one (.cel (.bool ((decide (s < (0 : Int))) || (decide ((46080 : Int) ≤ s))))))), (12, (.one (.cel (.bool ((decide (s < (0 : Int))) || (decide ((46080 : Int) ≤ s))))))), (11, (.spec 8 Bool.false (.cel (.bool (decide ((46080 : Int) ≤ s)))))), (10, (.spec 8 Bool.false (.cel (.int .i64 s)))), (9, (.spec 8 Bool.false (.cel (.ptr 0 0)))), (8, (.one (.cel (.bool (decide (s < (0 : Int))))))), (7, (.one (.cel (.bool (decide (s < (0 : Int))))))), (6, (.one (.cel (.int .i64 s)))), (5, (.one (.cel (.ptr 0 0)))), (2, (.one (.cel (.bool Bool.false)))), (1, (.one (.cel (.ptr 0 0)))), (0, (.one (.agg [(.int .i64 s), (.row 0)])))], [[(.int .i64 s), (.row 0)]], [⟨(.recs [.int .i64, .int .i64] l), none⟩], 0⟩
def rvalid_L1_T (s : Int) (l : List (List Int)) (i : Int) (en : Int) : Prop := (cnd (decide (i < (((List.length l) : Nat) : Int)))
  (cnd (decide ((0 : Int) ≤ i))
    (cnd (decide (i < (((List.length l) : Nat) : Int)))
      (cnd ((!((decide ((List.getD (List.getD l (Int.toNat i) ([] : List Int)) 0 (0 : Int)) < (1 : Int))) == Bool.false)) || (decide ((0 : Int) ≤ i)))
        (cnd ((!((decide ((List.getD (List.getD l (Int.toNat i) ([] : List Int)) 0 (0 : Int)) < (1 : Int))) == Bool.false)) || (decide (i < (((List.length l) : Nat) : Int))))
          (cnd ((!(((decide ((List.getD (List.getD l (Int.toNat i) ([] : List Int)) 0 (0 : Int)) < (1 : Int))) || (decide ((1099511627776 : Int) < (List.getD (List.getD l (Int.toNat i) ([] : List Int)) 0 (0 : Int))))) == Bool.false)) || (decide ((0 : Int) ≤ i)))
            (cnd ((!(((decide ((List.getD (List.getD l (Int.toNat i) ([] : List Int)) 0 (0 : Int)) < (1 : Int))) || (decide ((1099511627776 : Int) < (List.getD (List.getD l (Int.toNat i) ([] : List Int)) 0 (0 : Int))))) == Bool.false)) || (decide (i < (((List.length l) : Nat) : Int))))
              (cnd ((!((((decide ((List.getD (List.getD l (Int.toNat i) ([] : List Int)) 0 (0 : Int)) < (1 : Int))) || (decide ((1099511627776 : Int) < (List.getD (List.getD l (Int.toNat i) ([] : List Int)) 0 (0 : Int))))) || (decide ((List.getD (List.getD l (Int.toNat i) ([] : List Int)) (0 + 1) (0 : Int)) < (0 : Int)))) == Bool.false)) || (decide ((0 : Int) ≤ i)))
                (cnd ((!((((decide ((List.getD (List.getD l (Int.toNat i) ([] : List Int)) 0 (0 : Int)) < (1 : Int))) || (decide ((1099511627776 : Int) < (List.getD (List.getD l (Int.toNat i) ([] : List Int)) 0 (0 : Int))))) || (decide ((List.getD (List.getD l (Int.toNat i) ([] : List Int)) (0 + 1) (0 : Int)) < (0 : Int)))) == Bool.false)) || (decide (i < (((List.length l) : Nat) : Int))))
                  (cnd ((((decide ((List.getD (List.getD l (Int.toNat i) ([] : List Int)) 0 (0 : Int)) < (1 : Int))) || (decide ((1099511627776 : Int) < (List.getD (List.getD l (Int.toNat i) ([] : List Int)) 0 (0 : Int))))) || (decide ((List.getD (List.getD l (Int.toNat i) ([] : List Int)) (0 + 1) (0 : Int)) < (0 : Int)))) || (decide ((524288 : Int) < (List.getD (List.getD l (Int.toNat i) ([] : List Int)) (0 + 1) (0 : Int)))))
                    (Bool.false = (mValid s l))
                    (cnd (decide ((0 : Int) ≤ i))
                      (cnd (decide (i < (((List.length l) : Nat) : Int)))
                        (cnd (decide ((1099511627776 : Int) < (Go.IntKind.wrap Go.IntKind.i64 (en + (List.getD (List.getD l (Int.toNat i) ([] : List Int)) 0 (0 : Int))))))
                          (Bool.false = (mValid s l))
                          ((rvalid_L1_I s l (Go.IntKind.wrap Go.IntKind.i64 (i + (1 : Int))) (Go.IntKind.wrap Go.IntKind.i64 (en + (List.getD (List.getD l (Int.toNat i) ([] : List Int)) 0 (0 : Int))))) ∧ (((rvalid_L1_m s l (Go.IntKind.wrap Go.IntKind.i64 (i + (1 : Int))) (Go.IntKind.wrap Go.IntKind.i64 (en + (List.getD (List.getD l (Int.toNat i) ([] : List Int)) 0 (0 : Int))))) < (rvalid_L1_m s l i en)) ∧ (((Go.IntKind.wrap Go.IntKind.i64 (i + (1 : Int))) = (Go.IntKind.wrap Go.IntKind.i64 (i + (1 : Int)))) ∧ (((Go.IntKind.wrap Go.IntKind.i64 (en + (List.getD (List.getD l (Int.toNat i) ([] : List Int)) 0 (0 : Int)))) = (Go.IntKind.wrap Go.IntKind.i64 (en + (List.getD (List.getD l (Int.toNat i) ([] : List Int)) 0 (0 : Int))))) ∧ ((Bool.false = Bool.false) ∧ (True ∧ (((s = s) ∧ True) ∧ ((l = l) ∧ True)))))))))
                        False)
                      False))
                  False)
                False)
              False)
            False)
          False)
        False)
      False)
    False)
  (Bool.true = (mValid s l)))
set_option maxRecDepth 100000 in
theorem rvalid_L1_tree (s : Int) (l : List (List Int)) (i : Int) (en : Int) : rvalid_L1_T s l i en = ex Try.prog (conOf []) (subC (bodyOf Try.f71) [1, 1, 1, 0, 1, 0, 0]) (nextE (rvalid_L1_N s l i en) (kont Try.prog (conOf []) (bodyOf Try.f71) [1, 1, 1, 0, 1, 0] (retPost Try.prog Try.f71 1 (rvalid_res s l)))) (rvalid_L1_F s l i en) := by kernel_rfl
set_option maxRecDepth 100000 in
theorem rvalid_L1_round (s : Int) (l : List (List Int)) (i : Int) (en : Int)  (hI_L1 : rvalid_L1_I s l i en) : rvalid_L1_T s l i en := by
  obtain ⟨i0, i1, i2, s0, s1, e0, e1, hv⟩ := hI_L1
  unfold rvalid_L1_T
  have hmv : mValid s l = vL 0 l := by simp [mValid, s0, s1, i2]
  rw [hmv]
  by_cases hi : i < l.length
  · have hd := drop_consR (l := l) (i := i) i0 hi
    rw [hd] at hv
    simp only [hi, i0, decide_true, cnd, Bool.or_true]
    generalize l.getD i.toNat [] = r at *
    rw [r0e, r1e, ← hv]
    simp only [vL]
    by_cases hr : vRun r = true
    · have hr2 := hr
      simp only [vRun, Bool.and_eq_true, decide_eq_true_eq] at hr2
      have j : ((((decide (r0 r < 1)) || (decide (1099511627776 < r0 r))) || (decide (r1 r < 0))) || (decide (524288 < r1 r))) = false := by simp; omega
      rw [j, w64 (n := en + r0 r) (by omega) (by omega), w64 (n := i + 1) (by omega) (by omega)]
      simp only [hr, Bool.true_and, cnd]
      by_cases hm : en + r0 r ≤ 1099511627776
      · have j2 : decide (1099511627776 < en + r0 r) = false := by simp; omega
        rw [j2]
        refine ⟨⟨by omega, by omega, i2, s0, s1, by omega, hm, ?_⟩, ?_, by simp⟩
        · have e : (i + 1).toNat = i.toNat + 1 := by omega
          rw [e, ← hv]
          simp [vL, hr, hm]
        · unfold rvalid_L1_m
          omega
      · have j2 : decide (1099511627776 < en + r0 r) = true := by simp; omega
        simp [j2, hm]
    · have hr1 : vRun r = false := by simpa using hr
      have j : ((((decide (r0 r < 1)) || (decide (1099511627776 < r0 r))) || (decide (r1 r < 0))) || (decide (524288 < r1 r))) = true := by
        simp only [vRun, Bool.and_eq_true, decide_eq_true_eq] at hr
        simp; omega
      rw [j, hr1]
      simp [cnd]
  · simp only [hi, decide_false, cnd]
    have e : l.drop i.toNat = [] := List.drop_eq_nil_of_le (by omega)
    rw [e] at hv
    simp [← hv, vL]
set_option maxRecDepth 100000 in
theorem rvalid_L1_entry1 (s : Int) (l : List (List Int)) : (((rvalid_L1_I s l (0 : Int) (0 : Int)) ∧ (((0 : Int) = (0 : Int)) ∧ (((0 : Int) = (0 : Int)) ∧ ((Bool.false = Bool.false) ∧ (True ∧ (((s = s) ∧ True) ∧ ((l = l) ∧ True)))))))) = rvalid_L1_E s l (rvalid_L1_S1 s l) := by kernel_rfl
theorem rvalid_L1_1 (s : Int) (l : List (List Int))  (h : ((rvalid_L1_I s l (0 : Int) (0 : Int)) ∧ (((0 : Int) = (0 : Int)) ∧ (((0 : Int) = (0 : Int)) ∧ ((Bool.false = Bool.false) ∧ (True ∧ (((s = s) ∧ True) ∧ ((l = l) ∧ True)))))))) : LoopP (ex Try.prog (conOf []) (subC (bodyOf Try.f71) [1, 1, 1, 0, 1, 0, 0])) (kont Try.prog (conOf []) (bodyOf Try.f71) [1, 1, 1, 0, 1, 0] (retPost Try.prog Try.f71 1 (rvalid_res s l))) (rvalid_L1_S1 s l) := by
  have hE : rvalid_L1_E s l (rvalid_L1_S1 s l) := Eq.mp (rvalid_L1_entry1 s l) h
  unfold rvalid_L1_E at hE
  obtain ⟨i, hE⟩ := getI_of hE
  obtain ⟨en, hE⟩ := getI_of hE
  refine loop_of (α := (Int) × (Int)) (fun xx_ => rvalid_L1_F s l xx_.1 xx_.2) (fun xx_ => rvalid_L1_I s l xx_.1 xx_.2) (fun xx_ => rvalid_L1_m s l xx_.1 xx_.2) (fun xx_ => rvalid_L1_N s l xx_.1 xx_.2) (fun xx_ => rvalid_L1_T s l xx_.1 xx_.2) (fun xx_ s_ h => ?_) ⟨⟨i, en⟩, hE⟩ (fun xx_ => rvalid_L1_tree s l xx_.1 xx_.2) (fun xx_ hI => rvalid_L1_round s l xx_.1 xx_.2  hI)
  unfold rvalid_L1_N at h
  obtain ⟨i, h⟩ := getI_of h
  obtain ⟨en, h⟩ := getI_of h
  exact ⟨⟨i, en⟩, h⟩
set_option maxRecDepth 100000 in
theorem rvalid_tree (s : Int) (l : List (List Int)) : ((cnd (((decide (s < (0 : Int))) || (decide ((46080 : Int) ≤ s))) || (decide ((2000 : Int) < (((List.length l) : Nat) : Int))))
  (Bool.false = (mValid s l))
  (LoopP (ex Try.prog (conOf []) (subC (bodyOf Try.f71) [1, 1, 1, 0, 1, 0, 0])) (kont Try.prog (conOf []) (bodyOf Try.f71) [1, 1, 1, 0, 1, 0] (retPost Try.prog Try.f71 1 (rvalid_res s l))) (rvalid_L1_S1 s l)))) = EXD Try.prog (conOf []) Try.f71 [.agg [.int .i64 s, .row 0]] [.recs [.int .i64, .int .i64] l] [] (rvalid_res s l) := by kernel_rfl
theorem rvalid_holds (s : Int) (l : List (List Int))  : (cnd (((decide (s < (0 : Int))) || (decide ((46080 : Int) ≤ s))) || (decide ((2000 : Int) < (((List.length l) : Nat) : Int))))
  (Bool.false = (mValid s l))
  (LoopP (ex Try.prog (conOf []) (subC (bodyOf Try.f71) [1, 1, 1, 0, 1, 0, 0])) (kont Try.prog (conOf []) (bodyOf Try.f71) [1, 1, 1, 0, 1, 0] (retPost Try.prog Try.f71 1 (rvalid_res s l))) (rvalid_L1_S1 s l))) := by
  by_cases h : 0 ≤ s ∧ s < 46080 ∧ (l.length : Int) ≤ 2000
  · have j : ((decide (s < 0) || decide (46080 ≤ s)) || decide ((2000 : Int) < (l.length : Int))) = false := by simp; omega
    rw [j]
    simp only [cnd]
    exact rvalid_L1_1 s l ⟨⟨by omega, by omega, h.2.2, h.1, h.2.1, by omega, by omega, rfl⟩, by simp⟩
  · have j : ((decide (s < 0) || decide (46080 ≤ s)) || decide ((2000 : Int) < (l.length : Int))) = true := by simp; omega
    rw [j]
    simp only [cnd]
    symm
    simp [mValid]
    omega
set_option maxHeartbeats 2000000 in
theorem rvalid_ok : SoundEnt Try.prog rvalid_e := by
  refine ent_of_ex (Γ := (conOf [])) (conOf_sound snil) (by kernel_rfl) Try.func71 (by kernel_rfl) (by kernel_rfl) (fun args rows caps res h ho => ?_)
  change rvalid_go args rows caps = some res at h
  unfold rvalid_go at h
  split at h
  · simp only [Option.some.injEq] at h
    subst h
    rename_i q0_ q1_
    skip
    exact EX.of (rvalid_tree q0_ q1_) (rvalid_holds q0_ q1_)
  · cases h
def rend_res (s : Int) (l : List (List Int)) : CRes := ⟨[mValid s l], .one (.cel (.int .i64 (endL l))), []⟩
def rend_go : List TV → List RowA → List (List CV) → Option CRes := fun args rows caps =>
  match args, rows, caps with
  | [.agg [.int .i64 s, .row 0]], [.recs [.int .i64, .int .i64] l], [] => some (rend_res s l)
  | _, _, _ => none
def rend_e : Ent := ⟨115, [.recs [.int .i64, .int .i64] []], rend_go⟩
def rend_L1_F (s : Int) (l : List (List Int)) (i : Int) (en : Int) : St := ⟨21, [], [(4, (.one (.cel (.int .i64 i)))), (3, (.one (.cel (.int .i64 en)))), (2, (.one (.cel (.int .i64 (0 : Int))))), (1, (.one (.cel (.ptr 0 0))))], [[(.int .i64 s), (.row 0)]], [⟨(.recs [.int .i64, .int .i64] l), none⟩], 0⟩
def rend_L1_I (s : Int) (l : List (List Int)) (i : Int) (en : Int) : Prop := (0 ≤ i ∧ i ≤ l.length ∧ (l.length : Int) ≤ 2000 ∧ 0 ≤ en ∧ en ≤ 1099511627776) ∧ (en + endL (l.drop i.toNat) = endL l ∧ vL en (l.drop i.toNat) = true)
def rend_L1_m (s : Int) (l : List (List Int)) (i : Int) (en : Int) : Nat := (l.length - i).toNat
def rend_L1_N (s : Int) (l : List (List Int)) (i' : Int) (en' : Int) (st_ : St) : Prop := getI st_ 4 fun i => getI st_ 3 fun en => rend_L1_I s l i en ∧ rend_L1_m s l i en < rend_L1_m s l i' en' ∧ SubA st_ (rend_L1_F s l i en)
def rend_L1_E (s : Int) (l : List (List Int)) (st_ : St) : Prop := getI st_ 4 fun i => getI st_ 3 fun en => rend_L1_I s l i en ∧ SubA st_ (rend_L1_F s l i en)
def rend_L1_S1 (s : Int) (l : List (List Int)) : St := ⟨21, [], [(4, (.one (.cel (.int .i64 (0 : Int))))), (3, (.one (.cel (.int .i64 (0 : Int))))), (2, (.one (.cel (.int .i64 (0 : Int))))), (1, (.one (.cel (.ptr 0 0)))), (0, (.one (.agg [(.int .i64 s), (.row 0)])))], [[(.int .i64 s), (.row 0)]], [⟨(.recs [.int .i64, .int .i64] l), none⟩], 0⟩
def rend_L1_T (s : Int) (l : List (List Int)) (i : Int) (en : Int) : Prop := (cnd (decide (i < (((List.length l) : Nat) : Int)))
  (cnd (decide ((0 : Int) ≤ i))
    (cnd (decide (i < (((List.length l) : Nat) : Int)))
      ((rend_L1_I s l (Go.IntKind.wrap Go.IntKind.i64 (i + (1 : Int))) (Go.IntKind.wrap Go.IntKind.i64 (en + (List.getD (List.getD l (Int.toNat i) ([] : List Int)) 0 (0 : Int))))) ∧ (((rend_L1_m s l (Go.IntKind.wrap Go.IntKind.i64 (i + (1 : Int))) (Go.IntKind.wrap Go.IntKind.i64 (en + (List.getD (List.getD l (Int.toNat i) ([] : List Int)) 0 (0 : Int))))) < (rend_L1_m s l i en)) ∧ (((Go.IntKind.wrap Go.IntKind.i64 (i + (1 : Int))) = (Go.IntKind.wrap Go.IntKind.i64 (i + (1 : Int)))) ∧ (((Go.IntKind.wrap Go.IntKind.i64 (en + (List.getD (List.getD l (Int.toNat i) ([] : List Int)) 0 (0 : Int)))) = (Go.IntKind.wrap Go.IntKind.i64 (en + (List.getD (List.getD l (Int.toNat i) ([] : List Int)) 0 (0 : Int))))) ∧ (((0 : Int) = (0 : Int)) ∧ (True ∧ (((s = s) ∧ True) ∧ ((l = l) ∧ True))))))))
      False)
    False)
  (en = (endL l)))
set_option maxRecDepth 100000 in
theorem rend_L1_tree (s : Int) (l : List (List Int)) (i : Int) (en : Int) : rend_L1_T s l i en = ex Try.prog (conOf []) (subC (bodyOf Try.f115) [1, 1, 0, 1, 0, 0]) (nextE (rend_L1_N s l i en) (kont Try.prog (conOf []) (bodyOf Try.f115) [1, 1, 0, 1, 0] (retPost Try.prog Try.f115 1 (rend_res s l)))) (rend_L1_F s l i en) := by kernel_rfl
set_option maxRecDepth 100000 in
theorem rend_L1_round (s : Int) (l : List (List Int)) (i : Int) (en : Int) (p0 : mValid s l = true) (hI_L1 : rend_L1_I s l i en) : rend_L1_T s l i en := by
  obtain ⟨⟨i0, i1, i2, u0, u1⟩, hw, hv⟩ := hI_L1
  unfold rend_L1_T
  by_cases hi : i < l.length
  · have hd := drop_consR (l := l) (i := i) i0 hi
    rw [hd] at hv hw
    simp only [hi, i0, decide_true, cnd]
    generalize l.getD i.toNat [] = r at *
    rw [r0e]
    obtain ⟨⟨a1, a2, a3, a4⟩, a5, a6⟩ := vL_cons hv
    simp only [endL] at hw
    rw [w64 (n := i + 1) (by omega) (by omega), w64 (n := en + r0 r) (by omega) (by omega)]
    have e1 : (i + 1).toNat = i.toNat + 1 := by omega
    refine ⟨⟨⟨by omega, by omega, i2, by omega, by omega⟩, ?_, ?_⟩, ?_, by simp⟩
    · rw [e1]; omega
    · rw [e1]; exact a6
    · unfold rend_L1_m
      omega
  · simp only [hi, decide_false, cnd]
    have e : l.drop i.toNat = [] := List.drop_eq_nil_of_le (by omega)
    rw [e] at hw
    simp only [endL] at hw
    omega
set_option maxRecDepth 100000 in
theorem rend_L1_entry1 (s : Int) (l : List (List Int)) : (((rend_L1_I s l (0 : Int) (0 : Int)) ∧ (((0 : Int) = (0 : Int)) ∧ (((0 : Int) = (0 : Int)) ∧ (((0 : Int) = (0 : Int)) ∧ (True ∧ (((s = s) ∧ True) ∧ ((l = l) ∧ True)))))))) = rend_L1_E s l (rend_L1_S1 s l) := by kernel_rfl
theorem rend_L1_1 (s : Int) (l : List (List Int)) (p0 : mValid s l = true) (h : ((rend_L1_I s l (0 : Int) (0 : Int)) ∧ (((0 : Int) = (0 : Int)) ∧ (((0 : Int) = (0 : Int)) ∧ (((0 : Int) = (0 : Int)) ∧ (True ∧ (((s = s) ∧ True) ∧ ((l = l) ∧ True)))))))) : LoopP (ex Try.prog (conOf []) (subC (bodyOf Try.f115) [1, 1, 0, 1, 0, 0])) (kont Try.prog (conOf []) (bodyOf Try.f115) [1, 1, 0, 1, 0] (retPost Try.prog Try.f115 1 (rend_res s l))) (rend_L1_S1 s l) := by
  have hE : rend_L1_E s l (rend_L1_S1 s l) := Eq.mp (rend_L1_entry1 s l) h
  unfold rend_L1_E at hE
  obtain ⟨i, hE⟩ := getI_of hE
  obtain ⟨en, hE⟩ := getI_of hE
  refine loop_of (α := (Int) × (Int)) (fun xx_ => rend_L1_F s l xx_.1 xx_.2) (fun xx_ => rend_L1_I s l xx_.1 xx_.2) (fun xx_ => rend_L1_m s l xx_.1 xx_.2) (fun xx_ => rend_L1_N s l xx_.1 xx_.2) (fun xx_ => rend_L1_T s l xx_.1 xx_.2) (fun xx_ s_ h => ?_) ⟨⟨i, en⟩, hE⟩ (fun xx_ => rend_L1_tree s l xx_.1 xx_.2) (fun xx_ hI => rend_L1_round s l xx_.1 xx_.2 p0 hI)
  unfold rend_L1_N at h
  obtain ⟨i, h⟩ := getI_of h
  obtain ⟨en, h⟩ := getI_of h
  exact ⟨⟨i, en⟩, h⟩
set_option maxRecDepth 100000 in
theorem rend_tree (s : Int) (l : List (List Int)) : ((LoopP (ex Try.prog (conOf []) (subC (bodyOf Try.f115) [1, 1, 0, 1, 0, 0])) (kont Try.prog (conOf []) (bodyOf Try.f115) [1, 1, 0, 1, 0] (retPost Try.prog Try.f115 1 (rend_res s l))) (rend_L1_S1 s l))) = EXD Try.prog (conOf []) Try.f115 [.agg [.int .i64 s, .row 0]] [.recs [.int .i64, .int .i64] l] [] (rend_res s l) := by kernel_rfl
theorem rend_holds (s : Int) (l : List (List Int)) (p0 : mValid s l = true) : (LoopP (ex Try.prog (conOf []) (subC (bodyOf Try.f115) [1, 1, 0, 1, 0, 0])) (kont Try.prog (conOf []) (bodyOf Try.f115) [1, 1, 0, 1, 0] (retPost Try.prog Try.f115 1 (rend_res s l))) (rend_L1_S1 s l)) := by
  obtain ⟨v1, v2, v3⟩ := mV_iff.1 p0
  exact rend_L1_1 s l p0 ⟨⟨⟨by omega, by omega, v2, by omega, by omega⟩, by simp, by simpa using v3⟩, by simp⟩
set_option maxHeartbeats 2000000 in
theorem rend_ok : SoundEnt Try.prog rend_e := by
  refine ent_of_ex (Γ := (conOf [])) (conOf_sound snil) (by kernel_rfl) Try.func115 (by kernel_rfl) (by kernel_rfl) (fun args rows caps res h ho => ?_)
  change rend_go args rows caps = some res at h
  unfold rend_go at h
  split at h
  · simp only [Option.some.injEq] at h
    subst h
    rename_i q0_ q1_
    obtain ⟨p0, _⟩ := ho
    exact EX.of (rend_tree q0_ q1_) (rend_holds q0_ q1_ p0)
  · cases h
def rway_res (s : Int) (l : List (List Int)) (t : Int) : CRes := ⟨[mValid s l, decide (0 ≤ t), decide (t ≤ 1099511627776)], .one (.cel (.int .i64 (way t l))), []⟩
def rway_go : List TV → List RowA → List (List CV) → Option CRes := fun args rows caps =>
  match args, rows, caps with
  | [.agg [.int .i64 s, .row 0], .cel (.int .i64 t)], [.recs [.int .i64, .int .i64] l], [] => some (rway_res s l t)
  | _, _, _ => none
def rway_e : Ent := ⟨132, [.recs [.int .i64, .int .i64] []], rway_go⟩
def rway_L1_F (s : Int) (l : List (List Int)) (t : Int) (i : Int) (w : Int) (u : Int) : St := ⟨39, [], [(7, (.one (.cel (.int .i64 i)))), (6, (.one (.cel (.int .i64 u)))), (5, (.one (.cel (.int .i64 w)))), (4, (.one (.cel (.int .i64 (0 : Int))))), (2, (.one (.cel (.ptr 0 0))))], [[(.int .i64 s), (.row 0)]], [⟨(.recs [.int .i64, .int .i64] l), none⟩], 0⟩
def rway_L1_I (s : Int) (l : List (List Int)) (t : Int) (i : Int) (w : Int) (u : Int) : Prop := (0 ≤ i ∧ i ≤ l.length ∧ (l.length : Int) ≤ 2000 ∧ 0 ≤ u ∧ u ≤ t ∧ t ≤ 1099511627776 ∧ 0 ≤ w ∧ w ≤ (t - u) * 524288) ∧ (w + way u (l.drop i.toNat) = way t l ∧ ∃ e, vL e (l.drop i.toNat) = true)
def rway_L1_m (s : Int) (l : List (List Int)) (t : Int) (i : Int) (w : Int) (u : Int) : Nat := (l.length - i).toNat
def rway_L1_N (s : Int) (l : List (List Int)) (t : Int) (i' : Int) (w' : Int) (u' : Int) (st_ : St) : Prop := getI st_ 7 fun i => getI st_ 5 fun w => getI st_ 6 fun u => rway_L1_I s l t i w u ∧ rway_L1_m s l t i w u < rway_L1_m s l t i' w' u' ∧ SubA st_ (rway_L1_F s l t i w u)
def rway_L1_E (s : Int) (l : List (List Int)) (t : Int) (st_ : St) : Prop := getI st_ 7 fun i => getI st_ 5 fun w => getI st_ 6 fun u => rway_L1_I s l t i w u ∧ SubA st_ (rway_L1_F s l t i w u)
def rway_L1_S1 (s : Int) (l : List (List Int)) (t : Int) : St := ⟨39, [], [(7, (.one (.cel (.int .i64 (0 : Int))))), (6, (.one (.cel (.int .i64 t)))), (9, (.one (.cel (.int .i64 t)))), (5, (.one (.cel (.int .i64 (0 : Int))))), (4, (.one (.cel (.int .i64 (0 : Int))))), (2, (.one (.cel (.ptr 0 0)))), (0, (.one (.agg [(.int .i64 s), (.row 0)]))), (1, (.one (.cel (.int .i64 t))))], [[(.int .i64 s), (.row 0)]], [⟨(.recs [.int .i64, .int .i64] l), none⟩], 0⟩
def rway_L1_T (s : Int) (l : List (List Int)) (t : Int) (i : Int) (w : Int) (u : Int) : Prop := (cnd (decide (i < (((List.length l) : Nat) : Int)))
  (cnd (decide ((0 : Int) ≤ i))
    (cnd (decide (i < (((List.length l) : Nat) : Int)))
      (cnd (decide ((0 : Int) ≤ i))
        (cnd (decide (i < (((List.length l) : Nat) : Int)))
          ((rway_L1_I s l t (Go.IntKind.wrap Go.IntKind.i64 (i + (1 : Int))) (Go.IntKind.wrap Go.IntKind.i64 (w + (Go.IntKind.wrap Go.IntKind.i64 ((gmin u (List.getD (List.getD l (Int.toNat i) ([] : List Int)) 0 (0 : Int))) * (List.getD (List.getD l (Int.toNat i) ([] : List Int)) (0 + 1) (0 : Int)))))) (Go.IntKind.wrap Go.IntKind.i64 (u - (gmin u (List.getD (List.getD l (Int.toNat i) ([] : List Int)) 0 (0 : Int)))))) ∧ (((rway_L1_m s l t (Go.IntKind.wrap Go.IntKind.i64 (i + (1 : Int))) (Go.IntKind.wrap Go.IntKind.i64 (w + (Go.IntKind.wrap Go.IntKind.i64 ((gmin u (List.getD (List.getD l (Int.toNat i) ([] : List Int)) 0 (0 : Int))) * (List.getD (List.getD l (Int.toNat i) ([] : List Int)) (0 + 1) (0 : Int)))))) (Go.IntKind.wrap Go.IntKind.i64 (u - (gmin u (List.getD (List.getD l (Int.toNat i) ([] : List Int)) 0 (0 : Int)))))) < (rway_L1_m s l t i w u)) ∧ (((Go.IntKind.wrap Go.IntKind.i64 (i + (1 : Int))) = (Go.IntKind.wrap Go.IntKind.i64 (i + (1 : Int)))) ∧ (((Go.IntKind.wrap Go.IntKind.i64 (u - (gmin u (List.getD (List.getD l (Int.toNat i) ([] : List Int)) 0 (0 : Int))))) = (Go.IntKind.wrap Go.IntKind.i64 (u - (gmin u (List.getD (List.getD l (Int.toNat i) ([] : List Int)) 0 (0 : Int)))))) ∧ (((Go.IntKind.wrap Go.IntKind.i64 (w + (Go.IntKind.wrap Go.IntKind.i64 ((gmin u (List.getD (List.getD l (Int.toNat i) ([] : List Int)) 0 (0 : Int))) * (List.getD (List.getD l (Int.toNat i) ([] : List Int)) (0 + 1) (0 : Int)))))) = (Go.IntKind.wrap Go.IntKind.i64 (w + (Go.IntKind.wrap Go.IntKind.i64 ((gmin u (List.getD (List.getD l (Int.toNat i) ([] : List Int)) 0 (0 : Int))) * (List.getD (List.getD l (Int.toNat i) ([] : List Int)) (0 + 1) (0 : Int))))))) ∧ (((0 : Int) = (0 : Int)) ∧ (True ∧ (((s = s) ∧ True) ∧ ((l = l) ∧ True)))))))))
          False)
        False)
      False)
    False)
  (w = (way t l)))
set_option maxRecDepth 100000 in
theorem rway_L1_tree (s : Int) (l : List (List Int)) (t : Int) (i : Int) (w : Int) (u : Int) : rway_L1_T s l t i w u = ex Try.prog (conOf []) (subC (bodyOf Try.f132) [1, 1, 1, 0, 1, 0, 0]) (nextE (rway_L1_N s l t i w u) (kont Try.prog (conOf []) (bodyOf Try.f132) [1, 1, 1, 0, 1, 0] (retPost Try.prog Try.f132 1 (rway_res s l t)))) (rway_L1_F s l t i w u) := by kernel_rfl
set_option maxRecDepth 100000 in
theorem rway_L1_round (s : Int) (l : List (List Int)) (t : Int) (i : Int) (w : Int) (u : Int) (p0 : mValid s l = true) (p1 : decide (0 ≤ t) = true) (p2 : decide (t ≤ 1099511627776) = true) (hI_L1 : rway_L1_I s l t i w u) : rway_L1_T s l t i w u := by
  obtain ⟨⟨i0, i1, i2, u0, u1, t1, w0, w1⟩, hw, e, hv⟩ := hI_L1
  unfold rway_L1_T
  by_cases hi : i < l.length
  · have hd := drop_consR (l := l) (i := i) i0 hi
    rw [hd] at hv hw
    simp only [hi, i0, decide_true, cnd]
    generalize l.getD i.toNat [] = r at *
    rw [r0e, r1e]
    obtain ⟨⟨a1, a2, a3, a4⟩, a5, a6⟩ := vL_cons hv
    have hg : gmin u (r0 r) = min u (r0 r) := by unfold gmin; omega
    simp only [way] at hw
    rw [hg]
    have hm : 0 ≤ min u (r0 r) * r1 r ∧ min u (r0 r) * r1 r ≤ min u (r0 r) * 524288 := ⟨Int.mul_nonneg (by omega) a3, Int.mul_le_mul_of_nonneg_left a4 (by omega)⟩
    generalize hn : min u (r0 r) = n at *
    have n0 : 0 ≤ n ∧ n ≤ u := by omega
    generalize hp : n * r1 r = p at *
    rw [w64 (n := p) (by omega) (by omega), w64 (n := w + p) (by omega) (by omega), w64 (n := i + 1) (by omega) (by omega), w64 (n := u - n) (by omega) (by omega)]
    have e1 : (i + 1).toNat = i.toNat + 1 := by omega
    refine ⟨⟨⟨by omega, by omega, i2, by omega, by omega, t1, by omega, by omega⟩, ?_, _, by rw [e1]; exact a6⟩, ?_, by simp⟩
    · rw [e1]; omega
    · unfold rway_L1_m
      omega
  · simp only [hi, decide_false, cnd]
    have e : l.drop i.toNat = [] := List.drop_eq_nil_of_le (by omega)
    rw [e] at hw
    simp only [way] at hw
    omega
set_option maxRecDepth 100000 in
theorem rway_L1_entry1 (s : Int) (l : List (List Int)) (t : Int) : (((rway_L1_I s l t (0 : Int) (0 : Int) t) ∧ (((0 : Int) = (0 : Int)) ∧ ((t = t) ∧ (((0 : Int) = (0 : Int)) ∧ (((0 : Int) = (0 : Int)) ∧ (True ∧ (((s = s) ∧ True) ∧ ((l = l) ∧ True))))))))) = rway_L1_E s l t (rway_L1_S1 s l t) := by kernel_rfl
theorem rway_L1_1 (s : Int) (l : List (List Int)) (t : Int) (p0 : mValid s l = true) (p1 : decide (0 ≤ t) = true) (p2 : decide (t ≤ 1099511627776) = true) (h : ((rway_L1_I s l t (0 : Int) (0 : Int) t) ∧ (((0 : Int) = (0 : Int)) ∧ ((t = t) ∧ (((0 : Int) = (0 : Int)) ∧ (((0 : Int) = (0 : Int)) ∧ (True ∧ (((s = s) ∧ True) ∧ ((l = l) ∧ True))))))))) : LoopP (ex Try.prog (conOf []) (subC (bodyOf Try.f132) [1, 1, 1, 0, 1, 0, 0])) (kont Try.prog (conOf []) (bodyOf Try.f132) [1, 1, 1, 0, 1, 0] (retPost Try.prog Try.f132 1 (rway_res s l t))) (rway_L1_S1 s l t) := by
  have hE : rway_L1_E s l t (rway_L1_S1 s l t) := Eq.mp (rway_L1_entry1 s l t) h
  unfold rway_L1_E at hE
  obtain ⟨i, hE⟩ := getI_of hE
  obtain ⟨w, hE⟩ := getI_of hE
  obtain ⟨u, hE⟩ := getI_of hE
  refine loop_of (α := (Int) × (Int) × (Int)) (fun xx_ => rway_L1_F s l t xx_.1 xx_.2.1 xx_.2.2) (fun xx_ => rway_L1_I s l t xx_.1 xx_.2.1 xx_.2.2) (fun xx_ => rway_L1_m s l t xx_.1 xx_.2.1 xx_.2.2) (fun xx_ => rway_L1_N s l t xx_.1 xx_.2.1 xx_.2.2) (fun xx_ => rway_L1_T s l t xx_.1 xx_.2.1 xx_.2.2) (fun xx_ s_ h => ?_) ⟨⟨i, w, u⟩, hE⟩ (fun xx_ => rway_L1_tree s l t xx_.1 xx_.2.1 xx_.2.2) (fun xx_ hI => rway_L1_round s l t xx_.1 xx_.2.1 xx_.2.2 p0 p1 p2 hI)
  unfold rway_L1_N at h
  obtain ⟨i, h⟩ := getI_of h
  obtain ⟨w, h⟩ := getI_of h
  obtain ⟨u, h⟩ := getI_of h
  exact ⟨⟨i, w, u⟩, h⟩
set_option maxRecDepth 100000 in
theorem rway_tree (s : Int) (l : List (List Int)) (t : Int) : ((LoopP (ex Try.prog (conOf []) (subC (bodyOf Try.f132) [1, 1, 1, 0, 1, 0, 0])) (kont Try.prog (conOf []) (bodyOf Try.f132) [1, 1, 1, 0, 1, 0] (retPost Try.prog Try.f132 1 (rway_res s l t))) (rway_L1_S1 s l t))) = EXD Try.prog (conOf []) Try.f132 [.agg [.int .i64 s, .row 0], .cel (.int .i64 t)] [.recs [.int .i64, .int .i64] l] [] (rway_res s l t) := by kernel_rfl
theorem rway_holds (s : Int) (l : List (List Int)) (t : Int) (p0 : mValid s l = true) (p1 : decide (0 ≤ t) = true) (p2 : decide (t ≤ 1099511627776) = true) : (LoopP (ex Try.prog (conOf []) (subC (bodyOf Try.f132) [1, 1, 1, 0, 1, 0, 0])) (kont Try.prog (conOf []) (bodyOf Try.f132) [1, 1, 1, 0, 1, 0] (retPost Try.prog Try.f132 1 (rway_res s l t))) (rway_L1_S1 s l t)) := by
  have q0 := p0
  have q1 := p1
  have q2 := p2
  simp only [decide_eq_true_eq] at p1 p2
  obtain ⟨v1, v2, v3⟩ := mV_iff.1 p0
  exact rway_L1_1 s l t q0 q1 q2 ⟨⟨⟨by omega, by omega, v2, by omega, by omega, by omega, by omega, by omega⟩, by simp, 0, by simpa using v3⟩, by simp⟩
set_option maxHeartbeats 2000000 in
theorem rway_ok : SoundEnt Try.prog rway_e := by
  refine ent_of_ex (Γ := (conOf [])) (conOf_sound snil) (by kernel_rfl) Try.func132 (by kernel_rfl) (by kernel_rfl) (fun args rows caps res h ho => ?_)
  change rway_go args rows caps = some res at h
  unfold rway_go at h
  split at h
  · simp only [Option.some.injEq] at h
    subst h
    rename_i q0_ q2_ q1_
    obtain ⟨p0, p1, p2, _⟩ := ho
    exact EX.of (rway_tree q0_ q1_ q2_) (rway_holds q0_ q1_ q2_ p0 p1 p2)
  · cases h
theorem way_bnd {s : Int} {l : List (List Int)} {t : Int} (hm : mValid s l = true) (h0 : 0 ≤ t) (h1 : t ≤ 1099511627776) : 0 ≤ way t l ∧ way t l ≤ 1099511627776 * 524288 := by
  obtain ⟨v1, v2, v3⟩ := mV_iff.1 hm
  have := way_bd l 0 t v3 h0
  omega
def rposition_res (s : Int) (l : List (List Int)) (t : Int) : CRes := ⟨[mValid s l, decide (0 ≤ t), decide (t ≤ 1099511627776)], .one (.cel (.int .i64 (s + way t l / 65536))), []⟩
def rposition_go : List TV → List RowA → List (List CV) → Option CRes := fun args rows caps =>
  match args, rows, caps with
  | [.agg [.int .i64 s, .row 0], .cel (.int .i64 t)], [.recs [.int .i64, .int .i64] l], [] => some (rposition_res s l t)
  | _, _, _ => none
def rposition_e : Ent := ⟨116, [.recs [.int .i64, .int .i64] []], rposition_go⟩
set_option maxRecDepth 100000 in
theorem rposition_tree (s : Int) (l : List (List Int)) (t : Int) : ((cnd (mValid s l)
  (cnd (decide ((0 : Int) ≤ t))
    (cnd (decide (t ≤ (1099511627776 : Int)))
      (cnd (inBig (way t l))
        ((Go.IntKind.wrap Go.IntKind.i64 (s + ((way t l) / (65536 : Int)))) = (s + ((way t l) / (65536 : Int))))
        False)
      False)
    False)
  False)) = EXD Try.prog (conOf [rway_e, rfloor_e]) Try.f116 [.agg [.int .i64 s, .row 0], .cel (.int .i64 t)] [.recs [.int .i64, .int .i64] l] [] (rposition_res s l t) := by kernel_rfl
theorem rposition_holds (s : Int) (l : List (List Int)) (t : Int) (p0 : mValid s l = true) (p1 : decide (0 ≤ t) = true) (p2 : decide (t ≤ 1099511627776) = true) : (cnd (mValid s l)
  (cnd (decide ((0 : Int) ≤ t))
    (cnd (decide (t ≤ (1099511627776 : Int)))
      (cnd (inBig (way t l))
        ((Go.IntKind.wrap Go.IntKind.i64 (s + ((way t l) / (65536 : Int)))) = (s + ((way t l) / (65536 : Int))))
        False)
      False)
    False)
  False) := by
  rw [p0, p1, p2]
  simp only [decide_eq_true_eq] at p1 p2
  obtain ⟨b1, b2⟩ := way_bnd p0 p1 p2
  obtain ⟨v1, v2, v3⟩ := mV_iff.1 p0
  have j : inBig (way t l) = true := inBig_iff.2 (by omega)
  rw [j]
  exact w64 (by omega) (by omega)
set_option maxHeartbeats 2000000 in
theorem rposition_ok : SoundEnt Try.prog rposition_e := by
  refine ent_of_ex (Γ := (conOf [rway_e, rfloor_e])) (conOf_sound (scons rway_ok (scons rfloor_ok snil))) (by kernel_rfl) Try.func116 (by kernel_rfl) (by kernel_rfl) (fun args rows caps res h ho => ?_)
  change rposition_go args rows caps = some res at h
  unfold rposition_go at h
  split at h
  · simp only [Option.some.injEq] at h
    subst h
    rename_i q0_ q2_ q1_
    obtain ⟨p0, p1, p2, _⟩ := ho
    exact EX.of (rposition_tree q0_ q1_ q2_) (rposition_holds q0_ q1_ q2_ p0 p1 p2)
  · cases h

theorem way_zero : ∀ (l : List (List Int)) (e : Int), vL e l = true → way 0 l = 0
  | [], _, _ => rfl
  | r :: l, e, hv => by
    obtain ⟨⟨a1, a2, a3, a4⟩, a5, a6⟩ := vL_cons hv
    simp only [way]
    rw [show min (0 : Int) (r0 r) = 0 by omega, show (0 : Int) - 0 = 0 from rfl, way_zero l _ a6]
    omega
theorem way_more : ∀ (l : List (List Int)) (e u d : Int), vL e l = true → 0 ≤ u → 0 ≤ d → way u l ≤ way (u + d) l
  | [], _, _, _, _, _, _ => Int.le_refl _
  | r :: l, e, u, d, hv, h0, h1 => by
    obtain ⟨⟨a1, a2, a3, a4⟩, a5, a6⟩ := vL_cons hv
    simp only [way]
    by_cases h : u < r0 r
    · have hz := way_zero l _ a6
      rw [show min u (r0 r) = u by omega, show u - u = 0 by omega, hz]
      have hb := (way_bd l _ (u + d - min (u + d) (r0 r)) a6 (by omega)).1
      have hm : u * r1 r ≤ min (u + d) (r0 r) * r1 r := Int.mul_le_mul_of_nonneg_right (by omega) a3
      omega
    · rw [show min u (r0 r) = r0 r by omega, show min (u + d) (r0 r) = r0 r by omega]
      have := way_more l _ (u - r0 r) d a6 (by omega) h1
      rw [show u + d - r0 r = u - r0 r + d by omega]
      omega
theorem upq_le {a b u : Int} (hb : 1 ≤ b) : upq a b ≤ u ↔ a ≤ u * b := by
  have h := Int.le_ediv_iff_mul_le (a := -u) (b := -a) (c := b) (by omega)
  unfold upq
  rw [Int.neg_mul] at h
  omega
theorem tmW_key : ∀ (l : List (List Int)) (nd tt : Int), vL tt l = true → 1 ≤ nd → (∃ u, 0 ≤ u ∧ nd ≤ way u l) →
    (tmW nd tt l).2 = 0 ∧ tt ≤ (tmW nd tt l).1 ∧ (tmW nd tt l).1 ≤ tt + endL l ∧ ∀ u, 0 ≤ u → (nd ≤ way u l ↔ (tmW nd tt l).1 - tt ≤ u)
  | [], nd, tt, _, h1, ⟨u, _, h2⟩ => by simp only [way] at h2; omega
  | r :: l, nd, tt, hv, h1, ⟨u, h0, h2⟩ => by
    obtain ⟨⟨a1, a2, a3, a4⟩, a5, a6⟩ := vL_cons hv
    have hz := way_zero l _ a6
    simp only [tmW, endL]
    by_cases hc : r0 r * r1 r < nd
    · rw [if_pos hc]
      have hlt : ∀ v, 0 ≤ v → nd ≤ way v (r :: l) → r0 r ≤ v := by
        intro v hv0 hw
        rcases Int.lt_or_le v (r0 r) with h | h
        · simp only [way] at hw
          rw [show min v (r0 r) = v by omega, show v - v = 0 by omega, hz] at hw
          have := Int.mul_le_mul_of_nonneg_right (show v ≤ r0 r by omega) a3
          omega
        · exact h
      have hge : ∀ v, r0 r ≤ v → way v (r :: l) = r0 r * r1 r + way (v - r0 r) l := by
        intro v hv0
        simp only [way]
        rw [show min v (r0 r) = r0 r by omega]
      have hu := hlt u h0 h2
      rw [hge u hu] at h2
      obtain ⟨g1, g2, g3, g4⟩ := tmW_key l (nd - r0 r * r1 r) (tt + r0 r) a6 (by omega) ⟨u - r0 r, by omega, by omega⟩
      refine ⟨g1, by omega, by omega, fun v hv0 => ?_⟩
      constructor
      · intro hw
        have hv1 := hlt v hv0 hw
        rw [hge v hv1] at hw
        have := (g4 (v - r0 r) (by omega)).1 (by omega)
        omega
      · intro hw
        have hv1 : r0 r ≤ v := by omega
        rw [hge v hv1]
        have := (g4 (v - r0 r) (by omega)).2 (by omega)
        omega
    · rw [if_neg hc]
      have hr1 : 1 ≤ r1 r := by
        rcases Int.lt_or_le 0 (r1 r) with h | h
        · omega
        · have : r1 r = 0 := by omega
          rw [this] at hc
          omega
      have hend := (endL_bd l _ a5 a6).1
      have h3 : upq nd (r1 r) ≤ r0 r := (upq_le hr1).2 (by omega)
      have h4 : ¬ upq nd (r1 r) ≤ 0 := fun h => by have := (upq_le hr1).1 h; omega
      refine ⟨rfl, by simp only []; omega, by simp only []; omega, fun v hv0 => ?_⟩
      simp only [way]
      rw [show tt + upq nd (r1 r) - tt = upq nd (r1 r) by omega]
      rcases Int.lt_or_le v (r0 r) with h | h
      · rw [show min v (r0 r) = v by omega, show v - v = 0 by omega, hz, upq_le hr1]
        omega
      · rw [show min v (r0 r) = r0 r by omega]
        have := (way_bd l _ (v - r0 r) a6 (by omega)).1
        constructor
        · intro _; omega
        · intro _; omega
/-- The first time of a position. -/
theorem tm_key {s : Int} {l : List (List Int)} {p : Int} (hm : mValid s l = true) :
    ((tmOf s l p).2 = 0 ∨ (tmOf s l p).2 = 7) ∧ ((tmOf s l p).2 = 7 → (tmOf s l p).1 = 0) ∧ ((tmOf s l p).2 = 0 ↔ p ≤ s + way 1099511627776 l / 65536) ∧
    ((tmOf s l p).2 = 0 → 0 ≤ (tmOf s l p).1 ∧ (tmOf s l p).1 ≤ endL l ∧ ∀ u, 0 ≤ u → (p ≤ s + way u l / 65536 ↔ (tmOf s l p).1 ≤ u)) := by
  obtain ⟨v1, v2, v3⟩ := mV_iff.1 hm
  have he : mErr s l 1099511627776 = 0 := mErr_zero.2 ⟨hm, by omega, by omega⟩
  have hpo : posOf s l 1099511627776 = s + way 1099511627776 l / 65536 := by unfold posOf; rw [if_pos he]
  have hw := way_bd l 0 1099511627776 v3 (by omega)
  have hend := endL_bd l 0 (by omega) v3
  unfold tmOf
  rw [if_pos hm, hpo]
  by_cases h1 : p ≤ s
  · rw [if_pos h1]
    refine ⟨.inl rfl, fun h => by simp at h, by simp; omega, fun _ => ⟨by simp, by simp; omega, fun u hu => ?_⟩⟩
    have := way_bd l 0 u v3 hu
    simp only []
    omega
  · rw [if_neg h1]
    by_cases h2 : s + way 1099511627776 l / 65536 < p
    · rw [if_pos h2]
      refine ⟨.inr rfl, fun _ => rfl, by simp; omega, fun h => by simp at h⟩
    · rw [if_neg h2]
      obtain ⟨g1, g2, g3, g4⟩ := tmW_key l ((p - s) * 65536) 0 v3 (by omega) ⟨1099511627776, by omega, by omega⟩
      refine ⟨.inl g1, fun h => by omega, by omega, fun _ => ⟨g2, by omega, fun u hu => ?_⟩⟩
      have := g4 u hu
      omega


theorem way_past : ∀ (l : List (List Int)) (e u : Int), vL e l = true → endL l ≤ u → way u l = way (endL l) l
  | [], _, _, _, _ => rfl
  | r :: l, e, u, hv, h => by
    obtain ⟨⟨a1, a2, a3, a4⟩, a5, a6⟩ := vL_cons hv
    have hb := (endL_bd l _ a5 a6).1
    simp only [way, endL] at h ⊢
    rw [show min u (r0 r) = r0 r by omega, show min (r0 r + endL l) (r0 r) = r0 r by omega, way_past l _ (u - r0 r) a6 (by omega), way_past l _ (r0 r + endL l - r0 r) a6 (by omega)]
theorem spd_bd : ∀ (l : List (List Int)) (e u : Int), vL e l = true → 0 ≤ spd u l ∧ spd u l ≤ 524288
  | [], _, _, _ => by simp only [spd]; omega
  | r :: l, e, u, hv => by
    obtain ⟨⟨a1, a2, a3, a4⟩, a5, a6⟩ := vL_cons hv
    simp only [spd]
    split
    · exact ⟨a3, a4⟩
    · exact spd_bd l _ _ a6
def rtime_res (s : Int) (l : List (List Int)) (p : Int) : CRes := ⟨[mValid s l], .tup [.cel (.int .i64 ((tmOf s l p).1)), .cel (.bool (decide ((tmOf s l p).2 = 0)))], []⟩
def rtime_go : List TV → List RowA → List (List CV) → Option CRes := fun args rows caps =>
  match args, rows, caps with
  | [.agg [.int .i64 s, .row 0], .cel (.int .i64 p)], [.recs [.int .i64, .int .i64] l], [] => some (rtime_res s l p)
  | _, _, _ => none
def rtime_e : Ent := ⟨80, [.recs [.int .i64, .int .i64] []], rtime_go⟩
def rtime_L1_F (s : Int) (l : List (List Int)) (p : Int) (lo : Int) (hi : Int) : St := ⟨36, [], [(7, (.one (.cel (.int .i64 hi)))), (6, (.one (.cel (.int .i64 lo)))), (5, (.one (.cel (.bool Bool.false)))), (4, (.one (.cel (.int .i64 (0 : Int))))), (2, (.one (.cel (.ptr 0 0)))), (1, (.one (.cel (.int .i64 p))))], [[(.int .i64 s), (.row 0)]], [⟨(.recs [.int .i64, .int .i64] l), none⟩], 0⟩
def rtime_L1_I (s : Int) (l : List (List Int)) (p : Int) (lo : Int) (hi : Int) : Prop := (0 ≤ lo ∧ lo ≤ (tmOf s l p).1 ∧ (tmOf s l p).1 ≤ hi ∧ hi ≤ 1099511627776) ∧ ((tmOf s l p).2 = 0)
def rtime_L1_m (s : Int) (l : List (List Int)) (p : Int) (lo : Int) (hi : Int) : Nat := (hi - lo).toNat
def rtime_L1_N (s : Int) (l : List (List Int)) (p : Int) (lo' : Int) (hi' : Int) (st_ : St) : Prop := getI st_ 6 fun lo => getI st_ 7 fun hi => rtime_L1_I s l p lo hi ∧ rtime_L1_m s l p lo hi < rtime_L1_m s l p lo' hi' ∧ SubA st_ (rtime_L1_F s l p lo hi)
def rtime_L1_E (s : Int) (l : List (List Int)) (p : Int) (st_ : St) : Prop := getI st_ 6 fun lo => getI st_ 7 fun hi => rtime_L1_I s l p lo hi ∧ SubA st_ (rtime_L1_F s l p lo hi)
def rtime_L1_S1 (s : Int) (l : List (List Int)) (p : Int) : St := ⟨36, [], [(19, (.one (.cel (.bool (decide ((s + ((way (endL l) l) / (65536 : Int))) < p)))))), (18, (.one (.cel (.int .i64 p)))), (17, (.one (.cel (.int .i64 (s + ((way (endL l) l) / (65536 : Int))))))), (16, (.one (.cel (.int .i64 (endL l))))), (15, (.one (.agg [(.int .i64 s), (.row 0)]))), (7, (.one (.cel (.int .i64 (endL l))))), (6, (.one (.cel (.int .i64 (0 : Int))))), (14, (.one (.cel (.int .i64 (endL l))))), (13, (.one (.agg [(.int .i64 s), (.row 0)]))), (12, (.one (.cel (.bool (decide (p ≤ s)))))), (11, (.one (.cel (.int .i64 s)))), (10, (.one (.cel (.ptr 0 0)))), (9, (.one (.cel (.int .i64 p)))), (5, (.one (.cel (.bool Bool.false)))), (4, (.one (.cel (.int .i64 (0 : Int))))), (2, (.one (.cel (.ptr 0 0)))), (0, (.one (.agg [(.int .i64 s), (.row 0)]))), (1, (.one (.cel (.int .i64 p))))], [[(.int .i64 s), (.row 0)]], [⟨(.recs [.int .i64, .int .i64] l), none⟩], 0⟩
def rtime_L1_T (s : Int) (l : List (List Int)) (p : Int) (lo : Int) (hi : Int) : Prop := (cnd (decide (lo < hi))
  (cnd (inBig (Go.IntKind.wrap Go.IntKind.i64 (lo + hi)))
    (cnd (mValid s l)
      (cnd (decide ((0 : Int) ≤ ((Go.IntKind.wrap Go.IntKind.i64 (lo + hi)) / (2 : Int))))
        (cnd (decide (((Go.IntKind.wrap Go.IntKind.i64 (lo + hi)) / (2 : Int)) ≤ (1099511627776 : Int)))
          (cnd (decide (p ≤ (s + ((way ((Go.IntKind.wrap Go.IntKind.i64 (lo + hi)) / (2 : Int)) l) / (65536 : Int)))))
            ((rtime_L1_I s l p lo ((Go.IntKind.wrap Go.IntKind.i64 (lo + hi)) / (2 : Int))) ∧ (((rtime_L1_m s l p lo ((Go.IntKind.wrap Go.IntKind.i64 (lo + hi)) / (2 : Int))) < (rtime_L1_m s l p lo hi)) ∧ ((((Go.IntKind.wrap Go.IntKind.i64 (lo + hi)) / (2 : Int)) = ((Go.IntKind.wrap Go.IntKind.i64 (lo + hi)) / (2 : Int))) ∧ ((lo = lo) ∧ ((Bool.false = Bool.false) ∧ (((0 : Int) = (0 : Int)) ∧ (True ∧ ((p = p) ∧ (((s = s) ∧ True) ∧ ((l = l) ∧ True))))))))))
            ((rtime_L1_I s l p (Go.IntKind.wrap Go.IntKind.i64 (((Go.IntKind.wrap Go.IntKind.i64 (lo + hi)) / (2 : Int)) + (1 : Int))) hi) ∧ (((rtime_L1_m s l p (Go.IntKind.wrap Go.IntKind.i64 (((Go.IntKind.wrap Go.IntKind.i64 (lo + hi)) / (2 : Int)) + (1 : Int))) hi) < (rtime_L1_m s l p lo hi)) ∧ ((hi = hi) ∧ (((Go.IntKind.wrap Go.IntKind.i64 (((Go.IntKind.wrap Go.IntKind.i64 (lo + hi)) / (2 : Int)) + (1 : Int))) = (Go.IntKind.wrap Go.IntKind.i64 (((Go.IntKind.wrap Go.IntKind.i64 (lo + hi)) / (2 : Int)) + (1 : Int)))) ∧ ((Bool.false = Bool.false) ∧ (((0 : Int) = (0 : Int)) ∧ (True ∧ ((p = p) ∧ (((s = s) ∧ True) ∧ ((l = l) ∧ True)))))))))))
          False)
        False)
      False)
    False)
  ((lo = (Prod.fst (tmOf s l p))) ∧ (Bool.true = (decide ((Prod.snd (tmOf s l p)) = (0 : Int))))))
set_option maxRecDepth 100000 in
theorem rtime_L1_tree (s : Int) (l : List (List Int)) (p : Int) (lo : Int) (hi : Int) : rtime_L1_T s l p lo hi = ex Try.prog (conOf [rend_e, rposition_e, rfloor_e]) (subC (bodyOf Try.f80) [1, 1, 1, 1, 0, 0, 0]) (nextE (rtime_L1_N s l p lo hi) (kont Try.prog (conOf [rend_e, rposition_e, rfloor_e]) (bodyOf Try.f80) [1, 1, 1, 1, 0, 0] (retPost Try.prog Try.f80 1 (rtime_res s l p)))) (rtime_L1_F s l p lo hi) := by kernel_rfl
set_option maxRecDepth 100000 in
theorem rtime_L1_round (s : Int) (l : List (List Int)) (p : Int) (lo : Int) (hi : Int) (p0 : mValid s l = true) (hI_L1 : rtime_L1_I s l p lo hi) : rtime_L1_T s l p lo hi := by
  obtain ⟨⟨a1, a2, a3, a4⟩, a5⟩ := hI_L1
  obtain ⟨k1, k2, k3, k4⟩ := tm_key (p := p) p0
  obtain ⟨g1, g2, g3⟩ := k4 a5
  unfold rtime_L1_T
  rw [a5]
  by_cases h : lo < hi
  · rw [w64 (n := lo + hi) (by omega) (by omega)]
    have hb : inBig (lo + hi) = true := inBig_iff.2 (by omega)
    generalize hm : (lo + hi) / 2 = m at *
    have j1 : decide (0 ≤ m) = true := by rw [decide_eq_true_eq]; omega
    have j2 : decide (m ≤ 1099511627776) = true := by rw [decide_eq_true_eq]; omega
    rw [w64 (n := m + 1) (by omega) (by omega), hb, p0, j1, j2, decide_eq_true h]
    have hg := g3 m (by omega)
    by_cases hc : p ≤ s + way m l / 65536
    · rw [decide_eq_true hc]
      refine ⟨⟨⟨a1, a2, hg.1 hc, by omega⟩, a5⟩, ?_, by simp⟩
      unfold rtime_L1_m
      omega
    · rw [decide_eq_false hc]
      have : ¬ (tmOf s l p).1 ≤ m := fun h => hc (hg.2 h)
      refine ⟨⟨⟨by omega, by omega, a3, a4⟩, a5⟩, ?_, by simp⟩
      unfold rtime_L1_m
      omega
  · rw [decide_eq_false h]
    exact ⟨by omega, rfl⟩
set_option maxRecDepth 100000 in
theorem rtime_L1_entry1 (s : Int) (l : List (List Int)) (p : Int) : (((rtime_L1_I s l p (0 : Int) (endL l)) ∧ (((endL l) = (endL l)) ∧ (((0 : Int) = (0 : Int)) ∧ ((Bool.false = Bool.false) ∧ (((0 : Int) = (0 : Int)) ∧ (True ∧ ((p = p) ∧ (((s = s) ∧ True) ∧ ((l = l) ∧ True)))))))))) = rtime_L1_E s l p (rtime_L1_S1 s l p) := by kernel_rfl
theorem rtime_L1_1 (s : Int) (l : List (List Int)) (p : Int) (p0 : mValid s l = true) (h : ((rtime_L1_I s l p (0 : Int) (endL l)) ∧ (((endL l) = (endL l)) ∧ (((0 : Int) = (0 : Int)) ∧ ((Bool.false = Bool.false) ∧ (((0 : Int) = (0 : Int)) ∧ (True ∧ ((p = p) ∧ (((s = s) ∧ True) ∧ ((l = l) ∧ True)))))))))) : LoopP (ex Try.prog (conOf [rend_e, rposition_e, rfloor_e]) (subC (bodyOf Try.f80) [1, 1, 1, 1, 0, 0, 0])) (kont Try.prog (conOf [rend_e, rposition_e, rfloor_e]) (bodyOf Try.f80) [1, 1, 1, 1, 0, 0] (retPost Try.prog Try.f80 1 (rtime_res s l p))) (rtime_L1_S1 s l p) := by
  have hE : rtime_L1_E s l p (rtime_L1_S1 s l p) := Eq.mp (rtime_L1_entry1 s l p) h
  unfold rtime_L1_E at hE
  obtain ⟨lo, hE⟩ := getI_of hE
  obtain ⟨hi, hE⟩ := getI_of hE
  refine loop_of (α := (Int) × (Int)) (fun xx_ => rtime_L1_F s l p xx_.1 xx_.2) (fun xx_ => rtime_L1_I s l p xx_.1 xx_.2) (fun xx_ => rtime_L1_m s l p xx_.1 xx_.2) (fun xx_ => rtime_L1_N s l p xx_.1 xx_.2) (fun xx_ => rtime_L1_T s l p xx_.1 xx_.2) (fun xx_ s_ h => ?_) ⟨⟨lo, hi⟩, hE⟩ (fun xx_ => rtime_L1_tree s l p xx_.1 xx_.2) (fun xx_ hI => rtime_L1_round s l p xx_.1 xx_.2 p0 hI)
  unfold rtime_L1_N at h
  obtain ⟨lo, h⟩ := getI_of h
  obtain ⟨hi, h⟩ := getI_of h
  exact ⟨⟨lo, hi⟩, h⟩
set_option maxRecDepth 100000 in
theorem rtime_tree (s : Int) (l : List (List Int)) (p : Int) : ((cnd (decide (p ≤ s))
  (((0 : Int) = (Prod.fst (tmOf s l p))) ∧ (Bool.true = (decide ((Prod.snd (tmOf s l p)) = (0 : Int)))))
  (cnd (mValid s l)
    (cnd (mValid s l)
      (cnd (decide ((0 : Int) ≤ (endL l)))
        (cnd (decide ((endL l) ≤ (1099511627776 : Int)))
          (cnd (decide ((s + ((way (endL l) l) / (65536 : Int))) < p))
            (((0 : Int) = (Prod.fst (tmOf s l p))) ∧ (Bool.false = (decide ((Prod.snd (tmOf s l p)) = (0 : Int)))))
            (LoopP (ex Try.prog (conOf [rend_e, rposition_e, rfloor_e]) (subC (bodyOf Try.f80) [1, 1, 1, 1, 0, 0, 0])) (kont Try.prog (conOf [rend_e, rposition_e, rfloor_e]) (bodyOf Try.f80) [1, 1, 1, 1, 0, 0] (retPost Try.prog Try.f80 1 (rtime_res s l p))) (rtime_L1_S1 s l p)))
          False)
        False)
      False)
    False))) = EXD Try.prog (conOf [rend_e, rposition_e, rfloor_e]) Try.f80 [.agg [.int .i64 s, .row 0], .cel (.int .i64 p)] [.recs [.int .i64, .int .i64] l] [] (rtime_res s l p) := by kernel_rfl
theorem rtime_holds (s : Int) (l : List (List Int)) (p : Int) (p0 : mValid s l = true) : (cnd (decide (p ≤ s))
  (((0 : Int) = (Prod.fst (tmOf s l p))) ∧ (Bool.true = (decide ((Prod.snd (tmOf s l p)) = (0 : Int)))))
  (cnd (mValid s l)
    (cnd (mValid s l)
      (cnd (decide ((0 : Int) ≤ (endL l)))
        (cnd (decide ((endL l) ≤ (1099511627776 : Int)))
          (cnd (decide ((s + ((way (endL l) l) / (65536 : Int))) < p))
            (((0 : Int) = (Prod.fst (tmOf s l p))) ∧ (Bool.false = (decide ((Prod.snd (tmOf s l p)) = (0 : Int)))))
            (LoopP (ex Try.prog (conOf [rend_e, rposition_e, rfloor_e]) (subC (bodyOf Try.f80) [1, 1, 1, 1, 0, 0, 0])) (kont Try.prog (conOf [rend_e, rposition_e, rfloor_e]) (bodyOf Try.f80) [1, 1, 1, 1, 0, 0] (retPost Try.prog Try.f80 1 (rtime_res s l p))) (rtime_L1_S1 s l p)))
          False)
        False)
      False)
    False)) := by
  obtain ⟨v1, v2, v3⟩ := mV_iff.1 p0
  obtain ⟨k1, k2, k3, k4⟩ := tm_key (p := p) p0
  have hE := endL_bd l 0 (by omega) v3
  have hP := way_past l 0 1099511627776 v3 (by omega)
  by_cases h1 : p ≤ s
  · have e : tmOf s l p = (0, 0) := by unfold tmOf; rw [if_pos p0, if_pos h1]
    rw [decide_eq_true h1, e]
    exact ⟨rfl, rfl⟩
  · have j1 : decide (0 ≤ endL l) = true := decide_eq_true hE.1
    have j2 : decide (endL l ≤ 1099511627776) = true := by rw [decide_eq_true_eq]; omega
    rw [decide_eq_false h1, p0, j1, j2, ← hP]
    rw [← hP] at *
    by_cases h2 : s + way 1099511627776 l / 65536 < p
    · have h7 : (tmOf s l p).2 = 7 := by
        rcases k1 with h | h
        · have := k3.1 h; omega
        · exact h
      rw [decide_eq_true h2, k2 h7, h7]
      exact ⟨rfl, rfl⟩
    · have h0 : (tmOf s l p).2 = 0 := k3.2 (by omega)
      obtain ⟨g1, g2, g3⟩ := k4 h0
      rw [decide_eq_false h2]
      exact rtime_L1_1 s l p p0 ⟨⟨⟨by omega, g1, g2, by omega⟩, h0⟩, by simp⟩
set_option maxHeartbeats 2000000 in
theorem rtime_ok : SoundEnt Try.prog rtime_e := by
  refine ent_of_ex (Γ := (conOf [rend_e, rposition_e, rfloor_e])) (conOf_sound (scons rend_ok (scons rposition_ok (scons rfloor_ok snil)))) (by kernel_rfl) Try.func80 (by kernel_rfl) (by kernel_rfl) (fun args rows caps res h ho => ?_)
  change rtime_go args rows caps = some res at h
  unfold rtime_go at h
  split at h
  · simp only [Option.some.injEq] at h
    subst h
    rename_i q0_ q2_ q1_
    obtain ⟨p0, _⟩ := ho
    exact EX.of (rtime_tree q0_ q1_ q2_) (rtime_holds q0_ q1_ q2_ p0)
  · cases h
end Go.Proofs.Ythfliohfkhnpiaa

