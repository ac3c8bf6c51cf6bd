/- Motions: positions and times. -/
import Derived.Test.YthfliohfkhnpiaaRf
import Derived.Test.YthfliohfkhnpiaaOr
namespace Go.Proofs.Ythfliohfkhnpiaa
set_option linter.unusedVariables false
set_option linter.unusedSimpArgs false
open Go.RowKit


def r0 (r : List Int) : Int := r.getD 0 0
def r1 (r : List Int) : Int := r.getD 1 0
def MT : Int := 1099511627776
def vRun (r : List Int) : Bool := decide (1 ≤ r0 r) && decide (r0 r ≤ 1099511627776) && decide (0 ≤ r1 r) && decide (r1 r ≤ 524288)
def vL : Int → List (List Int) → Bool
  | _, [] => true
  | e, r :: l => vRun r && decide (e + r0 r ≤ 1099511627776) && vL (e + r0 r) l
def mValid (s : Int) (l : List (List Int)) : Bool := decide (0 ≤ s) && decide (s < 46080) && decide ((l.length : Int) ≤ 2000) && vL 0 l
def mErr (s : Int) (l : List (List Int)) (t : Int) : Int := if mValid s l then (if 0 ≤ t ∧ t ≤ 1099511627776 then 0 else 2) else 1
def way : Int → List (List Int) → Int
  | _, [] => 0
  | t, r :: l => min t (r0 r) * r1 r + way (t - min t (r0 r)) l
def posOf (s : Int) (l : List (List Int)) (t : Int) : Int := if mErr s l t = 0 then s + way t l / 65536 else 0
theorem drop_consR {l : List (List Int)} {i : Int} (h0 : 0 ≤ i) (h1 : i < l.length) : l.drop i.toNat = l.getD i.toNat [] :: l.drop (i.toNat + 1) := by
  have h : i.toNat < l.length := by omega
  rw [List.drop_eq_getElem_cons h, List.getD_eq_getElem?_getD, List.getElem?_eq_getElem h]
  rfl
def valid_res (s : Int) (l : List (List Int)) : CRes := ⟨[], .one (.cel (.bool (mValid s l))), []⟩
def valid_go : List TV → List RowA → List (List CV) → Option CRes := fun args rows caps =>
  match args, rows, caps with
  | [.agg [.int .i64 s, .row 0]], [.recs [.int .i64, .int .i64] l], [] => some (valid_res s l)
  | _, _, _ => none
def valid_e : Ent := ⟨107, [.recs [.int .i64, .int .i64] []], valid_go⟩
def valid_L1_F (s : Int) (l : List (List Int)) (i : Int) (en : Int) : St := ⟨52, [], [(23, (.one (.cel (.int .i64 i)))), (22, (.one (.cel (.int .i64 (((List.length l) : Nat) : Int))))), (21, (.one (.cel (.row 0)))), (3, (.one (.cel (.int .i64 en)))), (2, (.one (.cel (.bool Bool.false))))], [[(.int .i64 s), (.row 0)]], [⟨(.recs [.int .i64, .int .i64] l), none⟩], 0⟩
def valid_L1_I (s : Int) (l : List (List Int)) (i : Int) (en : Int) : Prop := (0 ≤ i ∧ i ≤ l.length ∧ (l.length : Int) ≤ 2000 ∧ 0 ≤ s ∧ s < 46080 ∧ 0 ≤ en ∧ en ≤ 1099511627776 ∧ vL en (l.drop i.toNat) = vL 0 l)
def valid_L1_m (s : Int) (l : List (List Int)) (i : Int) (en : Int) : Nat := (l.length - i).toNat
def valid_L1_N (s : Int) (l : List (List Int)) (i' : Int) (en' : Int) (st_ : St) : Prop := getI st_ 23 fun i => getI st_ 3 fun en => valid_L1_I s l i en ∧ valid_L1_m s l i en < valid_L1_m s l i' en' ∧ SubA st_ (valid_L1_F s l i en)
def valid_L1_E (s : Int) (l : List (List Int)) (st_ : St) : Prop := getI st_ 23 fun i => getI st_ 3 fun en => valid_L1_I s l i en ∧ SubA st_ (valid_L1_F s l i en)
def valid_L1_S1 (s : Int) (l : List (List Int)) : St := ⟨52, [14, 9], [(23, (.one (.cel (.int .i64 (0 : Int))))), (22, (.one (.cel (.int .i64 (((List.length l) : Nat) : Int))))), (21, (.one (.cel (.row 0)))), (20, (.one (.cel (.ptr 0 1)))), (3, (.one (.cel (.int .i64 (0 : Int))))), (19, (.one (.cel (.bool (((decide (s < (0 : Int))) || (decide ((46080 : Int) ≤ s))) || (decide ((2000 : Int) < (((List.length l) : Nat) : Int)))))))), (18, (.spec 14 Bool.false (.cel (.bool (decide ((2000 : Int) < (((List.length l) : Nat) : Int))))))), (17, (.spec 14 Bool.false (.cel (.int .i64 (((List.length l) : Nat) : Int))))), (16, (.spec 14 Bool.false (.cel (.row 0)))), (15, (.spec 14 Bool.false (.cel (.ptr 0 1)))), (14, (.one (.cel (.bool ((decide (s < (0 : Int))) || (decide ((46080 : Int) ≤ s))))))), (13, (.one (.cel (.bool ((decide (s < (0 : Int))) || (decide ((46080 : Int) ≤ s))))))), (12, (.spec 9 Bool.false (.cel (.bool (decide ((46080 : Int) ≤ s)))))), (11, (.spec 9 Bool.false (.cel (.int .i64 s)))), (10, (.spec 9 Bool.false (.cel (.ptr 0 0)))), (9, (.one (.cel (.bool (decide (s < (0 : Int))))))), (8, (.one (.cel (.bool (decide (s < (0 : Int))))))), (7, (.one (.cel (.int .i64 s)))), (6, (.one (.cel (.ptr 0 0)))), (2, (.one (.cel (.bool Bool.false)))), (1, (.one (.cel (.ptr 0 0)))), (0, (.one (.agg [(.int .i64 s), (.row 0)])))], [[(.int .i64 s), (.row 0)]], [⟨(.recs [.int .i64, .int .i64] l), none⟩], 0⟩
def valid_L1_T (s : Int) (l : List (List Int)) (i : Int) (en : Int) : Prop := (cnd (decide (i < (((List.length l) : Nat) : Int)))
  (cnd (decide ((0 : Int) ≤ i))
    (cnd (decide (i < (((List.length l) : Nat) : Int)))
      (cnd ((((decide ((List.getD (List.getD l (Int.toNat i) ([] : List Int)) 0 (0 : Int)) < (1 : Int))) || (decide ((1099511627776 : Int) < (List.getD (List.getD l (Int.toNat i) ([] : List Int)) 0 (0 : Int))))) || (decide ((List.getD (List.getD l (Int.toNat i) ([] : List Int)) (0 + 1) (0 : Int)) < (0 : Int)))) || (decide ((524288 : Int) < (List.getD (List.getD l (Int.toNat i) ([] : List Int)) (0 + 1) (0 : Int)))))
        (Bool.false = (mValid s l))
        (cnd (decide ((1099511627776 : Int) < (Go.IntKind.wrap Go.IntKind.i64 (en + (List.getD (List.getD l (Int.toNat i) ([] : List Int)) 0 (0 : Int))))))
          (Bool.false = (mValid s l))
          ((valid_L1_I s l (Go.IntKind.wrap Go.IntKind.i64 (i + (1 : Int))) (Go.IntKind.wrap Go.IntKind.i64 (en + (List.getD (List.getD l (Int.toNat i) ([] : List Int)) 0 (0 : Int))))) ∧ (((valid_L1_m s l (Go.IntKind.wrap Go.IntKind.i64 (i + (1 : Int))) (Go.IntKind.wrap Go.IntKind.i64 (en + (List.getD (List.getD l (Int.toNat i) ([] : List Int)) 0 (0 : Int))))) < (valid_L1_m s l i en)) ∧ (((Go.IntKind.wrap Go.IntKind.i64 (i + (1 : Int))) = (Go.IntKind.wrap Go.IntKind.i64 (i + (1 : Int)))) ∧ (((((List.length l) : Nat) : Int) = (((List.length l) : Nat) : Int)) ∧ (True ∧ (((Go.IntKind.wrap Go.IntKind.i64 (en + (List.getD (List.getD l (Int.toNat i) ([] : List Int)) 0 (0 : Int)))) = (Go.IntKind.wrap Go.IntKind.i64 (en + (List.getD (List.getD l (Int.toNat i) ([] : List Int)) 0 (0 : Int))))) ∧ ((Bool.false = Bool.false) ∧ (((s = s) ∧ True) ∧ ((l = l) ∧ True)))))))))))
      False)
    False)
  (Bool.true = (mValid s l)))
set_option maxRecDepth 100000 in
theorem valid_L1_tree (s : Int) (l : List (List Int)) (i : Int) (en : Int) : valid_L1_T s l i en = ex Try.prog (conOf []) (subC (bodyOf Try.f107) [1, 1, 1, 0, 1, 0, 0]) (nextE (valid_L1_N s l i en) (kont Try.prog (conOf []) (bodyOf Try.f107) [1, 1, 1, 0, 1, 0] (retPost Try.prog Try.f107 1 (valid_res s l)))) (valid_L1_F s l i en) := by kernel_rfl
set_option maxRecDepth 100000 in
theorem valid_L1_round (s : Int) (l : List (List Int)) (i : Int) (en : Int)  (hI_L1 : valid_L1_I s l i en) : valid_L1_T s l i en := by
  obtain ⟨i0, i1, i2, s0, s1, e0, e1, hv⟩ := hI_L1
  unfold valid_L1_T
  by_cases hi : i < l.length
  · have hd := drop_consR (l := l) (i := i) i0 hi
    rw [hd] at hv
    simp only [hi, i0, decide_true, cnd]
    change cnd ((((decide (r0 (l.getD i.toNat []) < 1)) || (decide (1099511627776 < r0 (l.getD i.toNat [])))) || (decide (r1 (l.getD i.toNat []) < 0))) || (decide (524288 < r1 (l.getD i.toNat [])))) _ (cnd (decide (1099511627776 < IntKind.i64.wrap (en + r0 (l.getD i.toNat [])))) _ (valid_L1_I s l (IntKind.i64.wrap (i + 1)) (IntKind.i64.wrap (en + r0 (l.getD i.toNat []))) ∧ _))
    generalize l.getD i.toNat [] = r at *
    have hmv : mValid s l = vL 0 l := by simp [mValid, s0, s1, i2]
    rw [hmv, ← hv]
    simp only [vL]
    by_cases hr : vRun r = true
    · have hr2 := hr
      simp only [vRun, Bool.and_eq_true, decide_eq_true_eq] at hr2
      have j : ((((decide (r0 r < 1)) || (decide (1099511627776 < r0 r))) || (decide (r1 r < 0))) || (decide (524288 < r1 r))) = false := by simp; omega
      rw [j, w64 (n := en + r0 r) (by omega) (by omega), w64 (n := i + 1) (by omega) (by omega)]
      simp only [hr, Bool.true_and, cnd]
      by_cases hm : en + r0 r ≤ 1099511627776
      · have j2 : decide (1099511627776 < en + r0 r) = false := by simp; omega
        rw [j2]
        refine ⟨⟨by omega, by omega, i2, s0, s1, by omega, hm, ?_⟩, ?_, by simp⟩
        · have e : (i + 1).toNat = i.toNat + 1 := by omega
          rw [e, ← hv]
          simp [vL, hr, hm]
        · unfold valid_L1_m
          omega
      · have j2 : decide (1099511627776 < en + r0 r) = true := by simp; omega
        simp [j2, hm]
    · have hr1 : vRun r = false := by simpa using hr
      have j : ((((decide (r0 r < 1)) || (decide (1099511627776 < r0 r))) || (decide (r1 r < 0))) || (decide (524288 < r1 r))) = true := by
        simp only [vRun, Bool.and_eq_true, decide_eq_true_eq] at hr
        simp; omega
      rw [j, hr1]
      simp [cnd]
  · simp only [hi, decide_false, cnd]
    have e : l.drop i.toNat = [] := List.drop_eq_nil_of_le (by omega)
    rw [e] at hv
    simp [mValid, s0, s1, i2, ← hv, vL]
set_option maxRecDepth 100000 in
theorem valid_L1_entry1 (s : Int) (l : List (List Int)) : (((valid_L1_I s l (0 : Int) (0 : Int)) ∧ (((0 : Int) = (0 : Int)) ∧ (((((List.length l) : Nat) : Int) = (((List.length l) : Nat) : Int)) ∧ (True ∧ (((0 : Int) = (0 : Int)) ∧ ((Bool.false = Bool.false) ∧ (((s = s) ∧ True) ∧ ((l = l) ∧ True))))))))) = valid_L1_E s l (valid_L1_S1 s l) := by kernel_rfl
theorem valid_L1_1 (s : Int) (l : List (List Int))  (h : ((valid_L1_I s l (0 : Int) (0 : Int)) ∧ (((0 : Int) = (0 : Int)) ∧ (((((List.length l) : Nat) : Int) = (((List.length l) : Nat) : Int)) ∧ (True ∧ (((0 : Int) = (0 : Int)) ∧ ((Bool.false = Bool.false) ∧ (((s = s) ∧ True) ∧ ((l = l) ∧ True))))))))) : LoopP (ex Try.prog (conOf []) (subC (bodyOf Try.f107) [1, 1, 1, 0, 1, 0, 0])) (kont Try.prog (conOf []) (bodyOf Try.f107) [1, 1, 1, 0, 1, 0] (retPost Try.prog Try.f107 1 (valid_res s l))) (valid_L1_S1 s l) := by
  have hE : valid_L1_E s l (valid_L1_S1 s l) := Eq.mp (valid_L1_entry1 s l) h
  unfold valid_L1_E at hE
  obtain ⟨i, hE⟩ := getI_of hE
  obtain ⟨en, hE⟩ := getI_of hE
  refine loop_of (α := (Int) × (Int)) (fun xx_ => valid_L1_F s l xx_.1 xx_.2) (fun xx_ => valid_L1_I s l xx_.1 xx_.2) (fun xx_ => valid_L1_m s l xx_.1 xx_.2) (fun xx_ => valid_L1_N s l xx_.1 xx_.2) (fun xx_ => valid_L1_T s l xx_.1 xx_.2) (fun xx_ s_ h => ?_) ⟨⟨i, en⟩, hE⟩ (fun xx_ => valid_L1_tree s l xx_.1 xx_.2) (fun xx_ hI => valid_L1_round s l xx_.1 xx_.2  hI)
  unfold valid_L1_N at h
  obtain ⟨i, h⟩ := getI_of h
  obtain ⟨en, h⟩ := getI_of h
  exact ⟨⟨i, en⟩, h⟩
set_option maxRecDepth 100000 in
theorem valid_tree (s : Int) (l : List (List Int)) : ((cnd (((decide (s < (0 : Int))) || (decide ((46080 : Int) ≤ s))) || (decide ((2000 : Int) < (((List.length l) : Nat) : Int))))
  (Bool.false = (mValid s l))
  (LoopP (ex Try.prog (conOf []) (subC (bodyOf Try.f107) [1, 1, 1, 0, 1, 0, 0])) (kont Try.prog (conOf []) (bodyOf Try.f107) [1, 1, 1, 0, 1, 0] (retPost Try.prog Try.f107 1 (valid_res s l))) (valid_L1_S1 s l)))) = EXD Try.prog (conOf []) Try.f107 [.agg [.int .i64 s, .row 0]] [.recs [.int .i64, .int .i64] l] [] (valid_res s l) := by kernel_rfl
theorem valid_holds (s : Int) (l : List (List Int))  : (cnd (((decide (s < (0 : Int))) || (decide ((46080 : Int) ≤ s))) || (decide ((2000 : Int) < (((List.length l) : Nat) : Int))))
  (Bool.false = (mValid s l))
  (LoopP (ex Try.prog (conOf []) (subC (bodyOf Try.f107) [1, 1, 1, 0, 1, 0, 0])) (kont Try.prog (conOf []) (bodyOf Try.f107) [1, 1, 1, 0, 1, 0] (retPost Try.prog Try.f107 1 (valid_res s l))) (valid_L1_S1 s l))) := by
  by_cases h : 0 ≤ s ∧ s < 46080 ∧ (l.length : Int) ≤ 2000
  · have j : ((decide (s < 0) || decide (46080 ≤ s)) || decide ((2000 : Int) < (l.length : Int))) = false := by simp; omega
    rw [j]
    simp only [cnd]
    exact valid_L1_1 s l ⟨⟨by omega, by omega, h.2.2, h.1, h.2.1, by omega, by omega, rfl⟩, by simp⟩
  · have j : ((decide (s < 0) || decide (46080 ≤ s)) || decide ((2000 : Int) < (l.length : Int))) = true := by simp; omega
    rw [j]
    simp only [cnd]
    symm
    simp [mValid]
    omega
set_option maxHeartbeats 2000000 in
theorem valid_ok : SoundEnt Try.prog valid_e := by
  refine ent_of_ex (Γ := (conOf [])) (conOf_sound snil) (by kernel_rfl) Try.func107 (by kernel_rfl) (by kernel_rfl) (fun args rows caps res h ho => ?_)
  change valid_go args rows caps = some res at h
  unfold valid_go at h
  split at h
  · simp only [Option.some.injEq] at h
    subst h
    rename_i q0_ q1_
    skip
    exact EX.of (valid_tree q0_ q1_) (valid_holds q0_ q1_)
  · cases h
def fault_res (s : Int) (l : List (List Int)) (t : Int) : CRes := ⟨[], .one (.cel (.int .i64 (mErr s l t))), []⟩
def fault_go : List TV → List RowA → List (List CV) → Option CRes := fun args rows caps =>
  match args, rows, caps with
  | [.agg [.int .i64 s, .row 0], .cel (.int .i64 t)], [.recs [.int .i64, .int .i64] l], [] => some (fault_res s l t)
  | _, _, _ => none
def fault_e : Ent := ⟨66, [.recs [.int .i64, .int .i64] []], fault_go⟩
set_option maxRecDepth 100000 in
theorem fault_tree (s : Int) (l : List (List Int)) (t : Int) : ((cnd (!(mValid s l))
  ((1 : Int) = (mErr s l t))
  (cnd ((decide (t < (0 : Int))) || (decide ((1099511627776 : Int) < t)))
    ((2 : Int) = (mErr s l t))
    ((0 : Int) = (mErr s l t))))) = EXD Try.prog (conOf [valid_e]) Try.f66 [.agg [.int .i64 s, .row 0], .cel (.int .i64 t)] [.recs [.int .i64, .int .i64] l] [] (fault_res s l t) := by kernel_rfl
theorem fault_holds (s : Int) (l : List (List Int)) (t : Int)  : (cnd (!(mValid s l))
  ((1 : Int) = (mErr s l t))
  (cnd ((decide (t < (0 : Int))) || (decide ((1099511627776 : Int) < t)))
    ((2 : Int) = (mErr s l t))
    ((0 : Int) = (mErr s l t)))) := by
  unfold mErr
  (repeat' (first | with_reducible rfl | trivial | (refine cnd_i (fun h => ?_) (fun h => ?_)) | (refine And.intro ?_ ?_) | (intro h)))
  all_goals (simp_all)
  all_goals (try omega)
set_option maxHeartbeats 2000000 in
theorem fault_ok : SoundEnt Try.prog fault_e := by
  refine ent_of_ex (Γ := (conOf [valid_e])) (conOf_sound (scons valid_ok snil)) (by kernel_rfl) Try.func66 (by kernel_rfl) (by kernel_rfl) (fun args rows caps res h ho => ?_)
  change fault_go args rows caps = some res at h
  unfold fault_go at h
  split at h
  · simp only [Option.some.injEq] at h
    subst h
    rename_i q0_ q2_ q1_
    skip
    exact EX.of (fault_tree q0_ q1_ q2_) (fault_holds q0_ q1_ q2_)
  · cases h
theorem vL_cons {e : Int} {r : List Int} {l : List (List Int)} (h : vL e (r :: l) = true) : (1 ≤ r0 r ∧ r0 r ≤ 1099511627776 ∧ 0 ≤ r1 r ∧ r1 r ≤ 524288) ∧ e + r0 r ≤ 1099511627776 ∧ vL (e + r0 r) l = true := by
  simp only [vL, vRun, Bool.and_eq_true, decide_eq_true_eq] at h
  obtain ⟨⟨⟨⟨⟨a, b⟩, c⟩, d⟩, e⟩, f⟩ := h
  exact ⟨⟨a, b, c, d⟩, e, f⟩
def position_res (s : Int) (l : List (List Int)) (t : Int) : CRes := ⟨[], .tup [.cel (.int .i64 (posOf s l t)), .cel (.int .i64 (mErr s l t))], []⟩
def position_go : List TV → List RowA → List (List CV) → Option CRes := fun args rows caps =>
  match args, rows, caps with
  | [.agg [.int .i64 s, .row 0], .cel (.int .i64 t)], [.recs [.int .i64, .int .i64] l], [] => some (position_res s l t)
  | _, _, _ => none
def position_e : Ent := ⟨24, [.recs [.int .i64, .int .i64] []], position_go⟩
def position_L1_F (s : Int) (l : List (List Int)) (t : Int) (i : Int) (w : Int) (u : Int) : St := ⟨43, [], [(20, (.one (.cel (.int .i64 i)))), (19, (.one (.cel (.int .i64 (((List.length l) : Nat) : Int))))), (18, (.one (.cel (.row 0)))), (7, (.one (.cel (.int .i64 w)))), (5, (.one (.cel (.int .i64 (0 : Int))))), (4, (.one (.cel (.int .i64 (0 : Int))))), (2, (.one (.cel (.ptr 0 0)))), (1, (.one (.cel (.int .i64 u))))], [[(.int .i64 s), (.row 0)]], [⟨(.recs [.int .i64, .int .i64] l), none⟩], 0⟩
def position_L1_I (s : Int) (l : List (List Int)) (t : Int) (i : Int) (w : Int) (u : Int) : Prop := (0 ≤ i ∧ i ≤ l.length ∧ (l.length : Int) ≤ 2000 ∧ 0 ≤ u ∧ u ≤ t ∧ t ≤ 1099511627776 ∧ 0 ≤ w ∧ w ≤ (t - u) * 524288 ∧ mErr s l t = 0 ∧ 0 ≤ s ∧ s < 46080 ∧ w + way u (l.drop i.toNat) = way t l ∧ ∃ e, vL e (l.drop i.toNat) = true)
def position_L1_m (s : Int) (l : List (List Int)) (t : Int) (i : Int) (w : Int) (u : Int) : Nat := (l.length - i).toNat
def position_L1_N (s : Int) (l : List (List Int)) (t : Int) (i' : Int) (w' : Int) (u' : Int) (st_ : St) : Prop := getI st_ 20 fun i => getI st_ 7 fun w => getI st_ 1 fun u => position_L1_I s l t i w u ∧ position_L1_m s l t i w u < position_L1_m s l t i' w' u' ∧ SubA st_ (position_L1_F s l t i w u)
def position_L1_E (s : Int) (l : List (List Int)) (t : Int) (st_ : St) : Prop := getI st_ 20 fun i => getI st_ 7 fun w => getI st_ 1 fun u => position_L1_I s l t i w u ∧ SubA st_ (position_L1_F s l t i w u)
def position_L1_S1 (s : Int) (l : List (List Int)) (t : Int) : St := ⟨43, [], [(20, (.one (.cel (.int .i64 (0 : Int))))), (19, (.one (.cel (.int .i64 (((List.length l) : Nat) : Int))))), (18, (.one (.cel (.row 0)))), (17, (.one (.cel (.ptr 0 1)))), (7, (.one (.cel (.int .i64 (0 : Int))))), (15, (.one (.cel (.bool (!(decide ((mErr s l t) = (0 : Int)))))))), (14, (.one (.cel (.int .i64 (mErr s l t))))), (6, (.one (.cel (.int .i64 (mErr s l t))))), (13, (.one (.cel (.int .i64 (mErr s l t))))), (12, (.one (.cel (.int .i64 t)))), (11, (.one (.agg [(.int .i64 s), (.row 0)]))), (5, (.one (.cel (.int .i64 (0 : Int))))), (4, (.one (.cel (.int .i64 (0 : Int))))), (2, (.one (.cel (.ptr 0 0)))), (0, (.one (.agg [(.int .i64 s), (.row 0)]))), (1, (.one (.cel (.int .i64 t))))], [[(.int .i64 s), (.row 0)]], [⟨(.recs [.int .i64, .int .i64] l), none⟩], 0⟩
def position_L1_T (s : Int) (l : List (List Int)) (t : Int) (i : Int) (w : Int) (u : Int) : Prop := (cnd (decide (i < (((List.length l) : Nat) : Int)))
  (cnd (decide ((0 : Int) ≤ i))
    (cnd (decide (i < (((List.length l) : Nat) : Int)))
      ((position_L1_I s l t (Go.IntKind.wrap Go.IntKind.i64 (i + (1 : Int))) (Go.IntKind.wrap Go.IntKind.i64 (w + (Go.IntKind.wrap Go.IntKind.i64 ((gmin u (List.getD (List.getD l (Int.toNat i) ([] : List Int)) 0 (0 : Int))) * (List.getD (List.getD l (Int.toNat i) ([] : List Int)) (0 + 1) (0 : Int)))))) (Go.IntKind.wrap Go.IntKind.i64 (u - (gmin u (List.getD (List.getD l (Int.toNat i) ([] : List Int)) 0 (0 : Int)))))) ∧ (((position_L1_m s l t (Go.IntKind.wrap Go.IntKind.i64 (i + (1 : Int))) (Go.IntKind.wrap Go.IntKind.i64 (w + (Go.IntKind.wrap Go.IntKind.i64 ((gmin u (List.getD (List.getD l (Int.toNat i) ([] : List Int)) 0 (0 : Int))) * (List.getD (List.getD l (Int.toNat i) ([] : List Int)) (0 + 1) (0 : Int)))))) (Go.IntKind.wrap Go.IntKind.i64 (u - (gmin u (List.getD (List.getD l (Int.toNat i) ([] : List Int)) 0 (0 : Int)))))) < (position_L1_m s l t i w u)) ∧ (((Go.IntKind.wrap Go.IntKind.i64 (i + (1 : Int))) = (Go.IntKind.wrap Go.IntKind.i64 (i + (1 : Int)))) ∧ (((((List.length l) : Nat) : Int) = (((List.length l) : Nat) : Int)) ∧ (True ∧ (((Go.IntKind.wrap Go.IntKind.i64 (w + (Go.IntKind.wrap Go.IntKind.i64 ((gmin u (List.getD (List.getD l (Int.toNat i) ([] : List Int)) 0 (0 : Int))) * (List.getD (List.getD l (Int.toNat i) ([] : List Int)) (0 + 1) (0 : Int)))))) = (Go.IntKind.wrap Go.IntKind.i64 (w + (Go.IntKind.wrap Go.IntKind.i64 ((gmin u (List.getD (List.getD l (Int.toNat i) ([] : List Int)) 0 (0 : Int))) * (List.getD (List.getD l (Int.toNat i) ([] : List Int)) (0 + 1) (0 : Int))))))) ∧ (((0 : Int) = (0 : Int)) ∧ (((0 : Int) = (0 : Int)) ∧ (True ∧ (((Go.IntKind.wrap Go.IntKind.i64 (u - (gmin u (List.getD (List.getD l (Int.toNat i) ([] : List Int)) 0 (0 : Int))))) = (Go.IntKind.wrap Go.IntKind.i64 (u - (gmin u (List.getD (List.getD l (Int.toNat i) ([] : List Int)) 0 (0 : Int)))))) ∧ (((s = s) ∧ True) ∧ ((l = l) ∧ True))))))))))))
      False)
    False)
  (((Go.IntKind.wrap Go.IntKind.i64 (s + (Go.IntKind.wrap Go.IntKind.i64 (Int.tdiv w (65536 : Int))))) = (posOf s l t)) ∧ ((0 : Int) = (mErr s l t))))
set_option maxRecDepth 100000 in
theorem position_L1_tree (s : Int) (l : List (List Int)) (t : Int) (i : Int) (w : Int) (u : Int) : position_L1_T s l t i w u = ex Try.prog (conOf [fault_e]) (subC (bodyOf Try.f24) [1, 1, 1, 0, 1, 0, 0]) (nextE (position_L1_N s l t i w u) (kont Try.prog (conOf [fault_e]) (bodyOf Try.f24) [1, 1, 1, 0, 1, 0] (retPost Try.prog Try.f24 1 (position_res s l t)))) (position_L1_F s l t i w u) := by kernel_rfl
set_option maxRecDepth 100000 in
theorem position_L1_round (s : Int) (l : List (List Int)) (t : Int) (i : Int) (w : Int) (u : Int)  (hI_L1 : position_L1_I s l t i w u) : position_L1_T s l t i w u := by
  obtain ⟨i0, i1, i2, u0, u1, t1, w0, w1, he, s0, s1, hw, e, hv⟩ := hI_L1
  unfold position_L1_T
  by_cases hi : i < l.length
  · have hd := drop_consR (l := l) (i := i) i0 hi
    rw [hd] at hv hw
    simp only [hi, i0, decide_true, cnd]
    change position_L1_I s l t (IntKind.i64.wrap (i + 1)) (IntKind.i64.wrap (w + IntKind.i64.wrap (gmin u (r0 (l.getD i.toNat [])) * r1 (l.getD i.toNat [])))) (IntKind.i64.wrap (u - gmin u (r0 (l.getD i.toNat [])))) ∧ _
    generalize l.getD i.toNat [] = r at *
    obtain ⟨⟨a1, a2, a3, a4⟩, a5, a6⟩ := vL_cons hv
    have hg : gmin u (r0 r) = min u (r0 r) := by unfold gmin; omega
    simp only [way] at hw
    rw [hg]
    have hm : 0 ≤ min u (r0 r) * r1 r ∧ min u (r0 r) * r1 r ≤ min u (r0 r) * 524288 := ⟨Int.mul_nonneg (by omega) a3, Int.mul_le_mul_of_nonneg_left a4 (by omega)⟩
    generalize hn : min u (r0 r) = n at *
    have n0 : 0 ≤ n ∧ n ≤ u := by omega
    generalize hp : n * r1 r = p at *
    rw [w64 (n := p) (by omega) (by omega), w64 (n := w + p) (by omega) (by omega), w64 (n := i + 1) (by omega) (by omega), w64 (n := u - n) (by omega) (by omega)]
    have e1 : (i + 1).toNat = i.toNat + 1 := by omega
    refine ⟨⟨by omega, by omega, i2, by omega, by omega, t1, by omega, by omega, he, s0, s1, ?_, _, by rw [e1]; exact a6⟩, ?_, by simp⟩
    · rw [e1]; omega
    · unfold position_L1_m
      omega
  · simp only [hi, decide_false, cnd]
    have e : l.drop i.toNat = [] := List.drop_eq_nil_of_le (by omega)
    rw [e] at hw
    simp only [way] at hw
    have hq : Int.tdiv w 65536 = w / 65536 := tdiv_pos w0
    rw [hq, w64 (n := w / 65536) (by omega) (by omega), w64 (n := s + w / 65536) (by omega) (by omega)]
    refine ⟨?_, he.symm⟩
    unfold posOf
    rw [if_pos he]
    have : w = way t l := by omega
    rw [this]
set_option maxRecDepth 100000 in
theorem position_L1_entry1 (s : Int) (l : List (List Int)) (t : Int) : (((position_L1_I s l t (0 : Int) (0 : Int) t) ∧ (((0 : Int) = (0 : Int)) ∧ (((((List.length l) : Nat) : Int) = (((List.length l) : Nat) : Int)) ∧ (True ∧ (((0 : Int) = (0 : Int)) ∧ (((0 : Int) = (0 : Int)) ∧ (((0 : Int) = (0 : Int)) ∧ (True ∧ ((t = t) ∧ (((s = s) ∧ True) ∧ ((l = l) ∧ True)))))))))))) = position_L1_E s l t (position_L1_S1 s l t) := by kernel_rfl
theorem position_L1_1 (s : Int) (l : List (List Int)) (t : Int)  (h : ((position_L1_I s l t (0 : Int) (0 : Int) t) ∧ (((0 : Int) = (0 : Int)) ∧ (((((List.length l) : Nat) : Int) = (((List.length l) : Nat) : Int)) ∧ (True ∧ (((0 : Int) = (0 : Int)) ∧ (((0 : Int) = (0 : Int)) ∧ (((0 : Int) = (0 : Int)) ∧ (True ∧ ((t = t) ∧ (((s = s) ∧ True) ∧ ((l = l) ∧ True)))))))))))) : LoopP (ex Try.prog (conOf [fault_e]) (subC (bodyOf Try.f24) [1, 1, 1, 0, 1, 0, 0])) (kont Try.prog (conOf [fault_e]) (bodyOf Try.f24) [1, 1, 1, 0, 1, 0] (retPost Try.prog Try.f24 1 (position_res s l t))) (position_L1_S1 s l t) := by
  have hE : position_L1_E s l t (position_L1_S1 s l t) := Eq.mp (position_L1_entry1 s l t) h
  unfold position_L1_E at hE
  obtain ⟨i, hE⟩ := getI_of hE
  obtain ⟨w, hE⟩ := getI_of hE
  obtain ⟨u, hE⟩ := getI_of hE
  refine loop_of (α := (Int) × (Int) × (Int)) (fun xx_ => position_L1_F s l t xx_.1 xx_.2.1 xx_.2.2) (fun xx_ => position_L1_I s l t xx_.1 xx_.2.1 xx_.2.2) (fun xx_ => position_L1_m s l t xx_.1 xx_.2.1 xx_.2.2) (fun xx_ => position_L1_N s l t xx_.1 xx_.2.1 xx_.2.2) (fun xx_ => position_L1_T s l t xx_.1 xx_.2.1 xx_.2.2) (fun xx_ s_ h => ?_) ⟨⟨i, w, u⟩, hE⟩ (fun xx_ => position_L1_tree s l t xx_.1 xx_.2.1 xx_.2.2) (fun xx_ hI => position_L1_round s l t xx_.1 xx_.2.1 xx_.2.2  hI)
  unfold position_L1_N at h
  obtain ⟨i, h⟩ := getI_of h
  obtain ⟨w, h⟩ := getI_of h
  obtain ⟨u, h⟩ := getI_of h
  exact ⟨⟨i, w, u⟩, h⟩
set_option maxRecDepth 100000 in
theorem position_tree (s : Int) (l : List (List Int)) (t : Int) : ((cnd (!(decide ((mErr s l t) = (0 : Int))))
  (((0 : Int) = (posOf s l t)) ∧ ((mErr s l t) = (mErr s l t)))
  (LoopP (ex Try.prog (conOf [fault_e]) (subC (bodyOf Try.f24) [1, 1, 1, 0, 1, 0, 0])) (kont Try.prog (conOf [fault_e]) (bodyOf Try.f24) [1, 1, 1, 0, 1, 0] (retPost Try.prog Try.f24 1 (position_res s l t))) (position_L1_S1 s l t)))) = EXD Try.prog (conOf [fault_e]) Try.f24 [.agg [.int .i64 s, .row 0], .cel (.int .i64 t)] [.recs [.int .i64, .int .i64] l] [] (position_res s l t) := by kernel_rfl
theorem position_holds (s : Int) (l : List (List Int)) (t : Int)  : (cnd (!(decide ((mErr s l t) = (0 : Int))))
  (((0 : Int) = (posOf s l t)) ∧ ((mErr s l t) = (mErr s l t)))
  (LoopP (ex Try.prog (conOf [fault_e]) (subC (bodyOf Try.f24) [1, 1, 1, 0, 1, 0, 0])) (kont Try.prog (conOf [fault_e]) (bodyOf Try.f24) [1, 1, 1, 0, 1, 0] (retPost Try.prog Try.f24 1 (position_res s l t))) (position_L1_S1 s l t))) := by
  by_cases he : mErr s l t = 0
  · have hk : mValid s l = true ∧ 0 ≤ t ∧ t ≤ 1099511627776 := by
      unfold mErr at he
      by_cases h : mValid s l = true
      · rw [if_pos h] at he
        by_cases h2 : 0 ≤ t ∧ t ≤ 1099511627776
        · exact ⟨h, h2⟩
        · rw [if_neg h2] at he; omega
      · rw [if_neg h] at he; omega
    have hv := hk.1
    simp only [mValid, Bool.and_eq_true, decide_eq_true_eq] at hv
    obtain ⟨⟨⟨v1, v2⟩, v3⟩, v4⟩ := hv
    simp only [he, decide_true, Bool.not_true, cnd]
    exact position_L1_1 s l t ⟨⟨by omega, by omega, v3, hk.2.1, by omega, hk.2.2, by omega, by omega, he, v1, v2, by simp, 0, v4⟩, by simp⟩
  · simp [he, cnd, posOf]
set_option maxHeartbeats 2000000 in
theorem position_ok : SoundEnt Try.prog position_e := by
  refine ent_of_ex (Γ := (conOf [fault_e])) (conOf_sound (scons fault_ok snil)) (by kernel_rfl) Try.func24 (by kernel_rfl) (by kernel_rfl) (fun args rows caps res h ho => ?_)
  change position_go args rows caps = some res at h
  unfold position_go at h
  split at h
  · simp only [Option.some.injEq] at h
    subst h
    rename_i q0_ q2_ q1_
    skip
    exact EX.of (position_tree q0_ q1_ q2_) (position_holds q0_ q1_ q2_)
  · cases h

def rpm (v : Int) : Int := v * 60000000 / 1509949440
def upq (a b : Int) : Int := -((-a) / b)
def frp (n : Int) : Int := upq (n * 1509949440) 60000000
def tmW : Int → Int → List (List Int) → Int × Int
  | _, _, [] => (0, 7)
  | need, t, r :: l => if r0 r * r1 r < need then tmW (need - r0 r * r1 r) (t + r0 r) l else (t + upq need (r1 r), 0)
def tmOf (s : Int) (l : List (List Int)) (p : Int) : Int × Int := if mValid s l then (if p ≤ s then (0, 0) else if posOf s l 1099511627776 < p then (0, 7) else tmW ((p - s) * 65536) 0 l) else (0, 1)
theorem way_bd : ∀ (l : List (List Int)) (e t : Int), vL e l = true → 0 ≤ t → 0 ≤ way t l ∧ way t l ≤ t * 524288
  | [], _, t, _, h => by simp only [way]; omega
  | r :: l, e, t, hv, h => by
    obtain ⟨⟨a1, a2, a3, a4⟩, a5, a6⟩ := vL_cons hv
    have ih := way_bd l (e + r0 r) (t - min t (r0 r)) a6 (by omega)
    simp only [way]
    have hm : 0 ≤ min t (r0 r) * r1 r ∧ min t (r0 r) * r1 r ≤ min t (r0 r) * 524288 := ⟨Int.mul_nonneg (by omega) a3, Int.mul_le_mul_of_nonneg_left a4 (by omega)⟩
    generalize min t (r0 r) = n at *
    omega
def mtime_res (s : Int) (l : List (List Int)) (p : Int) : CRes := ⟨[wfI .i64 p], .tup [.cel (.int .i64 ((tmOf s l p).1)), .cel (.int .i64 ((tmOf s l p).2))], []⟩
def mtime_go : List TV → List RowA → List (List CV) → Option CRes := fun args rows caps =>
  match args, rows, caps with
  | [.agg [.int .i64 s, .row 0], .cel (.int .i64 p)], [.recs [.int .i64, .int .i64] l], [] => some (mtime_res s l p)
  | _, _, _ => none
def mtime_e : Ent := ⟨109, [.recs [.int .i64, .int .i64] []], mtime_go⟩
def mtime_L1_F (s : Int) (l : List (List Int)) (p : Int) (i : Int) (nd : Int) (tt : Int) : St := ⟨71, [], [(41, (.one (.cel (.int .i64 i)))), (40, (.one (.cel (.int .i64 (((List.length l) : Nat) : Int))))), (39, (.one (.cel (.row 0)))), (9, (.one (.cel (.int .i64 tt)))), (8, (.one (.cel (.int .i64 nd)))), (5, (.one (.cel (.int .i64 (0 : Int))))), (4, (.one (.cel (.int .i64 (0 : Int)))))], [[(.int .i64 s), (.row 0)]], [⟨(.recs [.int .i64, .int .i64] l), none⟩], 0⟩
def mtime_L1_I (s : Int) (l : List (List Int)) (p : Int) (i : Int) (nd : Int) (tt : Int) : Prop := (0 ≤ i ∧ i ≤ l.length ∧ (l.length : Int) ≤ 2000 ∧ 1 ≤ nd ∧ nd ≤ 4611686018427387904 ∧ 0 ≤ tt ∧ tt ≤ 1099511627776 ∧ vL tt (l.drop i.toNat) = true ∧ tmW nd tt (l.drop i.toNat) = tmOf s l p)
def mtime_L1_m (s : Int) (l : List (List Int)) (p : Int) (i : Int) (nd : Int) (tt : Int) : Nat := (l.length - i).toNat
def mtime_L1_N (s : Int) (l : List (List Int)) (p : Int) (i' : Int) (nd' : Int) (tt' : Int) (st_ : St) : Prop := getI st_ 41 fun i => getI st_ 8 fun nd => getI st_ 9 fun tt => mtime_L1_I s l p i nd tt ∧ mtime_L1_m s l p i nd tt < mtime_L1_m s l p i' nd' tt' ∧ SubA st_ (mtime_L1_F s l p i nd tt)
def mtime_L1_E (s : Int) (l : List (List Int)) (p : Int) (st_ : St) : Prop := getI st_ 41 fun i => getI st_ 8 fun nd => getI st_ 9 fun tt => mtime_L1_I s l p i nd tt ∧ SubA st_ (mtime_L1_F s l p i nd tt)
def mtime_L1_S1 (s : Int) (l : List (List Int)) (p : Int) : St := ⟨71, [], [(41, (.one (.cel (.int .i64 (0 : Int))))), (40, (.one (.cel (.int .i64 (((List.length l) : Nat) : Int))))), (39, (.one (.cel (.row 0)))), (38, (.one (.cel (.ptr 0 1)))), (9, (.one (.cel (.int .i64 (0 : Int))))), (8, (.one (.cel (.int .i64 (Go.IntKind.wrap Go.IntKind.i64 ((Go.IntKind.wrap Go.IntKind.i64 (p - s)) * (65536 : Int))))))), (37, (.one (.cel (.int .i64 (Go.IntKind.wrap Go.IntKind.i64 ((Go.IntKind.wrap Go.IntKind.i64 (p - s)) * (65536 : Int))))))), (36, (.one (.cel (.int .i64 (Go.IntKind.wrap Go.IntKind.i64 (p - s)))))), (35, (.one (.cel (.int .i64 s)))), (34, (.one (.cel (.ptr 0 0)))), (33, (.one (.cel (.int .i64 p)))), (29, (.one (.cel (.bool (decide ((posOf s l (1099511627776 : Int)) < p)))))), (32, (.one (.cel (.bool (decide ((posOf s l (1099511627776 : Int)) < p)))))), (31, (.one (.cel (.int .i64 (posOf s l (1099511627776 : Int)))))), (30, (.one (.cel (.int .i64 p)))), (24, (.one (.cel (.bool (decide (p ≤ s)))))), (28, (.one (.cel (.bool (decide (p ≤ s)))))), (27, (.one (.cel (.int .i64 s)))), (26, (.one (.cel (.ptr 0 0)))), (25, (.one (.cel (.int .i64 p)))), (20, (.one (.cel (.bool (!(decide ((mErr s l (1099511627776 : Int)) = (0 : Int)))))))), (22, (.one (.cel (.bool (!(decide ((mErr s l (1099511627776 : Int)) = (0 : Int)))))))), (21, (.one (.cel (.int .i64 (mErr s l (1099511627776 : Int)))))), (7, (.one (.cel (.int .i64 (mErr s l (1099511627776 : Int)))))), (6, (.one (.cel (.int .i64 (posOf s l (1099511627776 : Int)))))), (19, (.one (.cel (.int .i64 (mErr s l (1099511627776 : Int)))))), (18, (.one (.cel (.int .i64 (posOf s l (1099511627776 : Int)))))), (15, (.tup [(.cel (.int .i64 (posOf s l (1099511627776 : Int)))), (.cel (.int .i64 (mErr s l (1099511627776 : Int))))])), (17, (.tup [(.cel (.int .i64 (posOf s l (1099511627776 : Int)))), (.cel (.int .i64 (mErr s l (1099511627776 : Int))))])), (16, (.one (.agg [(.int .i64 s), (.row 0)]))), (5, (.one (.cel (.int .i64 (0 : Int))))), (4, (.one (.cel (.int .i64 (0 : Int))))), (2, (.one (.cel (.ptr 0 0)))), (0, (.one (.agg [(.int .i64 s), (.row 0)]))), (1, (.one (.cel (.int .i64 p))))], [[(.int .i64 s), (.row 0)]], [⟨(.recs [.int .i64, .int .i64] l), none⟩], 0⟩
def mtime_L1_T (s : Int) (l : List (List Int)) (p : Int) (i : Int) (nd : Int) (tt : Int) : Prop := (cnd (decide (i < (((List.length l) : Nat) : Int)))
  (cnd (decide ((0 : Int) ≤ i))
    (cnd (decide (i < (((List.length l) : Nat) : Int)))
      (cnd (decide ((Go.IntKind.wrap Go.IntKind.i64 ((List.getD (List.getD l (Int.toNat i) ([] : List Int)) 0 (0 : Int)) * (List.getD (List.getD l (Int.toNat i) ([] : List Int)) (0 + 1) (0 : Int)))) < nd))
        ((mtime_L1_I s l p (Go.IntKind.wrap Go.IntKind.i64 (i + (1 : Int))) (Go.IntKind.wrap Go.IntKind.i64 (nd - (Go.IntKind.wrap Go.IntKind.i64 ((List.getD (List.getD l (Int.toNat i) ([] : List Int)) 0 (0 : Int)) * (List.getD (List.getD l (Int.toNat i) ([] : List Int)) (0 + 1) (0 : Int)))))) (Go.IntKind.wrap Go.IntKind.i64 (tt + (List.getD (List.getD l (Int.toNat i) ([] : List Int)) 0 (0 : Int))))) ∧ (((mtime_L1_m s l p (Go.IntKind.wrap Go.IntKind.i64 (i + (1 : Int))) (Go.IntKind.wrap Go.IntKind.i64 (nd - (Go.IntKind.wrap Go.IntKind.i64 ((List.getD (List.getD l (Int.toNat i) ([] : List Int)) 0 (0 : Int)) * (List.getD (List.getD l (Int.toNat i) ([] : List Int)) (0 + 1) (0 : Int)))))) (Go.IntKind.wrap Go.IntKind.i64 (tt + (List.getD (List.getD l (Int.toNat i) ([] : List Int)) 0 (0 : Int))))) < (mtime_L1_m s l p i nd tt)) ∧ (((Go.IntKind.wrap Go.IntKind.i64 (i + (1 : Int))) = (Go.IntKind.wrap Go.IntKind.i64 (i + (1 : Int)))) ∧ (((((List.length l) : Nat) : Int) = (((List.length l) : Nat) : Int)) ∧ (True ∧ (((Go.IntKind.wrap Go.IntKind.i64 (tt + (List.getD (List.getD l (Int.toNat i) ([] : List Int)) 0 (0 : Int)))) = (Go.IntKind.wrap Go.IntKind.i64 (tt + (List.getD (List.getD l (Int.toNat i) ([] : List Int)) 0 (0 : Int))))) ∧ (((Go.IntKind.wrap Go.IntKind.i64 (nd - (Go.IntKind.wrap Go.IntKind.i64 ((List.getD (List.getD l (Int.toNat i) ([] : List Int)) 0 (0 : Int)) * (List.getD (List.getD l (Int.toNat i) ([] : List Int)) (0 + 1) (0 : Int)))))) = (Go.IntKind.wrap Go.IntKind.i64 (nd - (Go.IntKind.wrap Go.IntKind.i64 ((List.getD (List.getD l (Int.toNat i) ([] : List Int)) 0 (0 : Int)) * (List.getD (List.getD l (Int.toNat i) ([] : List Int)) (0 + 1) (0 : Int))))))) ∧ (((0 : Int) = (0 : Int)) ∧ (((0 : Int) = (0 : Int)) ∧ (((s = s) ∧ True) ∧ ((l = l) ∧ True)))))))))))
        (cnd (inBig nd)
          (cnd (decide ((1 : Int) ≤ (List.getD (List.getD l (Int.toNat i) ([] : List Int)) (0 + 1) (0 : Int))))
            (cnd (inBig (List.getD (List.getD l (Int.toNat i) ([] : List Int)) (0 + 1) (0 : Int)))
              (((Go.IntKind.wrap Go.IntKind.i64 (tt + (rdiv nd (List.getD (List.getD l (Int.toNat i) ([] : List Int)) (0 + 1) (0 : Int)) (2 : Int)))) = (Prod.fst (tmOf s l p))) ∧ ((0 : Int) = (Prod.snd (tmOf s l p))))
              False)
            False)
          False))
      False)
    False)
  (((0 : Int) = (Prod.fst (tmOf s l p))) ∧ ((7 : Int) = (Prod.snd (tmOf s l p)))))
set_option maxRecDepth 100000 in
theorem mtime_L1_tree (s : Int) (l : List (List Int)) (p : Int) (i : Int) (nd : Int) (tt : Int) : mtime_L1_T s l p i nd tt = ex Try.prog (conOf [position_e, div_e]) (subC (bodyOf Try.f109) [1, 1, 1, 1, 0, 1, 0, 0]) (nextE (mtime_L1_N s l p i nd tt) (kont Try.prog (conOf [position_e, div_e]) (bodyOf Try.f109) [1, 1, 1, 1, 0, 1, 0] (retPost Try.prog Try.f109 1 (mtime_res s l p)))) (mtime_L1_F s l p i nd tt) := by kernel_rfl
set_option maxRecDepth 100000 in
theorem mtime_L1_round (s : Int) (l : List (List Int)) (p : Int) (i : Int) (nd : Int) (tt : Int) (p0 : wfI .i64 p = true) (hI_L1 : mtime_L1_I s l p i nd tt) : mtime_L1_T s l p i nd tt := by
  obtain ⟨i0, i1, i2, n0, n1, t0, t1, hv, hw⟩ := hI_L1
  unfold mtime_L1_T
  by_cases hi : i < l.length
  · have hd := drop_consR (l := l) (i := i) i0 hi
    rw [hd] at hv hw
    simp only [hi, i0, decide_true, cnd]
    change cnd (decide (IntKind.i64.wrap (r0 (l.getD i.toNat []) * r1 (l.getD i.toNat [])) < nd))
      (mtime_L1_I s l p (IntKind.i64.wrap (i + 1)) (IntKind.i64.wrap (nd - IntKind.i64.wrap (r0 (l.getD i.toNat []) * r1 (l.getD i.toNat [])))) (IntKind.i64.wrap (tt + r0 (l.getD i.toNat []))) ∧ _)
      (cnd (inBig nd) (cnd (decide (1 ≤ r1 (l.getD i.toNat []))) (cnd (inBig (r1 (l.getD i.toNat []))) ((IntKind.i64.wrap (tt + rdiv nd (r1 (l.getD i.toNat [])) 2) = (tmOf s l p).1) ∧ ((0 : Int) = (tmOf s l p).2)) False) False) False)
    generalize l.getD i.toNat [] = r at *
    obtain ⟨⟨a1, a2, a3, a4⟩, a5, a6⟩ := vL_cons hv
    have hm : 0 ≤ r0 r * r1 r ∧ r0 r * r1 r ≤ 1099511627776 * 524288 := ⟨Int.mul_nonneg (by omega) a3, Int.mul_le_mul a2 a4 a3 (by omega)⟩
    simp only [tmW] at hw
    rw [w64 (n := r0 r * r1 r) (by omega) (by omega)]
    by_cases hc : r0 r * r1 r < nd
    · rw [if_pos hc] at hw
      rw [w64 (n := i + 1) (by omega) (by omega), w64 (n := nd - r0 r * r1 r) (by omega) (by omega), w64 (n := tt + r0 r) (by omega) (by omega)]
      have j : decide (r0 r * r1 r < nd) = true := by simpa using hc
      rw [j]
      have e1 : (i + 1).toNat = i.toNat + 1 := by omega
      refine ⟨⟨by omega, by omega, i2, by omega, by omega, by omega, a5, by rw [e1]; exact a6, by rw [e1]; exact hw⟩, ?_, by simp⟩
      unfold mtime_L1_m
      omega
    · rw [if_neg hc] at hw
      have j : decide (r0 r * r1 r < nd) = false := by simpa using hc
      have hr1 : 1 ≤ r1 r := by
        by_cases h0 : r1 r = 0
        · rw [h0] at hc; omega
        · omega
      have hb1 : inBig nd = true := inBig_iff.2 (by omega)
      have hb2 : inBig (r1 r) = true := inBig_iff.2 (by omega)
      have j2 : decide (1 ≤ r1 r) = true := by simpa using hr1
      have hrd : rdiv nd (r1 r) 2 = upq nd (r1 r) := by unfold rdiv upq; simp
      have hu : 0 ≤ upq nd (r1 r) ∧ upq nd (r1 r) ≤ nd := by
        unfold upq
        rw [neg_quo nd (r1 r) hr1]
        have h2 := quo_pos (x := nd) (y := r1 r) (by omega) hr1
        have h3 := Int.emod_add_mul_ediv nd (r1 r)
        have h4 : nd / r1 r ≤ r1 r * (nd / r1 r) := by
          have := Int.mul_le_mul_of_nonneg_right hr1 h2.1
          omega
        split <;> omega
      rw [j, hb1, hb2, j2, hrd, w64 (n := tt + upq nd (r1 r)) (by omega) (by omega), ← hw]
      exact ⟨rfl, rfl⟩
  · simp only [hi, decide_false, cnd]
    have e : l.drop i.toNat = [] := List.drop_eq_nil_of_le (by omega)
    rw [e] at hw
    rw [← hw]
    exact ⟨rfl, rfl⟩
set_option maxRecDepth 100000 in
theorem mtime_L1_entry1 (s : Int) (l : List (List Int)) (p : Int) : (((mtime_L1_I s l p (0 : Int) (Go.IntKind.wrap Go.IntKind.i64 ((Go.IntKind.wrap Go.IntKind.i64 (p - s)) * (65536 : Int))) (0 : Int)) ∧ (((0 : Int) = (0 : Int)) ∧ (((((List.length l) : Nat) : Int) = (((List.length l) : Nat) : Int)) ∧ (True ∧ (((0 : Int) = (0 : Int)) ∧ (((Go.IntKind.wrap Go.IntKind.i64 ((Go.IntKind.wrap Go.IntKind.i64 (p - s)) * (65536 : Int))) = (Go.IntKind.wrap Go.IntKind.i64 ((Go.IntKind.wrap Go.IntKind.i64 (p - s)) * (65536 : Int)))) ∧ (((0 : Int) = (0 : Int)) ∧ (((0 : Int) = (0 : Int)) ∧ (((s = s) ∧ True) ∧ ((l = l) ∧ True))))))))))) = mtime_L1_E s l p (mtime_L1_S1 s l p) := by kernel_rfl
theorem mtime_L1_1 (s : Int) (l : List (List Int)) (p : Int) (p0 : wfI .i64 p = true) (h : ((mtime_L1_I s l p (0 : Int) (Go.IntKind.wrap Go.IntKind.i64 ((Go.IntKind.wrap Go.IntKind.i64 (p - s)) * (65536 : Int))) (0 : Int)) ∧ (((0 : Int) = (0 : Int)) ∧ (((((List.length l) : Nat) : Int) = (((List.length l) : Nat) : Int)) ∧ (True ∧ (((0 : Int) = (0 : Int)) ∧ (((Go.IntKind.wrap Go.IntKind.i64 ((Go.IntKind.wrap Go.IntKind.i64 (p - s)) * (65536 : Int))) = (Go.IntKind.wrap Go.IntKind.i64 ((Go.IntKind.wrap Go.IntKind.i64 (p - s)) * (65536 : Int)))) ∧ (((0 : Int) = (0 : Int)) ∧ (((0 : Int) = (0 : Int)) ∧ (((s = s) ∧ True) ∧ ((l = l) ∧ True))))))))))) : LoopP (ex Try.prog (conOf [position_e, div_e]) (subC (bodyOf Try.f109) [1, 1, 1, 1, 0, 1, 0, 0])) (kont Try.prog (conOf [position_e, div_e]) (bodyOf Try.f109) [1, 1, 1, 1, 0, 1, 0] (retPost Try.prog Try.f109 1 (mtime_res s l p))) (mtime_L1_S1 s l p) := by
  have hE : mtime_L1_E s l p (mtime_L1_S1 s l p) := Eq.mp (mtime_L1_entry1 s l p) h
  unfold mtime_L1_E at hE
  obtain ⟨i, hE⟩ := getI_of hE
  obtain ⟨nd, hE⟩ := getI_of hE
  obtain ⟨tt, hE⟩ := getI_of hE
  refine loop_of (α := (Int) × (Int) × (Int)) (fun xx_ => mtime_L1_F s l p xx_.1 xx_.2.1 xx_.2.2) (fun xx_ => mtime_L1_I s l p xx_.1 xx_.2.1 xx_.2.2) (fun xx_ => mtime_L1_m s l p xx_.1 xx_.2.1 xx_.2.2) (fun xx_ => mtime_L1_N s l p xx_.1 xx_.2.1 xx_.2.2) (fun xx_ => mtime_L1_T s l p xx_.1 xx_.2.1 xx_.2.2) (fun xx_ s_ h => ?_) ⟨⟨i, nd, tt⟩, hE⟩ (fun xx_ => mtime_L1_tree s l p xx_.1 xx_.2.1 xx_.2.2) (fun xx_ hI => mtime_L1_round s l p xx_.1 xx_.2.1 xx_.2.2 p0 hI)
  unfold mtime_L1_N at h
  obtain ⟨i, h⟩ := getI_of h
  obtain ⟨nd, h⟩ := getI_of h
  obtain ⟨tt, h⟩ := getI_of h
  exact ⟨⟨i, nd, tt⟩, h⟩
set_option maxRecDepth 100000 in
theorem mtime_tree (s : Int) (l : List (List Int)) (p : Int) : ((cnd (!(decide ((mErr s l (1099511627776 : Int)) = (0 : Int))))
  (((0 : Int) = (Prod.fst (tmOf s l p))) ∧ ((mErr s l (1099511627776 : Int)) = (Prod.snd (tmOf s l p))))
  (cnd (decide (p ≤ s))
    (((0 : Int) = (Prod.fst (tmOf s l p))) ∧ ((0 : Int) = (Prod.snd (tmOf s l p))))
    (cnd (decide ((posOf s l (1099511627776 : Int)) < p))
      (((0 : Int) = (Prod.fst (tmOf s l p))) ∧ ((7 : Int) = (Prod.snd (tmOf s l p))))
      (LoopP (ex Try.prog (conOf [position_e, div_e]) (subC (bodyOf Try.f109) [1, 1, 1, 1, 0, 1, 0, 0])) (kont Try.prog (conOf [position_e, div_e]) (bodyOf Try.f109) [1, 1, 1, 1, 0, 1, 0] (retPost Try.prog Try.f109 1 (mtime_res s l p))) (mtime_L1_S1 s l p)))))) = EXD Try.prog (conOf [position_e, div_e]) Try.f109 [.agg [.int .i64 s, .row 0], .cel (.int .i64 p)] [.recs [.int .i64, .int .i64] l] [] (mtime_res s l p) := by kernel_rfl
theorem mtime_holds (s : Int) (l : List (List Int)) (p : Int) (p0 : wfI .i64 p = true) : (cnd (!(decide ((mErr s l (1099511627776 : Int)) = (0 : Int))))
  (((0 : Int) = (Prod.fst (tmOf s l p))) ∧ ((mErr s l (1099511627776 : Int)) = (Prod.snd (tmOf s l p))))
  (cnd (decide (p ≤ s))
    (((0 : Int) = (Prod.fst (tmOf s l p))) ∧ ((0 : Int) = (Prod.snd (tmOf s l p))))
    (cnd (decide ((posOf s l (1099511627776 : Int)) < p))
      (((0 : Int) = (Prod.fst (tmOf s l p))) ∧ ((7 : Int) = (Prod.snd (tmOf s l p))))
      (LoopP (ex Try.prog (conOf [position_e, div_e]) (subC (bodyOf Try.f109) [1, 1, 1, 1, 0, 1, 0, 0])) (kont Try.prog (conOf [position_e, div_e]) (bodyOf Try.f109) [1, 1, 1, 1, 0, 1, 0] (retPost Try.prog Try.f109 1 (mtime_res s l p))) (mtime_L1_S1 s l p))))) := by
  have hp := wfI64.1 p0
  by_cases hv : mValid s l = true
  · have he : mErr s l 1099511627776 = 0 := by simp [mErr, hv]
    have hk := hv
    simp only [mValid, Bool.and_eq_true, decide_eq_true_eq] at hk
    obtain ⟨⟨⟨v1, v2⟩, v3⟩, v4⟩ := hk
    simp only [he, decide_true, Bool.not_true, cnd]
    by_cases h1 : p ≤ s
    · simp [h1, tmOf, hv]
    · have hwb := way_bd l 0 1099511627776 v4 (by omega)
      have hpo : posOf s l 1099511627776 = s + way 1099511627776 l / 65536 := by unfold posOf; rw [if_pos he]
      by_cases h2 : posOf s l 1099511627776 < p
      · simp [h1, h2, tmOf, hv]
      · simp only [h1, h2, decide_false]
        rw [hpo] at h2
        refine mtime_L1_1 s l p p0 ⟨?_, by simp⟩
        rw [w64 (n := p - s) (by omega) (by omega), w64 (n := (p - s) * 65536) (by omega) (by omega)]
        refine ⟨by omega, by omega, v3, by omega, by omega, by omega, by omega, by simpa using v4, ?_⟩
        unfold tmOf
        rw [if_pos hv, if_neg h1, if_neg (by rw [hpo]; exact h2)]
        simp
  · have he : mErr s l 1099511627776 = 1 := by simp [mErr, hv]
    simp [he, tmOf, hv, cnd]
set_option maxHeartbeats 2000000 in
theorem mtime_ok : SoundEnt Try.prog mtime_e := by
  refine ent_of_ex (Γ := (conOf [position_e, div_e])) (conOf_sound (scons position_ok (scons div_ok snil))) (by kernel_rfl) Try.func109 (by kernel_rfl) (by kernel_rfl) (fun args rows caps res h ho => ?_)
  change mtime_go args rows caps = some res at h
  unfold mtime_go at h
  split at h
  · simp only [Option.some.injEq] at h
    subst h
    rename_i q0_ q2_ q1_
    obtain ⟨p0, _⟩ := ho
    exact EX.of (mtime_tree q0_ q1_ q2_) (mtime_holds q0_ q1_ q2_ p0)
  · cases h
end Go.Proofs.Ythfliohfkhnpiaa

