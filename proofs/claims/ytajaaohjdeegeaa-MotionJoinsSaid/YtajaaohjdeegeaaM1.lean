/- Motions: valid ones, positions, times. -/
import Derived.Test.YtajaaohjdeegeaaRf
import Derived.Test.YtajaaohjdeegeaaOr
namespace Go.Proofs.Ytajaaohjdeegeaa
set_option linter.unusedVariables false
set_option linter.unusedSimpArgs false
open Go.RowKit

def r0 (r : List Int) : Int := r.getD 0 0
def r1 (r : List Int) : Int := r.getD 1 0
def MT : Int := 1099511627776
def vRun (r : List Int) : Bool := decide (1 ≤ r0 r) && decide (r0 r ≤ 1099511627776) && decide (0 ≤ r1 r) && decide (r1 r ≤ 524288)
def vL : Int → List (List Int) → Bool
  | _, [] => true
  | e, r :: l => vRun r && decide (e + r0 r ≤ 1099511627776) && vL (e + r0 r) l
def mValid (s : Int) (l : List (List Int)) : Bool := decide (0 ≤ s) && decide (s < 46080) && decide ((l.length : Int) ≤ 2000) && vL 0 l
def mErr (s : Int) (l : List (List Int)) (t : Int) : Int := if mValid s l then (if 0 ≤ t ∧ t ≤ 1099511627776 then 0 else 2) else 1
def way : Int → List (List Int) → Int
  | _, [] => 0
  | t, r :: l => min t (r0 r) * r1 r + way (t - min t (r0 r)) l
def posOf (s : Int) (l : List (List Int)) (t : Int) : Int := if mErr s l t = 0 then s + way t l / 65536 else 0
theorem drop_consR {l : List (List Int)} {i : Int} (h0 : 0 ≤ i) (h1 : i < l.length) : l.drop i.toNat = l.getD i.toNat [] :: l.drop (i.toNat + 1) := by
  have h : i.toNat < l.length := by omega
  rw [List.drop_eq_getElem_cons h, List.getD_eq_getElem?_getD, List.getElem?_eq_getElem h]
  rfl
def valid_res (s : Int) (l : List (List Int)) : CRes := ⟨[], .one (.cel (.bool (mValid s l))), []⟩
def valid_go : List TV → List RowA → List (List CV) → Option CRes := fun args rows caps =>
  match args, rows, caps with
  | [.agg [.int .i64 s, .row 0]], [.recs [.int .i64, .int .i64] l], [] => some (valid_res s l)
  | _, _, _ => none
def valid_e : Ent := ⟨20, [.recs [.int .i64, .int .i64] []], valid_go⟩
def valid_L1_F (s : Int) (l : List (List Int)) (i : Int) (en : Int) : St := ⟨52, [], [(23, (.one (.cel (.int .i64 i)))), (22, (.one (.cel (.int .i64 (((List.length l) : Nat) : Int))))), (21, (.one (.cel (.row 0)))), (3, (.one (.cel (.int .i64 en)))), (2, (.one (.cel (.bool Bool.false))))], [[(.int .i64 s), (.row 0)]], [⟨(.recs [.int .i64, .int .i64] l), none⟩], 0⟩
def valid_L1_I (s : Int) (l : List (List Int)) (i : Int) (en : Int) : Prop := (0 ≤ i ∧ i ≤ l.length ∧ (l.length : Int) ≤ 2000 ∧ 0 ≤ s ∧ s < 46080 ∧ 0 ≤ en ∧ en ≤ 1099511627776 ∧ vL en (l.drop i.toNat) = vL 0 l)
def valid_L1_m (s : Int) (l : List (List Int)) (i : Int) (en : Int) : Nat := (l.length - i).toNat
def valid_L1_N (s : Int) (l : List (List Int)) (i' : Int) (en' : Int) (st_ : St) : Prop := getI st_ 23 fun i => getI st_ 3 fun en => valid_L1_I s l i en ∧ valid_L1_m s l i en < valid_L1_m s l i' en' ∧ SubA st_ (valid_L1_F s l i en)
def valid_L1_E (s : Int) (l : List (List Int)) (st_ : St) : Prop := getI st_ 23 fun i => getI st_ 3 fun en => valid_L1_I s l i en ∧ SubA st_ (valid_L1_F s l i en)
def valid_L1_S1 (s : Int) (l : List (List Int)) : St := ⟨52, [14, 9], [(23, (.one (.cel (.int .i64 (0 : Int))))), (22, (.one (.cel (.int .i64 (((List.length l) : Nat) : Int))))), (21, (.one (.cel (.row 0)))), (20, (.one (.cel (.ptr 0 1)))), (3, (.one (.cel (.int .i64 (0 : Int))))), (19, (.one (.cel (.bool (((decide (s < (0 : Int))) || (decide ((46080 : Int) ≤ s))) || (decide ((2000 : Int) < (((List.length l) : Nat) : Int)))))))), (18, (.spec 14 Bool.false (.cel (.bool (decide ((2000 : Int) < (((List.length l) : Nat) : Int))))))), (17, (.spec 14 Bool.false (.cel (.int .i64 (((List.length l) : Nat) : Int))))), (16, (.spec 14 Bool.false (.cel (.row 0)))), (15, (.spec 14 Bool.false (.cel (.ptr 0 1)))), (14, (.one (.cel (.bool ((decide (s < (0 : Int))) || (decide ((46080 : Int) ≤ s))))))), (13, (.one (.cel (.bool ((decide (s < (0 : Int))) || (decide ((46080 : Int) ≤ s))))))), (12, (.spec 9 Bool.false (.cel (.bool (decide ((46080 : Int) ≤ s)))))), (11, (.spec 9 Bool.false (.cel (.int .i64 s)))), (10, (.spec 9 Bool.false (.cel (.ptr 0 0)))), (9, (.one (.cel (.bool (decide (s < (0 : Int))))))), (8, (.one (.cel (.bool (decide (s < (0 : Int))))))), (7, (.one (.cel (.int .i64 s)))), (6, (.one (.cel (.ptr 0 0)))), (2, (.one (.cel (.bool Bool.false)))), (1, (.one (.cel (.ptr 0 0)))), (0, (.one (.agg [(.int .i64 s), (.row 0)])))], [[(.int .i64 s), (.row 0)]], [⟨(.recs [.int .i64, .int .i64] l), none⟩], 0⟩
def valid_L1_T (s : Int) (l : List (List Int)) (i : Int) (en : Int) : Prop := (cnd (decide (i < (((List.length l) : Nat) : Int)))
  (cnd (decide ((0 : Int) ≤ i))
    (cnd (decide (i < (((List.length l) : Nat) : Int)))
      (cnd ((((decide ((List.getD (List.getD l (Int.toNat i) ([] : List Int)) 0 (0 : Int)) < (1 : Int))) || (decide ((1099511627776 : Int) < (List.getD (List.getD l (Int.toNat i) ([] : List Int)) 0 (0 : Int))))) || (decide ((List.getD (List.getD l (Int.toNat i) ([] : List Int)) (0 + 1) (0 : Int)) < (0 : Int)))) || (decide ((524288 : Int) < (List.getD (List.getD l (Int.toNat i) ([] : List Int)) (0 + 1) (0 : Int)))))
        (Bool.false = (mValid s l))
        (cnd (decide ((1099511627776 : Int) < (Go.IntKind.wrap Go.IntKind.i64 (en + (List.getD (List.getD l (Int.toNat i) ([] : List Int)) 0 (0 : Int))))))
          (Bool.false = (mValid s l))
          ((valid_L1_I s l (Go.IntKind.wrap Go.IntKind.i64 (i + (1 : Int))) (Go.IntKind.wrap Go.IntKind.i64 (en + (List.getD (List.getD l (Int.toNat i) ([] : List Int)) 0 (0 : Int))))) ∧ (((valid_L1_m s l (Go.IntKind.wrap Go.IntKind.i64 (i + (1 : Int))) (Go.IntKind.wrap Go.IntKind.i64 (en + (List.getD (List.getD l (Int.toNat i) ([] : List Int)) 0 (0 : Int))))) < (valid_L1_m s l i en)) ∧ (((Go.IntKind.wrap Go.IntKind.i64 (i + (1 : Int))) = (Go.IntKind.wrap Go.IntKind.i64 (i + (1 : Int)))) ∧ (((((List.length l) : Nat) : Int) = (((List.length l) : Nat) : Int)) ∧ (True ∧ (((Go.IntKind.wrap Go.IntKind.i64 (en + (List.getD (List.getD l (Int.toNat i) ([] : List Int)) 0 (0 : Int)))) = (Go.IntKind.wrap Go.IntKind.i64 (en + (List.getD (List.getD l (Int.toNat i) ([] : List Int)) 0 (0 : Int))))) ∧ ((Bool.false = Bool.false) ∧ (((s = s) ∧ True) ∧ ((l = l) ∧ True)))))))))))
      False)
    False)
  (Bool.true = (mValid s l)))
set_option maxRecDepth 100000 in
theorem valid_L1_tree (s : Int) (l : List (List Int)) (i : Int) (en : Int) : valid_L1_T s l i en = ex Try.prog (conOf []) (subC (bodyOf Try.f20) [1, 1, 1, 0, 1, 0, 0]) (nextE (valid_L1_N s l i en) (kont Try.prog (conOf []) (bodyOf Try.f20) [1, 1, 1, 0, 1, 0] (retPost Try.prog Try.f20 1 (valid_res s l)))) (valid_L1_F s l i en) := by kernel_rfl
set_option maxRecDepth 100000 in
theorem valid_L1_round (s : Int) (l : List (List Int)) (i : Int) (en : Int)  (hI_L1 : valid_L1_I s l i en) : valid_L1_T s l i en := by
  obtain ⟨i0, i1, i2, s0, s1, e0, e1, hv⟩ := hI_L1
  unfold valid_L1_T
  by_cases hi : i < l.length
  · have hd := drop_consR (l := l) (i := i) i0 hi
    rw [hd] at hv
    simp only [hi, i0, decide_true, cnd]
    change cnd ((((decide (r0 (l.getD i.toNat []) < 1)) || (decide (1099511627776 < r0 (l.getD i.toNat [])))) || (decide (r1 (l.getD i.toNat []) < 0))) || (decide (524288 < r1 (l.getD i.toNat [])))) _ (cnd (decide (1099511627776 < IntKind.i64.wrap (en + r0 (l.getD i.toNat [])))) _ (valid_L1_I s l (IntKind.i64.wrap (i + 1)) (IntKind.i64.wrap (en + r0 (l.getD i.toNat []))) ∧ _))
    generalize l.getD i.toNat [] = r at *
    have hmv : mValid s l = vL 0 l := by simp [mValid, s0, s1, i2]
    rw [hmv, ← hv]
    simp only [vL]
    by_cases hr : vRun r = true
    · have hr2 := hr
      simp only [vRun, Bool.and_eq_true, decide_eq_true_eq] at hr2
      have j : ((((decide (r0 r < 1)) || (decide (1099511627776 < r0 r))) || (decide (r1 r < 0))) || (decide (524288 < r1 r))) = false := by simp; omega
      rw [j, w64 (n := en + r0 r) (by omega) (by omega), w64 (n := i + 1) (by omega) (by omega)]
      simp only [hr, Bool.true_and, cnd]
      by_cases hm : en + r0 r ≤ 1099511627776
      · have j2 : decide (1099511627776 < en + r0 r) = false := by simp; omega
        rw [j2]
        refine ⟨⟨by omega, by omega, i2, s0, s1, by omega, hm, ?_⟩, ?_, by simp⟩
        · have e : (i + 1).toNat = i.toNat + 1 := by omega
          rw [e, ← hv]
          simp [vL, hr, hm]
        · unfold valid_L1_m
          omega
      · have j2 : decide (1099511627776 < en + r0 r) = true := by simp; omega
        simp [j2, hm]
    · have hr1 : vRun r = false := by simpa using hr
      have j : ((((decide (r0 r < 1)) || (decide (1099511627776 < r0 r))) || (decide (r1 r < 0))) || (decide (524288 < r1 r))) = true := by
        simp only [vRun, Bool.and_eq_true, decide_eq_true_eq] at hr
        simp; omega
      rw [j, hr1]
      simp [cnd]
  · simp only [hi, decide_false, cnd]
    have e : l.drop i.toNat = [] := List.drop_eq_nil_of_le (by omega)
    rw [e] at hv
    simp [mValid, s0, s1, i2, ← hv, vL]
set_option maxRecDepth 100000 in
theorem valid_L1_entry1 (s : Int) (l : List (List Int)) : (((valid_L1_I s l (0 : Int) (0 : Int)) ∧ (((0 : Int) = (0 : Int)) ∧ (((((List.length l) : Nat) : Int) = (((List.length l) : Nat) : Int)) ∧ (True ∧ (((0 : Int) = (0 : Int)) ∧ ((Bool.false = Bool.false) ∧ (((s = s) ∧ True) ∧ ((l = l) ∧ True))))))))) = valid_L1_E s l (valid_L1_S1 s l) := by kernel_rfl
theorem valid_L1_1 (s : Int) (l : List (List Int))  (h : ((valid_L1_I s l (0 : Int) (0 : Int)) ∧ (((0 : Int) = (0 : Int)) ∧ (((((List.length l) : Nat) : Int) = (((List.length l) : Nat) : Int)) ∧ (True ∧ (((0 : Int) = (0 : Int)) ∧ ((Bool.false = Bool.false) ∧ (((s = s) ∧ True) ∧ ((l = l) ∧ True))))))))) : LoopP (ex Try.prog (conOf []) (subC (bodyOf Try.f20) [1, 1, 1, 0, 1, 0, 0])) (kont Try.prog (conOf []) (bodyOf Try.f20) [1, 1, 1, 0, 1, 0] (retPost Try.prog Try.f20 1 (valid_res s l))) (valid_L1_S1 s l) := by
  have hE : valid_L1_E s l (valid_L1_S1 s l) := Eq.mp (valid_L1_entry1 s l) h
  unfold valid_L1_E at hE
  obtain ⟨i, hE⟩ := getI_of hE
  obtain ⟨en, hE⟩ := getI_of hE
  refine loop_of (α := (Int) × (Int)) (fun xx_ => valid_L1_F s l xx_.1 xx_.2) (fun xx_ => valid_L1_I s l xx_.1 xx_.2) (fun xx_ => valid_L1_m s l xx_.1 xx_.2) (fun xx_ => valid_L1_N s l xx_.1 xx_.2) (fun xx_ => valid_L1_T s l xx_.1 xx_.2) (fun xx_ s_ h => ?_) ⟨⟨i, en⟩, hE⟩ (fun xx_ => valid_L1_tree s l xx_.1 xx_.2) (fun xx_ hI => valid_L1_round s l xx_.1 xx_.2  hI)
  unfold valid_L1_N at h
  obtain ⟨i, h⟩ := getI_of h
  obtain ⟨en, h⟩ := getI_of h
  exact ⟨⟨i, en⟩, h⟩
set_option maxRecDepth 100000 in
theorem valid_tree (s : Int) (l : List (List Int)) : ((cnd (((decide (s < (0 : Int))) || (decide ((46080 : Int) ≤ s))) || (decide ((2000 : Int) < (((List.length l) : Nat) : Int))))
  (Bool.false = (mValid s l))
  (LoopP (ex Try.prog (conOf []) (subC (bodyOf Try.f20) [1, 1, 1, 0, 1, 0, 0])) (kont Try.prog (conOf []) (bodyOf Try.f20) [1, 1, 1, 0, 1, 0] (retPost Try.prog Try.f20 1 (valid_res s l))) (valid_L1_S1 s l)))) = EXD Try.prog (conOf []) Try.f20 [.agg [.int .i64 s, .row 0]] [.recs [.int .i64, .int .i64] l] [] (valid_res s l) := by kernel_rfl
theorem valid_holds (s : Int) (l : List (List Int))  : (cnd (((decide (s < (0 : Int))) || (decide ((46080 : Int) ≤ s))) || (decide ((2000 : Int) < (((List.length l) : Nat) : Int))))
  (Bool.false = (mValid s l))
  (LoopP (ex Try.prog (conOf []) (subC (bodyOf Try.f20) [1, 1, 1, 0, 1, 0, 0])) (kont Try.prog (conOf []) (bodyOf Try.f20) [1, 1, 1, 0, 1, 0] (retPost Try.prog Try.f20 1 (valid_res s l))) (valid_L1_S1 s l))) := by
  by_cases h : 0 ≤ s ∧ s < 46080 ∧ (l.length : Int) ≤ 2000
  · have j : ((decide (s < 0) || decide (46080 ≤ s)) || decide ((2000 : Int) < (l.length : Int))) = false := by simp; omega
    rw [j]
    simp only [cnd]
    exact valid_L1_1 s l ⟨⟨by omega, by omega, h.2.2, h.1, h.2.1, by omega, by omega, rfl⟩, by simp⟩
  · have j : ((decide (s < 0) || decide (46080 ≤ s)) || decide ((2000 : Int) < (l.length : Int))) = true := by simp; omega
    rw [j]
    simp only [cnd]
    symm
    simp [mValid]
    omega
set_option maxHeartbeats 2000000 in
theorem valid_ok : SoundEnt Try.prog valid_e := by
  refine ent_of_ex (Γ := (conOf [])) (conOf_sound snil) (by kernel_rfl) Try.func20 (by kernel_rfl) (by kernel_rfl) (fun args rows caps res h ho => ?_)
  change valid_go args rows caps = some res at h
  unfold valid_go at h
  split at h
  · simp only [Option.some.injEq] at h
    subst h
    rename_i q0_ q1_
    skip
    exact EX.of (valid_tree q0_ q1_) (valid_holds q0_ q1_)
  · cases h
def fault_res (s : Int) (l : List (List Int)) (t : Int) : CRes := ⟨[], .one (.cel (.int .i64 (mErr s l t))), []⟩
def fault_go : List TV → List RowA → List (List CV) → Option CRes := fun args rows caps =>
  match args, rows, caps with
  | [.agg [.int .i64 s, .row 0], .cel (.int .i64 t)], [.recs [.int .i64, .int .i64] l], [] => some (fault_res s l t)
  | _, _, _ => none
def fault_e : Ent := ⟨32, [.recs [.int .i64, .int .i64] []], fault_go⟩
set_option maxRecDepth 100000 in
theorem fault_tree (s : Int) (l : List (List Int)) (t : Int) : ((cnd (!(mValid s l))
  ((1 : Int) = (mErr s l t))
  (cnd ((decide (t < (0 : Int))) || (decide ((1099511627776 : Int) < t)))
    ((2 : Int) = (mErr s l t))
    ((0 : Int) = (mErr s l t))))) = EXD Try.prog (conOf [valid_e]) Try.f32 [.agg [.int .i64 s, .row 0], .cel (.int .i64 t)] [.recs [.int .i64, .int .i64] l] [] (fault_res s l t) := by kernel_rfl
theorem fault_holds (s : Int) (l : List (List Int)) (t : Int)  : (cnd (!(mValid s l))
  ((1 : Int) = (mErr s l t))
  (cnd ((decide (t < (0 : Int))) || (decide ((1099511627776 : Int) < t)))
    ((2 : Int) = (mErr s l t))
    ((0 : Int) = (mErr s l t)))) := by
  unfold mErr
  (repeat' (first | with_reducible rfl | trivial | (refine cnd_i (fun h => ?_) (fun h => ?_)) | (refine And.intro ?_ ?_) | (intro h)))
  all_goals (simp_all)
  all_goals (try omega)
set_option maxHeartbeats 2000000 in
theorem fault_ok : SoundEnt Try.prog fault_e := by
  refine ent_of_ex (Γ := (conOf [valid_e])) (conOf_sound (scons valid_ok snil)) (by kernel_rfl) Try.func32 (by kernel_rfl) (by kernel_rfl) (fun args rows caps res h ho => ?_)
  change fault_go args rows caps = some res at h
  unfold fault_go at h
  split at h
  · simp only [Option.some.injEq] at h
    subst h
    rename_i q0_ q2_ q1_
    skip
    exact EX.of (fault_tree q0_ q1_ q2_) (fault_holds q0_ q1_ q2_)
  · cases h
theorem vL_cons {e : Int} {r : List Int} {l : List (List Int)} (h : vL e (r :: l) = true) : (1 ≤ r0 r ∧ r0 r ≤ 1099511627776 ∧ 0 ≤ r1 r ∧ r1 r ≤ 524288) ∧ e + r0 r ≤ 1099511627776 ∧ vL (e + r0 r) l = true := by
  simp only [vL, vRun, Bool.and_eq_true, decide_eq_true_eq] at h
  obtain ⟨⟨⟨⟨⟨a, b⟩, c⟩, d⟩, e⟩, f⟩ := h
  exact ⟨⟨a, b, c, d⟩, e, f⟩
def position_res (s : Int) (l : List (List Int)) (t : Int) : CRes := ⟨[], .tup [.cel (.int .i64 (posOf s l t)), .cel (.int .i64 (mErr s l t))], []⟩
def position_go : List TV → List RowA → List (List CV) → Option CRes := fun args rows caps =>
  match args, rows, caps with
  | [.agg [.int .i64 s, .row 0], .cel (.int .i64 t)], [.recs [.int .i64, .int .i64] l], [] => some (position_res s l t)
  | _, _, _ => none
def position_e : Ent := ⟨14, [.recs [.int .i64, .int .i64] []], position_go⟩
def position_L1_F (s : Int) (l : List (List Int)) (t : Int) (i : Int) (w : Int) (u : Int) : St := ⟨43, [], [(20, (.one (.cel (.int .i64 i)))), (19, (.one (.cel (.int .i64 (((List.length l) : Nat) : Int))))), (18, (.one (.cel (.row 0)))), (7, (.one (.cel (.int .i64 w)))), (5, (.one (.cel (.int .i64 (0 : Int))))), (4, (.one (.cel (.int .i64 (0 : Int))))), (2, (.one (.cel (.ptr 0 0)))), (1, (.one (.cel (.int .i64 u))))], [[(.int .i64 s), (.row 0)]], [⟨(.recs [.int .i64, .int .i64] l), none⟩], 0⟩
def position_L1_I (s : Int) (l : List (List Int)) (t : Int) (i : Int) (w : Int) (u : Int) : Prop := (0 ≤ i ∧ i ≤ l.length ∧ (l.length : Int) ≤ 2000 ∧ 0 ≤ u ∧ u ≤ t ∧ t ≤ 1099511627776 ∧ 0 ≤ w ∧ w ≤ (t - u) * 524288 ∧ mErr s l t = 0 ∧ 0 ≤ s ∧ s < 46080 ∧ w + way u (l.drop i.toNat) = way t l ∧ ∃ e, vL e (l.drop i.toNat) = true)
def position_L1_m (s : Int) (l : List (List Int)) (t : Int) (i : Int) (w : Int) (u : Int) : Nat := (l.length - i).toNat
def position_L1_N (s : Int) (l : List (List Int)) (t : Int) (i' : Int) (w' : Int) (u' : Int) (st_ : St) : Prop := getI st_ 20 fun i => getI st_ 7 fun w => getI st_ 1 fun u => position_L1_I s l t i w u ∧ position_L1_m s l t i w u < position_L1_m s l t i' w' u' ∧ SubA st_ (position_L1_F s l t i w u)
def position_L1_E (s : Int) (l : List (List Int)) (t : Int) (st_ : St) : Prop := getI st_ 20 fun i => getI st_ 7 fun w => getI st_ 1 fun u => position_L1_I s l t i w u ∧ SubA st_ (position_L1_F s l t i w u)
def position_L1_S1 (s : Int) (l : List (List Int)) (t : Int) : St := ⟨43, [], [(20, (.one (.cel (.int .i64 (0 : Int))))), (19, (.one (.cel (.int .i64 (((List.length l) : Nat) : Int))))), (18, (.one (.cel (.row 0)))), (17, (.one (.cel (.ptr 0 1)))), (7, (.one (.cel (.int .i64 (0 : Int))))), (15, (.one (.cel (.bool (!(decide ((mErr s l t) = (0 : Int)))))))), (14, (.one (.cel (.int .i64 (mErr s l t))))), (6, (.one (.cel (.int .i64 (mErr s l t))))), (13, (.one (.cel (.int .i64 (mErr s l t))))), (12, (.one (.cel (.int .i64 t)))), (11, (.one (.agg [(.int .i64 s), (.row 0)]))), (5, (.one (.cel (.int .i64 (0 : Int))))), (4, (.one (.cel (.int .i64 (0 : Int))))), (2, (.one (.cel (.ptr 0 0)))), (0, (.one (.agg [(.int .i64 s), (.row 0)]))), (1, (.one (.cel (.int .i64 t))))], [[(.int .i64 s), (.row 0)]], [⟨(.recs [.int .i64, .int .i64] l), none⟩], 0⟩
def position_L1_T (s : Int) (l : List (List Int)) (t : Int) (i : Int) (w : Int) (u : Int) : Prop := (cnd (decide (i < (((List.length l) : Nat) : Int)))
  (cnd (decide ((0 : Int) ≤ i))
    (cnd (decide (i < (((List.length l) : Nat) : Int)))
      ((position_L1_I s l t (Go.IntKind.wrap Go.IntKind.i64 (i + (1 : Int))) (Go.IntKind.wrap Go.IntKind.i64 (w + (Go.IntKind.wrap Go.IntKind.i64 ((gmin u (List.getD (List.getD l (Int.toNat i) ([] : List Int)) 0 (0 : Int))) * (List.getD (List.getD l (Int.toNat i) ([] : List Int)) (0 + 1) (0 : Int)))))) (Go.IntKind.wrap Go.IntKind.i64 (u - (gmin u (List.getD (List.getD l (Int.toNat i) ([] : List Int)) 0 (0 : Int)))))) ∧ (((position_L1_m s l t (Go.IntKind.wrap Go.IntKind.i64 (i + (1 : Int))) (Go.IntKind.wrap Go.IntKind.i64 (w + (Go.IntKind.wrap Go.IntKind.i64 ((gmin u (List.getD (List.getD l (Int.toNat i) ([] : List Int)) 0 (0 : Int))) * (List.getD (List.getD l (Int.toNat i) ([] : List Int)) (0 + 1) (0 : Int)))))) (Go.IntKind.wrap Go.IntKind.i64 (u - (gmin u (List.getD (List.getD l (Int.toNat i) ([] : List Int)) 0 (0 : Int)))))) < (position_L1_m s l t i w u)) ∧ (((Go.IntKind.wrap Go.IntKind.i64 (i + (1 : Int))) = (Go.IntKind.wrap Go.IntKind.i64 (i + (1 : Int)))) ∧ (((((List.length l) : Nat) : Int) = (((List.length l) : Nat) : Int)) ∧ (True ∧ (((Go.IntKind.wrap Go.IntKind.i64 (w + (Go.IntKind.wrap Go.IntKind.i64 ((gmin u (List.getD (List.getD l (Int.toNat i) ([] : List Int)) 0 (0 : Int))) * (List.getD (List.getD l (Int.toNat i) ([] : List Int)) (0 + 1) (0 : Int)))))) = (Go.IntKind.wrap Go.IntKind.i64 (w + (Go.IntKind.wrap Go.IntKind.i64 ((gmin u (List.getD (List.getD l (Int.toNat i) ([] : List Int)) 0 (0 : Int))) * (List.getD (List.getD l (Int.toNat i) ([] : List Int)) (0 + 1) (0 : Int))))))) ∧ (((0 : Int) = (0 : Int)) ∧ (((0 : Int) = (0 : Int)) ∧ (True ∧ (((Go.IntKind.wrap Go.IntKind.i64 (u - (gmin u (List.getD (List.getD l (Int.toNat i) ([] : List Int)) 0 (0 : Int))))) = (Go.IntKind.wrap Go.IntKind.i64 (u - (gmin u (List.getD (List.getD l (Int.toNat i) ([] : List Int)) 0 (0 : Int)))))) ∧ (((s = s) ∧ True) ∧ ((l = l) ∧ True))))))))))))
      False)
    False)
  (((Go.IntKind.wrap Go.IntKind.i64 (s + (Go.IntKind.wrap Go.IntKind.i64 (Int.tdiv w (65536 : Int))))) = (posOf s l t)) ∧ ((0 : Int) = (mErr s l t))))
set_option maxRecDepth 100000 in
theorem position_L1_tree (s : Int) (l : List (List Int)) (t : Int) (i : Int) (w : Int) (u : Int) : position_L1_T s l t i w u = ex Try.prog (conOf [fault_e]) (subC (bodyOf Try.f14) [1, 1, 1, 0, 1, 0, 0]) (nextE (position_L1_N s l t i w u) (kont Try.prog (conOf [fault_e]) (bodyOf Try.f14) [1, 1, 1, 0, 1, 0] (retPost Try.prog Try.f14 1 (position_res s l t)))) (position_L1_F s l t i w u) := by kernel_rfl
set_option maxRecDepth 100000 in
theorem position_L1_round (s : Int) (l : List (List Int)) (t : Int) (i : Int) (w : Int) (u : Int)  (hI_L1 : position_L1_I s l t i w u) : position_L1_T s l t i w u := by
  obtain ⟨i0, i1, i2, u0, u1, t1, w0, w1, he, s0, s1, hw, e, hv⟩ := hI_L1
  unfold position_L1_T
  by_cases hi : i < l.length
  · have hd := drop_consR (l := l) (i := i) i0 hi
    rw [hd] at hv hw
    simp only [hi, i0, decide_true, cnd]
    change position_L1_I s l t (IntKind.i64.wrap (i + 1)) (IntKind.i64.wrap (w + IntKind.i64.wrap (gmin u (r0 (l.getD i.toNat [])) * r1 (l.getD i.toNat [])))) (IntKind.i64.wrap (u - gmin u (r0 (l.getD i.toNat [])))) ∧ _
    generalize l.getD i.toNat [] = r at *
    obtain ⟨⟨a1, a2, a3, a4⟩, a5, a6⟩ := vL_cons hv
    have hg : gmin u (r0 r) = min u (r0 r) := by unfold gmin; omega
    simp only [way] at hw
    rw [hg]
    have hm : 0 ≤ min u (r0 r) * r1 r ∧ min u (r0 r) * r1 r ≤ min u (r0 r) * 524288 := ⟨Int.mul_nonneg (by omega) a3, Int.mul_le_mul_of_nonneg_left a4 (by omega)⟩
    generalize hn : min u (r0 r) = n at *
    have n0 : 0 ≤ n ∧ n ≤ u := by omega
    generalize hp : n * r1 r = p at *
    rw [w64 (n := p) (by omega) (by omega), w64 (n := w + p) (by omega) (by omega), w64 (n := i + 1) (by omega) (by omega), w64 (n := u - n) (by omega) (by omega)]
    have e1 : (i + 1).toNat = i.toNat + 1 := by omega
    refine ⟨⟨by omega, by omega, i2, by omega, by omega, t1, by omega, by omega, he, s0, s1, ?_, _, by rw [e1]; exact a6⟩, ?_, by simp⟩
    · rw [e1]; omega
    · unfold position_L1_m
      omega
  · simp only [hi, decide_false, cnd]
    have e : l.drop i.toNat = [] := List.drop_eq_nil_of_le (by omega)
    rw [e] at hw
    simp only [way] at hw
    have hq : Int.tdiv w 65536 = w / 65536 := tdiv_pos w0
    rw [hq, w64 (n := w / 65536) (by omega) (by omega), w64 (n := s + w / 65536) (by omega) (by omega)]
    refine ⟨?_, he.symm⟩
    unfold posOf
    rw [if_pos he]
    have : w = way t l := by omega
    rw [this]
set_option maxRecDepth 100000 in
theorem position_L1_entry1 (s : Int) (l : List (List Int)) (t : Int) : (((position_L1_I s l t (0 : Int) (0 : Int) t) ∧ (((0 : Int) = (0 : Int)) ∧ (((((List.length l) : Nat) : Int) = (((List.length l) : Nat) : Int)) ∧ (True ∧ (((0 : Int) = (0 : Int)) ∧ (((0 : Int) = (0 : Int)) ∧ (((0 : Int) = (0 : Int)) ∧ (True ∧ ((t = t) ∧ (((s = s) ∧ True) ∧ ((l = l) ∧ True)))))))))))) = position_L1_E s l t (position_L1_S1 s l t) := by kernel_rfl
theorem position_L1_1 (s : Int) (l : List (List Int)) (t : Int)  (h : ((position_L1_I s l t (0 : Int) (0 : Int) t) ∧ (((0 : Int) = (0 : Int)) ∧ (((((List.length l) : Nat) : Int) = (((List.length l) : Nat) : Int)) ∧ (True ∧ (((0 : Int) = (0 : Int)) ∧ (((0 : Int) = (0 : Int)) ∧ (((0 : Int) = (0 : Int)) ∧ (True ∧ ((t = t) ∧ (((s = s) ∧ True) ∧ ((l = l) ∧ True)))))))))))) : LoopP (ex Try.prog (conOf [fault_e]) (subC (bodyOf Try.f14) [1, 1, 1, 0, 1, 0, 0])) (kont Try.prog (conOf [fault_e]) (bodyOf Try.f14) [1, 1, 1, 0, 1, 0] (retPost Try.prog Try.f14 1 (position_res s l t))) (position_L1_S1 s l t) := by
  have hE : position_L1_E s l t (position_L1_S1 s l t) := Eq.mp (position_L1_entry1 s l t) h
  unfold position_L1_E at hE
  obtain ⟨i, hE⟩ := getI_of hE
  obtain ⟨w, hE⟩ := getI_of hE
  obtain ⟨u, hE⟩ := getI_of hE
  refine loop_of (α := (Int) × (Int) × (Int)) (fun xx_ => position_L1_F s l t xx_.1 xx_.2.1 xx_.2.2) (fun xx_ => position_L1_I s l t xx_.1 xx_.2.1 xx_.2.2) (fun xx_ => position_L1_m s l t xx_.1 xx_.2.1 xx_.2.2) (fun xx_ => position_L1_N s l t xx_.1 xx_.2.1 xx_.2.2) (fun xx_ => position_L1_T s l t xx_.1 xx_.2.1 xx_.2.2) (fun xx_ s_ h => ?_) ⟨⟨i, w, u⟩, hE⟩ (fun xx_ => position_L1_tree s l t xx_.1 xx_.2.1 xx_.2.2) (fun xx_ hI => position_L1_round s l t xx_.1 xx_.2.1 xx_.2.2  hI)
  unfold position_L1_N at h
  obtain ⟨i, h⟩ := getI_of h
  obtain ⟨w, h⟩ := getI_of h
  obtain ⟨u, h⟩ := getI_of h
  exact ⟨⟨i, w, u⟩, h⟩
set_option maxRecDepth 100000 in
theorem position_tree (s : Int) (l : List (List Int)) (t : Int) : ((cnd (!(decide ((mErr s l t) = (0 : Int))))
  (((0 : Int) = (posOf s l t)) ∧ ((mErr s l t) = (mErr s l t)))
  (LoopP (ex Try.prog (conOf [fault_e]) (subC (bodyOf Try.f14) [1, 1, 1, 0, 1, 0, 0])) (kont Try.prog (conOf [fault_e]) (bodyOf Try.f14) [1, 1, 1, 0, 1, 0] (retPost Try.prog Try.f14 1 (position_res s l t))) (position_L1_S1 s l t)))) = EXD Try.prog (conOf [fault_e]) Try.f14 [.agg [.int .i64 s, .row 0], .cel (.int .i64 t)] [.recs [.int .i64, .int .i64] l] [] (position_res s l t) := by kernel_rfl
theorem position_holds (s : Int) (l : List (List Int)) (t : Int)  : (cnd (!(decide ((mErr s l t) = (0 : Int))))
  (((0 : Int) = (posOf s l t)) ∧ ((mErr s l t) = (mErr s l t)))
  (LoopP (ex Try.prog (conOf [fault_e]) (subC (bodyOf Try.f14) [1, 1, 1, 0, 1, 0, 0])) (kont Try.prog (conOf [fault_e]) (bodyOf Try.f14) [1, 1, 1, 0, 1, 0] (retPost Try.prog Try.f14 1 (position_res s l t))) (position_L1_S1 s l t))) := by
  by_cases he : mErr s l t = 0
  · have hk : mValid s l = true ∧ 0 ≤ t ∧ t ≤ 1099511627776 := by
      unfold mErr at he
      by_cases h : mValid s l = true
      · rw [if_pos h] at he
        by_cases h2 : 0 ≤ t ∧ t ≤ 1099511627776
        · exact ⟨h, h2⟩
        · rw [if_neg h2] at he; omega
      · rw [if_neg h] at he; omega
    have hv := hk.1
    simp only [mValid, Bool.and_eq_true, decide_eq_true_eq] at hv
    obtain ⟨⟨⟨v1, v2⟩, v3⟩, v4⟩ := hv
    simp only [he, decide_true, Bool.not_true, cnd]
    exact position_L1_1 s l t ⟨⟨by omega, by omega, v3, hk.2.1, by omega, hk.2.2, by omega, by omega, he, v1, v2, by simp, 0, v4⟩, by simp⟩
  · simp [he, cnd, posOf]
set_option maxHeartbeats 2000000 in
theorem position_ok : SoundEnt Try.prog position_e := by
  refine ent_of_ex (Γ := (conOf [fault_e])) (conOf_sound (scons fault_ok snil)) (by kernel_rfl) Try.func14 (by kernel_rfl) (by kernel_rfl) (fun args rows caps res h ho => ?_)
  change position_go args rows caps = some res at h
  unfold position_go at h
  split at h
  · simp only [Option.some.injEq] at h
    subst h
    rename_i q0_ q2_ q1_
    skip
    exact EX.of (position_tree q0_ q1_ q2_) (position_holds q0_ q1_ q2_)
  · cases h
end Go.Proofs.Ytajaaohjdeegeaa

