/- Filters: the mean, the chapter's examples, and the reference's lag, rate and controller. -/
import Derived.Test.YtoflhcdhgkbdcaaF1
namespace Go.Proofs.Ytoflhcdhgkbdcaa
set_option linter.unusedVariables false
set_option linter.unusedSimpArgs false
open Go.RowKit

theorem gmin_eq (a b : Int) : gmin a b = min a b := by unfold gmin; omega
theorem gmax_eq (a b : Int) : gmax a b = max a b := by unfold gmax; omega
def isS (n : Int) : Bool := decide (1 ≤ n) && decide (n ≤ 1000)
theorem isS_iff {n : Int} : isS n = true ↔ 1 ≤ n ∧ n ≤ 1000 := by simp [isS]
def bE (c u d l : Int) : Int := if isS u && isS d && isS l then (if 0 ≤ c ∧ c ≤ l then 0 else 1) else 2
theorem bE_zero {c u d l : Int} : bE c u d l = 0 ↔ (1 ≤ u ∧ u ≤ 1000) ∧ (1 ≤ d ∧ d ≤ 1000) ∧ (1 ≤ l ∧ l ≤ 1000) ∧ 0 ≤ c ∧ c ≤ l := by
  unfold bE
  rw [← isS_iff, ← isS_iff, ← isS_iff]
  cases isS u <;> cases isS d <;> cases isS l <;> simp
def bK (c : Int) (r : Bool) (u d l : Int) : Int := if r then min l (c + u) else max 0 (c - d)
def bC (c : Int) (r : Bool) (u d l : Int) : Int := if bE c u d l = 0 then bK c r u d l else 0
def bO (c : Int) (o r : Bool) (u d l : Int) : Bool := if bE c u d l = 0 then (if bK c r u d l = l then true else if bK c r u d l = 0 then false else o) else false
def faverage_res (n : Int) (l : List Int) (x : Int) : CRes := ⟨[], .tup [.agg [.int .i64 (addN n l x), .row 1], .cel (.int .i64 (avg n l x)), .cel (.int .i64 (addE n l x))], [.ints .i64 (addL n l x)]⟩
def faverage_go : List TV → List RowA → Option CRes := fun args rows =>
  match args, rows with
  | [.agg [.int .i64 n, .row 0], .cel (.int .i64 x)], [.ints .i64 l] => some (faverage_res n l x)
  | _, _ => none
def faverage_e : Ent := ⟨30, [.ints .i64 []], faverage_go⟩
def faverage_L1_F (n : Int) (l : List Int) (x : Int) (i : Int) (q : Int) : St := ⟨38, [], [(24, (.one (.cel (.int .i64 i)))), (23, (.one (.cel (.int .i64 (((List.length (addL n l x)) : Nat) : Int))))), (22, (.one (.cel (.row 1)))), (8, (.one (.cel (.int .i64 q)))), (6, (.one (.cel (.int .i64 (0 : Int))))), (5, (.one (.cel (.int .i64 (0 : Int))))), (4, (.one (.cel (.ptr 1 0)))), (2, (.one (.cel (.ptr 0 0))))], [[(.int .i64 (addN n l x)), (.row 1)], [(.int .i64 (0 : Int)), .nilS]], [⟨(.ints .i64 l), none⟩, ⟨(.ints .i64 (addL n l x)), none⟩]⟩
def faverage_L1_I (n : Int) (l : List Int) (x : Int) (i : Int) (q : Int) : Prop := (0 ≤ i ∧ i ≤ (addL n l x).length ∧ addE n l x = 0) ∧ (q = lsum ((addL n l x).take i.toNat))
def faverage_L1_m (n : Int) (l : List Int) (x : Int) (i : Int) (q : Int) : Nat := ((addL n l x).length - i).toNat
def faverage_L1_N (n : Int) (l : List Int) (x : Int) (i' : Int) (q' : Int) (st_ : St) : Prop := getI st_ 24 fun i => getI st_ 8 fun q => faverage_L1_I n l x i q ∧ faverage_L1_m n l x i q < faverage_L1_m n l x i' q' ∧ SubA st_ (faverage_L1_F n l x i q)
def faverage_L1_E (n : Int) (l : List Int) (x : Int) (st_ : St) : Prop := getI st_ 24 fun i => getI st_ 8 fun q => faverage_L1_I n l x i q ∧ SubA st_ (faverage_L1_F n l x i q)
def faverage_L1_S1 (n : Int) (l : List Int) (x : Int) : St := ⟨38, [], [(24, (.one (.cel (.int .i64 (0 : Int))))), (23, (.one (.cel (.int .i64 (((List.length (addL n l x)) : Nat) : Int))))), (22, (.one (.cel (.row 1)))), (21, (.one (.cel (.ptr 0 1)))), (8, (.one (.cel (.int .i64 (0 : Int))))), (18, (.one (.cel (.bool (!(decide ((addE n l x) = (0 : Int)))))))), (17, (.one (.cel (.int .i64 (addE n l x))))), (7, (.one (.cel (.int .i64 (addE n l x))))), (16, (.one (.cel (.int .i64 (addE n l x))))), (15, (.one (.agg [(.int .i64 (addN n l x)), (.row 1)]))), (11, (.tup [(.agg [(.int .i64 (addN n l x)), (.row 1)]), (.cel (.int .i64 (addE n l x)))])), (14, (.tup [(.agg [(.int .i64 (addN n l x)), (.row 1)]), (.cel (.int .i64 (addE n l x)))])), (13, (.one (.cel (.int .i64 x)))), (12, (.one (.agg [(.int .i64 n), (.row 0)]))), (6, (.one (.cel (.int .i64 (0 : Int))))), (5, (.one (.cel (.int .i64 (0 : Int))))), (4, (.one (.cel (.ptr 1 0)))), (2, (.one (.cel (.ptr 0 0)))), (0, (.one (.agg [(.int .i64 n), (.row 0)]))), (1, (.one (.cel (.int .i64 x))))], [[(.int .i64 (addN n l x)), (.row 1)], [(.int .i64 (0 : Int)), .nilS]], [⟨(.ints .i64 l), none⟩, ⟨(.ints .i64 (addL n l x)), none⟩]⟩
def faverage_L1_T (n : Int) (l : List Int) (x : Int) (i : Int) (q : Int) : Prop := (cnd (decide (i < (((List.length (addL n l x)) : Nat) : Int)))
  (cnd (decide ((0 : Int) ≤ i))
    (cnd (decide (i < (((List.length (addL n l x)) : Nat) : Int)))
      ((faverage_L1_I n l x (Go.IntKind.wrap Go.IntKind.i64 (i + (1 : Int))) (Go.IntKind.wrap Go.IntKind.i64 (q + (List.getD (addL n l x) (Int.toNat i) (0 : Int))))) ∧ (((faverage_L1_m n l x (Go.IntKind.wrap Go.IntKind.i64 (i + (1 : Int))) (Go.IntKind.wrap Go.IntKind.i64 (q + (List.getD (addL n l x) (Int.toNat i) (0 : Int))))) < (faverage_L1_m n l x i q)) ∧ (((Go.IntKind.wrap Go.IntKind.i64 (i + (1 : Int))) = (Go.IntKind.wrap Go.IntKind.i64 (i + (1 : Int)))) ∧ (((((List.length (addL n l x)) : Nat) : Int) = (((List.length (addL n l x)) : Nat) : Int)) ∧ (True ∧ (((Go.IntKind.wrap Go.IntKind.i64 (q + (List.getD (addL n l x) (Int.toNat i) (0 : Int)))) = (Go.IntKind.wrap Go.IntKind.i64 (q + (List.getD (addL n l x) (Int.toNat i) (0 : Int))))) ∧ (((0 : Int) = (0 : Int)) ∧ (((0 : Int) = (0 : Int)) ∧ (True ∧ (True ∧ ((((addN n l x) = (addN n l x)) ∧ True) ∧ ((((0 : Int) = (0 : Int)) ∧ True) ∧ ((l = l) ∧ (((addL n l x) = (addL n l x)) ∧ True))))))))))))))
      False)
    False)
  (cnd (inBig q)
    (cnd (decide ((1 : Int) ≤ (((List.length (addL n l x)) : Nat) : Int)))
      (cnd (inBig (((List.length (addL n l x)) : Nat) : Int))
        (((((addN n l x) = (addN n l x)) ∧ True) ∧ (((q / (((List.length (addL n l x)) : Nat) : Int)) = (avg n l x)) ∧ ((0 : Int) = (addE n l x)))) ∧ (((addL n l x) = (addL n l x)) ∧ True))
        False)
      False)
    False))
set_option maxRecDepth 100000 in
theorem faverage_L1_tree (n : Int) (l : List Int) (x : Int) (i : Int) (q : Int) : faverage_L1_T n l x i q = ex Try.prog (conOf [fadd_e, floor_e]) (subC (bodyOf Try.f30) [1, 1, 1, 1, 0, 1, 0, 0]) (nextE (faverage_L1_N n l x i q) (kont Try.prog (conOf [fadd_e, floor_e]) (bodyOf Try.f30) [1, 1, 1, 1, 0, 1, 0] (retPost Try.prog Try.f30 1 (faverage_res n l x)))) (faverage_L1_F n l x i q) := by kernel_rfl
set_option maxRecDepth 100000 in
theorem faverage_L1_round (n : Int) (l : List Int) (x : Int) (i : Int) (q : Int)  (hI_L1 : faverage_L1_I n l x i q) : faverage_L1_T n l x i q := by
  obtain ⟨⟨a1, a2, a3⟩, a4⟩ := hI_L1
  obtain ⟨b1, b2, b3⟩ := addL_len a3
  have b4 := (addE_zero.1 a3).1
  have ht : ((addL n l x).take i.toNat).all isV = true := by
    rw [List.all_eq_true] at b3 ⊢
    exact fun y hy => b3 y (List.mem_of_mem_take hy)
  have hs := lsum_bd ht
  rw [← a4, List.length_take] at hs
  unfold faverage_L1_T
  by_cases hl : i < (addL n l x).length
  · have hv : isV ((addL n l x).getD i.toNat 0) = true := by
      rw [List.all_eq_true] at b3
      refine b3 _ ?_
      rw [List.getD_eq_getElem?_getD, List.getElem?_eq_getElem (by omega)]
      exact List.getElem_mem (by omega)
    have hv2 := isV_iff.1 hv
    have j1 : decide (0 ≤ i) = true := by simpa using a1
    rw [w64 (n := i + 1) (by omega) (by omega), w64 (n := q + (addL n l x).getD i.toNat 0) (by omega) (by omega)]
    simp only [hl, decide_true, j1, cnd]
    refine ⟨⟨⟨by omega, by omega, a3⟩, ?_⟩, ?_, by simp⟩
    · rw [show (i + 1).toNat = i.toNat + 1 by omega, take_succ_getD _ _ (by omega), lsum_append, ← a4]
      simp [lsum]
    · unfold faverage_L1_m
      omega
  · have he : i = (addL n l x).length := by omega
    have e : q = lsum (addL n l x) := by rw [a4, he]; simp
    have j1 : inBig q = true := inBig_iff.2 (by omega)
    have j2 : decide ((1 : Int) ≤ ((addL n l x).length : Int)) = true := by simp; omega
    have j3 : inBig ((addL n l x).length : Int) = true := inBig_iff.2 (by omega)
    simp only [hl, decide_false, j1, j2, j3, cnd]
    simp [avg, a3, e]
set_option maxRecDepth 100000 in
theorem faverage_L1_entry1 (n : Int) (l : List Int) (x : Int) : (((faverage_L1_I n l x (0 : Int) (0 : Int)) ∧ (((0 : Int) = (0 : Int)) ∧ (((((List.length (addL n l x)) : Nat) : Int) = (((List.length (addL n l x)) : Nat) : Int)) ∧ (True ∧ (((0 : Int) = (0 : Int)) ∧ (((0 : Int) = (0 : Int)) ∧ (((0 : Int) = (0 : Int)) ∧ (True ∧ (True ∧ ((((addN n l x) = (addN n l x)) ∧ True) ∧ ((((0 : Int) = (0 : Int)) ∧ True) ∧ ((l = l) ∧ (((addL n l x) = (addL n l x)) ∧ True)))))))))))))) = faverage_L1_E n l x (faverage_L1_S1 n l x) := by kernel_rfl
theorem faverage_L1_1 (n : Int) (l : List Int) (x : Int)  (h : ((faverage_L1_I n l x (0 : Int) (0 : Int)) ∧ (((0 : Int) = (0 : Int)) ∧ (((((List.length (addL n l x)) : Nat) : Int) = (((List.length (addL n l x)) : Nat) : Int)) ∧ (True ∧ (((0 : Int) = (0 : Int)) ∧ (((0 : Int) = (0 : Int)) ∧ (((0 : Int) = (0 : Int)) ∧ (True ∧ (True ∧ ((((addN n l x) = (addN n l x)) ∧ True) ∧ ((((0 : Int) = (0 : Int)) ∧ True) ∧ ((l = l) ∧ (((addL n l x) = (addL n l x)) ∧ True)))))))))))))) : LoopP (ex Try.prog (conOf [fadd_e, floor_e]) (subC (bodyOf Try.f30) [1, 1, 1, 1, 0, 1, 0, 0])) (kont Try.prog (conOf [fadd_e, floor_e]) (bodyOf Try.f30) [1, 1, 1, 1, 0, 1, 0] (retPost Try.prog Try.f30 1 (faverage_res n l x))) (faverage_L1_S1 n l x) := by
  have hE : faverage_L1_E n l x (faverage_L1_S1 n l x) := Eq.mp (faverage_L1_entry1 n l x) h
  unfold faverage_L1_E at hE
  obtain ⟨i, hE⟩ := getI_of hE
  obtain ⟨q, hE⟩ := getI_of hE
  refine loop_of (α := (Int) × (Int)) (fun xx_ => faverage_L1_F n l x xx_.1 xx_.2) (fun xx_ => faverage_L1_I n l x xx_.1 xx_.2) (fun xx_ => faverage_L1_m n l x xx_.1 xx_.2) (fun xx_ => faverage_L1_N n l x xx_.1 xx_.2) (fun xx_ => faverage_L1_T n l x xx_.1 xx_.2) (fun xx_ s_ h => ?_) ⟨⟨i, q⟩, hE⟩ (fun xx_ => faverage_L1_tree n l x xx_.1 xx_.2) (fun xx_ hI => faverage_L1_round n l x xx_.1 xx_.2  hI)
  unfold faverage_L1_N at h
  obtain ⟨i, h⟩ := getI_of h
  obtain ⟨q, h⟩ := getI_of h
  exact ⟨⟨i, q⟩, h⟩
set_option maxRecDepth 100000 in
theorem faverage_tree (n : Int) (l : List Int) (x : Int) : ((cnd (!(decide ((addE n l x) = (0 : Int))))
  (((((0 : Int) = (addN n l x)) ∧ True) ∧ (((0 : Int) = (avg n l x)) ∧ ((addE n l x) = (addE n l x)))) ∧ (((addL n l x) = []) ∧ True))
  (LoopP (ex Try.prog (conOf [fadd_e, floor_e]) (subC (bodyOf Try.f30) [1, 1, 1, 1, 0, 1, 0, 0])) (kont Try.prog (conOf [fadd_e, floor_e]) (bodyOf Try.f30) [1, 1, 1, 1, 0, 1, 0] (retPost Try.prog Try.f30 1 (faverage_res n l x))) (faverage_L1_S1 n l x)))) = EXD Try.prog (conOf [fadd_e, floor_e]) Try.f30 [.agg [.int .i64 n, .row 0], .cel (.int .i64 x)] [.ints .i64 l] (faverage_res n l x) := by kernel_rfl
theorem faverage_holds (n : Int) (l : List Int) (x : Int)  : (cnd (!(decide ((addE n l x) = (0 : Int))))
  (((((0 : Int) = (addN n l x)) ∧ True) ∧ (((0 : Int) = (avg n l x)) ∧ ((addE n l x) = (addE n l x)))) ∧ (((addL n l x) = []) ∧ True))
  (LoopP (ex Try.prog (conOf [fadd_e, floor_e]) (subC (bodyOf Try.f30) [1, 1, 1, 1, 0, 1, 0, 0])) (kont Try.prog (conOf [fadd_e, floor_e]) (bodyOf Try.f30) [1, 1, 1, 1, 0, 1, 0] (retPost Try.prog Try.f30 1 (faverage_res n l x))) (faverage_L1_S1 n l x))) := by
  by_cases he : addE n l x = 0
  · have j : (!decide (addE n l x = 0)) = false := by simp [he]
    simp only [j, cnd]
    exact faverage_L1_1 n l x ⟨⟨⟨by omega, by omega, he⟩, by simp [lsum]⟩, by simp⟩
  · have j : (!decide (addE n l x = 0)) = true := by simp [he]
    simp [j, cnd, addN, addL, avg, he]
theorem faverage_ok : SoundEnt Try.prog faverage_e := by
  refine ent_of_ex (Γ := (conOf [fadd_e, floor_e])) (conOf_sound (scons fadd_ok (scons floor_ok snil))) (by kernel_rfl) Try.func30 (by kernel_rfl) (by kernel_rfl) (fun args rows res h ho => ?_)
  change faverage_go args rows = some res at h
  unfold faverage_go at h
  split at h
  · simp only [Option.some.injEq] at h
    subst h
    skip
    exact EX.of (faverage_tree _ _ _) (faverage_holds _ _ _)
  · cases h
def awake_res : CRes := ⟨[], .one (.cel (.bool (true))), []⟩
def awake_go : List TV → List RowA → Option CRes := fun args rows =>
  match args, rows with
  | [], [] => some (awake_res )
  | _, _ => none
def awake_e : Ent := ⟨13, [], awake_go⟩
set_option maxRecDepth 100000 in
theorem awake_tree  : ((((((((((((decide ((lagE (0 : Int) (0 : Int) (10 : Int) (2 : Int)) = (0 : Int))) && (decide ((lagE (lagY (0 : Int) (0 : Int) (10 : Int) (2 : Int)) (lagR (0 : Int) (0 : Int) (10 : Int) (2 : Int)) (10 : Int) (2 : Int)) = (0 : Int)))) && ((decide ((lagY (lagY (0 : Int) (0 : Int) (10 : Int) (2 : Int)) (lagR (0 : Int) (0 : Int) (10 : Int) (2 : Int)) (10 : Int) (2 : Int)) = (4 : Int))) && ((decide ((lagR (lagY (0 : Int) (0 : Int) (10 : Int) (2 : Int)) (lagR (0 : Int) (0 : Int) (10 : Int) (2 : Int)) (10 : Int) (2 : Int)) = (2 : Int))) && Bool.true))) && (decide ((addE (3 : Int) [(1 : Int), (2 : Int)] (4 : Int)) = (0 : Int)))) && (decide ((avg (3 : Int) [(1 : Int), (2 : Int)] (4 : Int)) = (2 : Int)))) && (decide ((rtE (10 : Int) (20 : Int) (3 : Int) (5 : Int)) = (0 : Int)))) && (decide ((rtZ (10 : Int) (20 : Int) (3 : Int) (5 : Int)) = (13 : Int)))) && (decide ((ctE (0 : Int) (1024 : Int) (512 : Int) (0 : Int) (100 : Int) (10 : Int)) = (0 : Int)))) && (decide ((ctU (0 : Int) (1024 : Int) (512 : Int) (0 : Int) (100 : Int) (10 : Int)) = (10 : Int)))) && (decide ((ctM (0 : Int) (1024 : Int) (512 : Int) (0 : Int) (100 : Int) (10 : Int)) = (5120 : Int)))) = Bool.true)) = EXD Try.prog (conOf [flag_e, faverage_e, frate_e, fctl_e]) Try.f13 [] [] (awake_res ) := by kernel_rfl
theorem awake_holds   : (((((((((((decide ((lagE (0 : Int) (0 : Int) (10 : Int) (2 : Int)) = (0 : Int))) && (decide ((lagE (lagY (0 : Int) (0 : Int) (10 : Int) (2 : Int)) (lagR (0 : Int) (0 : Int) (10 : Int) (2 : Int)) (10 : Int) (2 : Int)) = (0 : Int)))) && ((decide ((lagY (lagY (0 : Int) (0 : Int) (10 : Int) (2 : Int)) (lagR (0 : Int) (0 : Int) (10 : Int) (2 : Int)) (10 : Int) (2 : Int)) = (4 : Int))) && ((decide ((lagR (lagY (0 : Int) (0 : Int) (10 : Int) (2 : Int)) (lagR (0 : Int) (0 : Int) (10 : Int) (2 : Int)) (10 : Int) (2 : Int)) = (2 : Int))) && Bool.true))) && (decide ((addE (3 : Int) [(1 : Int), (2 : Int)] (4 : Int)) = (0 : Int)))) && (decide ((avg (3 : Int) [(1 : Int), (2 : Int)] (4 : Int)) = (2 : Int)))) && (decide ((rtE (10 : Int) (20 : Int) (3 : Int) (5 : Int)) = (0 : Int)))) && (decide ((rtZ (10 : Int) (20 : Int) (3 : Int) (5 : Int)) = (13 : Int)))) && (decide ((ctE (0 : Int) (1024 : Int) (512 : Int) (0 : Int) (100 : Int) (10 : Int)) = (0 : Int)))) && (decide ((ctU (0 : Int) (1024 : Int) (512 : Int) (0 : Int) (100 : Int) (10 : Int)) = (10 : Int)))) && (decide ((ctM (0 : Int) (1024 : Int) (512 : Int) (0 : Int) (100 : Int) (10 : Int)) = (5120 : Int)))) = Bool.true) := by
  decide
theorem awake_ok : SoundEnt Try.prog awake_e := by
  refine ent_of_ex (Γ := (conOf [flag_e, faverage_e, frate_e, fctl_e])) (conOf_sound (scons flag_ok (scons faverage_ok (scons frate_ok (scons fctl_ok snil))))) (by kernel_rfl) Try.func13 (by kernel_rfl) (by kernel_rfl) (fun args rows res h ho => ?_)
  change awake_go args rows = some res at h
  unfold awake_go at h
  split at h
  · simp only [Option.some.injEq] at h
    subst h
    skip
    exact EX.of (awake_tree ) (awake_holds )
  · cases h
def rvalue_res (x : Int) : CRes := ⟨[], .one (.cel (.bool (isV x))), []⟩
def rvalue_go : List TV → List RowA → Option CRes := fun args rows =>
  match args, rows with
  | [.cel (.int .i64 x)], [] => some (rvalue_res x)
  | _, _ => none
def rvalue_e : Ent := ⟨16, [], rvalue_go⟩
set_option maxRecDepth 100000 in
theorem rvalue_tree (x : Int) : ((((decide ((-(1099511627776 : Int)) ≤ x)) && (decide (x ≤ (1099511627776 : Int)))) = (isV x))) = EXD Try.prog (conOf []) Try.f16 [.cel (.int .i64 x)] [] (rvalue_res x) := by kernel_rfl
theorem rvalue_holds (x : Int)  : (((decide ((-(1099511627776 : Int)) ≤ x)) && (decide (x ≤ (1099511627776 : Int)))) = (isV x)) := by
  rfl
theorem rvalue_ok : SoundEnt Try.prog rvalue_e := by
  refine ent_of_ex (Γ := (conOf [])) (conOf_sound snil) (by kernel_rfl) Try.func16 (by kernel_rfl) (by kernel_rfl) (fun args rows res h ho => ?_)
  change rvalue_go args rows = some res at h
  unfold rvalue_go at h
  split at h
  · simp only [Option.some.injEq] at h
    subst h
    skip
    exact EX.of (rvalue_tree _) (rvalue_holds _)
  · cases h
def rvlag_res (y : Int) (r : Int) (s : Int) : CRes := ⟨[decide (0 ≤ s), decide (s ≤ 20)], .one (.cel (.bool (isV y && decide (0 ≤ r) && decide (r < pw s)))), []⟩
def rvlag_go : List TV → List RowA → Option CRes := fun args rows =>
  match args, rows with
  | [.agg [.int .i64 y, .int .i64 r], .cel (.int .i64 s)], [] => some (rvlag_res y r s)
  | _, _ => none
def rvlag_e : Ent := ⟨15, [], rvlag_go⟩
set_option maxRecDepth 100000 in
theorem rvlag_tree (y : Int) (r : Int) (s : Int) : ((cnd ((!(((isV y) && (decide ((0 : Int) ≤ r))) == Bool.true)) || (decide ((0 : Int) ≤ s)))
  ((((isV y) && (decide ((0 : Int) ≤ r))) && (decide (r < (Go.IntKind.wrap Go.IntKind.i64 ((1 : Int) * ((2 : Int) ^ (Min.min (Int.toNat s) (Go.IntKind.bits Go.IntKind.i64)))))))) = (((isV y) && (decide ((0 : Int) ≤ r))) && (decide (r < (pw s)))))
  False)) = EXD Try.prog (conOf [rvalue_e]) Try.f15 [.agg [.int .i64 y, .int .i64 r], .cel (.int .i64 s)] [] (rvlag_res y r s) := by kernel_rfl
theorem rvlag_holds (y : Int) (r : Int) (s : Int) (p0 : decide (0 ≤ s) = true) (p1 : decide (s ≤ 20) = true) : (cnd ((!(((isV y) && (decide ((0 : Int) ≤ r))) == Bool.true)) || (decide ((0 : Int) ≤ s)))
  ((((isV y) && (decide ((0 : Int) ≤ r))) && (decide (r < (Go.IntKind.wrap Go.IntKind.i64 ((1 : Int) * ((2 : Int) ^ (Min.min (Int.toNat s) (Go.IntKind.bits Go.IntKind.i64)))))))) = (((isV y) && (decide ((0 : Int) ≤ r))) && (decide (r < (pw s)))))
  False) := by
  simp only [decide_eq_true_eq] at p0 p1
  rw [pw_min p1]
  obtain ⟨q1, q2⟩ := pw_bd p1
  rw [w64 (n := 1 * pw s) (by omega) (by omega), Int.one_mul]
  have j : decide (0 ≤ s) = true := by simpa using p0
  simp [j, cnd]
theorem rvlag_ok : SoundEnt Try.prog rvlag_e := by
  refine ent_of_ex (Γ := (conOf [rvalue_e])) (conOf_sound (scons rvalue_ok snil)) (by kernel_rfl) Try.func15 (by kernel_rfl) (by kernel_rfl) (fun args rows res h ho => ?_)
  change rvlag_go args rows = some res at h
  unfold rvlag_go at h
  split at h
  · simp only [Option.some.injEq] at h
    subst h
    obtain ⟨p0, p1, _⟩ := ho
    exact EX.of (rvlag_tree _ _ _) (rvlag_holds _ _ _ p0 p1)
  · cases h
def rlag_res (y : Int) (r : Int) (x : Int) (s : Int) : CRes := ⟨[decide (lagE y r x s = 0)], .one (.agg [.int .i64 (lagY y r x s), .int .i64 (lagR y r x s)]), []⟩
def rlag_go : List TV → List RowA → Option CRes := fun args rows =>
  match args, rows with
  | [.agg [.int .i64 y, .int .i64 r], .cel (.int .i64 x), .cel (.int .i64 s)], [] => some (rlag_res y r x s)
  | _, _ => none
def rlag_e : Ent := ⟨17, [], rlag_go⟩
set_option maxRecDepth 100000 in
theorem rlag_tree (y : Int) (r : Int) (x : Int) (s : Int) : ((cnd (decide ((0 : Int) ≤ s))
  (cnd (inBig (Go.IntKind.wrap Go.IntKind.i64 ((Go.IntKind.wrap Go.IntKind.i64 (x - y)) + r)))
    (cnd (decide ((1 : Int) ≤ (Go.IntKind.wrap Go.IntKind.i64 ((1 : Int) * ((2 : Int) ^ (Min.min (Int.toNat s) (Go.IntKind.bits Go.IntKind.i64)))))))
      (cnd (inBig (Go.IntKind.wrap Go.IntKind.i64 ((1 : Int) * ((2 : Int) ^ (Min.min (Int.toNat s) (Go.IntKind.bits Go.IntKind.i64))))))
        (cnd (decide ((0 : Int) ≤ s))
          (((Go.IntKind.wrap Go.IntKind.i64 (y + ((Go.IntKind.wrap Go.IntKind.i64 ((Go.IntKind.wrap Go.IntKind.i64 (x - y)) + r)) / (Go.IntKind.wrap Go.IntKind.i64 ((1 : Int) * ((2 : Int) ^ (Min.min (Int.toNat s) (Go.IntKind.bits Go.IntKind.i64)))))))) = (lagY y r x s)) ∧ ((Go.IntKind.wrap Go.IntKind.i64 ((Go.IntKind.wrap Go.IntKind.i64 ((Go.IntKind.wrap Go.IntKind.i64 (x - y)) + r)) - (Go.IntKind.wrap Go.IntKind.i64 (((Go.IntKind.wrap Go.IntKind.i64 ((Go.IntKind.wrap Go.IntKind.i64 (x - y)) + r)) / (Go.IntKind.wrap Go.IntKind.i64 ((1 : Int) * ((2 : Int) ^ (Min.min (Int.toNat s) (Go.IntKind.bits Go.IntKind.i64)))))) * (Go.IntKind.wrap Go.IntKind.i64 ((1 : Int) * ((2 : Int) ^ (Min.min (Int.toNat s) (Go.IntKind.bits Go.IntKind.i64))))))))) = (lagR y r x s)))
          False)
        False)
      False)
    False)
  False)) = EXD Try.prog (conOf [rfloor_e]) Try.f17 [.agg [.int .i64 y, .int .i64 r], .cel (.int .i64 x), .cel (.int .i64 s)] [] (rlag_res y r x s) := by kernel_rfl
theorem rlag_holds (y : Int) (r : Int) (x : Int) (s : Int) (p0 : decide (lagE y r x s = 0) = true) : (cnd (decide ((0 : Int) ≤ s))
  (cnd (inBig (Go.IntKind.wrap Go.IntKind.i64 ((Go.IntKind.wrap Go.IntKind.i64 (x - y)) + r)))
    (cnd (decide ((1 : Int) ≤ (Go.IntKind.wrap Go.IntKind.i64 ((1 : Int) * ((2 : Int) ^ (Min.min (Int.toNat s) (Go.IntKind.bits Go.IntKind.i64)))))))
      (cnd (inBig (Go.IntKind.wrap Go.IntKind.i64 ((1 : Int) * ((2 : Int) ^ (Min.min (Int.toNat s) (Go.IntKind.bits Go.IntKind.i64))))))
        (cnd (decide ((0 : Int) ≤ s))
          (((Go.IntKind.wrap Go.IntKind.i64 (y + ((Go.IntKind.wrap Go.IntKind.i64 ((Go.IntKind.wrap Go.IntKind.i64 (x - y)) + r)) / (Go.IntKind.wrap Go.IntKind.i64 ((1 : Int) * ((2 : Int) ^ (Min.min (Int.toNat s) (Go.IntKind.bits Go.IntKind.i64)))))))) = (lagY y r x s)) ∧ ((Go.IntKind.wrap Go.IntKind.i64 ((Go.IntKind.wrap Go.IntKind.i64 ((Go.IntKind.wrap Go.IntKind.i64 (x - y)) + r)) - (Go.IntKind.wrap Go.IntKind.i64 (((Go.IntKind.wrap Go.IntKind.i64 ((Go.IntKind.wrap Go.IntKind.i64 (x - y)) + r)) / (Go.IntKind.wrap Go.IntKind.i64 ((1 : Int) * ((2 : Int) ^ (Min.min (Int.toNat s) (Go.IntKind.bits Go.IntKind.i64)))))) * (Go.IntKind.wrap Go.IntKind.i64 ((1 : Int) * ((2 : Int) ^ (Min.min (Int.toNat s) (Go.IntKind.bits Go.IntKind.i64))))))))) = (lagR y r x s)))
          False)
        False)
      False)
    False)
  False) := by
  simp only [decide_eq_true_eq] at p0
  have hz := p0
  obtain ⟨⟨k1, k2⟩, k3, k4, k5, k6⟩ := lagE_zero.1 p0
  rw [pw_min k2]
  obtain ⟨q1, q2⟩ := pw_bd k2
  have h1 := isV_iff.1 k3
  have h2 := isV_iff.1 k6
  rw [w64 (n := 1 * pw s) (by omega) (by omega), Int.one_mul, w64 (n := x - y) (by omega) (by omega), w64 (n := x - y + r) (by omega) (by omega)]
  have h3 := Int.emod_add_mul_ediv (x - y + r) (pw s)
  have h4 := Int.emod_nonneg (x - y + r) (show pw s ≠ 0 by omega)
  have h5 := Int.emod_lt_of_pos (x - y + r) (show 0 < pw s by omega)
  have h6 : (x - y + r) / pw s * pw s = (x - y + r) - (x - y + r) % pw s := by rw [Int.mul_comm]; omega
  have h7 : -1000000000000000 ≤ (x - y + r) / pw s ∧ (x - y + r) / pw s ≤ 1000000000000000 := by
    constructor
    · refine Int.le_ediv_of_mul_le (by omega) ?_
      have := Int.mul_le_mul_of_nonneg_left q1 (show (0 : Int) ≤ 1000000000000000 by omega)
      rw [Int.neg_mul]; omega
    · refine Int.ediv_le_of_le_mul (by omega) ?_
      have := Int.mul_le_mul_of_nonneg_left q1 (show (0 : Int) ≤ 1000000000000000 by omega)
      omega
  rw [h6, w64 (n := (x - y + r) - (x - y + r) % pw s) (by omega) (by omega), w64 (n := y + (x - y + r) / pw s) (by omega) (by omega)]
  rw [show x - y + r - (x - y + r - (x - y + r) % pw s) = (x - y + r) % pw s by omega, w64 (n := (x - y + r) % pw s) (by omega) (by omega)]
  have j1 : inBig (x - y + r) = true := inBig_iff.2 (by omega)
  have j2 : inBig (pw s) = true := inBig_iff.2 (by omega)
  have j3 : decide (0 ≤ s) = true := by simpa using k1
  have j4 : decide (1 ≤ pw s) = true := by simpa using q1
  simp [j1, j2, j3, j4, cnd, lagY, lagR, hz]
theorem rlag_ok : SoundEnt Try.prog rlag_e := by
  refine ent_of_ex (Γ := (conOf [rfloor_e])) (conOf_sound (scons rfloor_ok snil)) (by kernel_rfl) Try.func17 (by kernel_rfl) (by kernel_rfl) (fun args rows res h ho => ?_)
  change rlag_go args rows = some res at h
  unfold rlag_go at h
  split at h
  · simp only [Option.some.injEq] at h
    subst h
    obtain ⟨p0, _⟩ := ho
    exact EX.of (rlag_tree _ _ _ _) (rlag_holds _ _ _ _ p0)
  · cases h
def rrate_res (y : Int) (x : Int) (u : Int) (d : Int) : CRes := ⟨[decide (rtE y x u d = 0)], .one (.cel (.int .i64 (rtZ y x u d))), []⟩
def rrate_go : List TV → List RowA → Option CRes := fun args rows =>
  match args, rows with
  | [.cel (.int .i64 y), .cel (.int .i64 x), .cel (.int .i64 u), .cel (.int .i64 d)], [] => some (rrate_res y x u d)
  | _, _ => none
def rrate_e : Ent := ⟨19, [], rrate_go⟩
set_option maxRecDepth 100000 in
theorem rrate_tree (y : Int) (x : Int) (u : Int) (d : Int) : ((cnd (decide ((Go.IntKind.wrap Go.IntKind.i64 (y + u)) < x))
  ((Go.IntKind.wrap Go.IntKind.i64 (y + u)) = (rtZ y x u d))
  (cnd (decide (x < (Go.IntKind.wrap Go.IntKind.i64 (y - d))))
    ((Go.IntKind.wrap Go.IntKind.i64 (y - d)) = (rtZ y x u d))
    (x = (rtZ y x u d))))) = EXD Try.prog (conOf []) Try.f19 [.cel (.int .i64 y), .cel (.int .i64 x), .cel (.int .i64 u), .cel (.int .i64 d)] [] (rrate_res y x u d) := by kernel_rfl
theorem rrate_holds (y : Int) (x : Int) (u : Int) (d : Int) (p0 : decide (rtE y x u d = 0) = true) : (cnd (decide ((Go.IntKind.wrap Go.IntKind.i64 (y + u)) < x))
  ((Go.IntKind.wrap Go.IntKind.i64 (y + u)) = (rtZ y x u d))
  (cnd (decide (x < (Go.IntKind.wrap Go.IntKind.i64 (y - d))))
    ((Go.IntKind.wrap Go.IntKind.i64 (y - d)) = (rtZ y x u d))
    (x = (rtZ y x u d)))) := by
  simp only [decide_eq_true_eq] at p0
  have hz := p0
  obtain ⟨k1, k2, k3, k4⟩ := rtE_zero.1 p0
  have h1 := isV_iff.1 k3
  have h2 := isV_iff.1 k4
  rw [w64 (n := y - d) (by omega) (by omega), w64 (n := y + u) (by omega) (by omega)]
  unfold rtZ
  rw [if_pos hz]
  (repeat' (first | with_reducible rfl | trivial | (refine cnd_i (fun h => ?_) (fun h => ?_)) | (refine And.intro ?_ ?_) | (intro h)))
  all_goals (simp only [Bool.and_eq_true, Bool.or_eq_true, Bool.not_eq_true', Bool.and_eq_false_iff, Bool.or_eq_false_iff, Bool.not_eq_false', decide_eq_true_eq, decide_eq_false_iff_not, Bool.not_eq_true, Bool.not_eq_false, ne_eq, gt_iff_lt, ge_iff_le, Decidable.not_not] at *)
  all_goals omega
theorem rrate_ok : SoundEnt Try.prog rrate_e := by
  refine ent_of_ex (Γ := (conOf [])) (conOf_sound snil) (by kernel_rfl) Try.func19 (by kernel_rfl) (by kernel_rfl) (fun args rows res h ho => ?_)
  change rrate_go args rows = some res at h
  unfold rrate_go at h
  split at h
  · simp only [Option.some.injEq] at h
    subst h
    obtain ⟨p0, _⟩ := ho
    exact EX.of (rrate_tree _ _ _ _) (rrate_holds _ _ _ _ p0)
  · cases h
def rgain_res (p : Int) (i : Int) (lo : Int) (hi : Int) : CRes := ⟨[], .one (.cel (.bool (gainV p i lo hi))), []⟩
def rgain_go : List TV → List RowA → Option CRes := fun args rows =>
  match args, rows with
  | [.agg [.int .i64 p, .int .i64 i, .int .i64 lo, .int .i64 hi]], [] => some (rgain_res p i lo hi)
  | _, _ => none
def rgain_e : Ent := ⟨22, [], rgain_go⟩
set_option maxRecDepth 100000 in
theorem rgain_tree (p : Int) (i : Int) (lo : Int) (hi : Int) : (((((((((decide ((0 : Int) ≤ p)) && (decide (p ≤ (65536 : Int)))) && (decide ((0 : Int) ≤ i))) && (decide (i ≤ (65536 : Int)))) && (decide ((-(1073741824 : Int)) ≤ lo))) && (decide (lo ≤ hi))) && (decide (hi ≤ (1073741824 : Int)))) = (gainV p i lo hi))) = EXD Try.prog (conOf []) Try.f22 [.agg [.int .i64 p, .int .i64 i, .int .i64 lo, .int .i64 hi]] [] (rgain_res p i lo hi) := by kernel_rfl
theorem rgain_holds (p : Int) (i : Int) (lo : Int) (hi : Int)  : ((((((((decide ((0 : Int) ≤ p)) && (decide (p ≤ (65536 : Int)))) && (decide ((0 : Int) ≤ i))) && (decide (i ≤ (65536 : Int)))) && (decide ((-(1073741824 : Int)) ≤ lo))) && (decide (lo ≤ hi))) && (decide (hi ≤ (1073741824 : Int)))) = (gainV p i lo hi)) := by
  rfl
theorem rgain_ok : SoundEnt Try.prog rgain_e := by
  refine ent_of_ex (Γ := (conOf [])) (conOf_sound snil) (by kernel_rfl) Try.func22 (by kernel_rfl) (by kernel_rfl) (fun args rows res h ho => ?_)
  change rgain_go args rows = some res at h
  unfold rgain_go at h
  split at h
  · simp only [Option.some.injEq] at h
    subst h
    skip
    exact EX.of (rgain_tree _ _ _ _) (rgain_holds _ _ _ _)
  · cases h
def rintegral_res (m : Int) : CRes := ⟨[], .one (.cel (.bool (sumV m))), []⟩
def rintegral_go : List TV → List RowA → Option CRes := fun args rows =>
  match args, rows with
  | [.agg [.int .i64 m]], [] => some (rintegral_res m)
  | _, _ => none
def rintegral_e : Ent := ⟨23, [], rintegral_go⟩
set_option maxRecDepth 100000 in
theorem rintegral_tree (m : Int) : ((((decide ((-(4398046511104 : Int)) ≤ m)) && (decide (m ≤ (4398046511104 : Int)))) = (sumV m))) = EXD Try.prog (conOf []) Try.f23 [.agg [.int .i64 m]] [] (rintegral_res m) := by kernel_rfl
theorem rintegral_holds (m : Int)  : (((decide ((-(4398046511104 : Int)) ≤ m)) && (decide (m ≤ (4398046511104 : Int)))) = (sumV m)) := by
  rfl
theorem rintegral_ok : SoundEnt Try.prog rintegral_e := by
  refine ent_of_ex (Γ := (conOf [])) (conOf_sound snil) (by kernel_rfl) Try.func23 (by kernel_rfl) (by kernel_rfl) (fun args rows res h ho => ?_)
  change rintegral_go args rows = some res at h
  unfold rintegral_go at h
  split at h
  · simp only [Option.some.injEq] at h
    subst h
    skip
    exact EX.of (rintegral_tree _) (rintegral_holds _)
  · cases h
def rctl_res (m : Int) (p : Int) (i : Int) (lo : Int) (hi : Int) (e : Int) : CRes := ⟨[decide (ctE m p i lo hi e = 0)], .tup [.agg [.int .i64 (ctM m p i lo hi e)], .cel (.int .i64 (ctU m p i lo hi e))], []⟩
def rctl_go : List TV → List RowA → Option CRes := fun args rows =>
  match args, rows with
  | [.agg [.int .i64 m], .agg [.int .i64 p, .int .i64 i, .int .i64 lo, .int .i64 hi], .cel (.int .i64 e)], [] => some (rctl_res m p i lo hi e)
  | _, _ => none
def rctl_e : Ent := ⟨24, [], rctl_go⟩
set_option maxRecDepth 100000 in
theorem rctl_tree (m : Int) (p : Int) (i : Int) (lo : Int) (hi : Int) (e : Int) : ((cnd (inBig (Go.IntKind.wrap Go.IntKind.i64 ((Go.IntKind.wrap Go.IntKind.i64 (p * e)) + m)))
  (cnd ((!((decide (hi < ((Go.IntKind.wrap Go.IntKind.i64 ((Go.IntKind.wrap Go.IntKind.i64 (p * e)) + m)) / (1024 : Int)))) && (decide ((0 : Int) < e)))) && (!((decide (((Go.IntKind.wrap Go.IntKind.i64 ((Go.IntKind.wrap Go.IntKind.i64 (p * e)) + m)) / (1024 : Int)) < lo)) && (decide (e < (0 : Int))))))
    (cnd (decide ((4398046511104 : Int) < (Go.IntKind.wrap Go.IntKind.i64 (m + (Go.IntKind.wrap Go.IntKind.i64 (i * e))))))
      (cnd (decide (hi < ((Go.IntKind.wrap Go.IntKind.i64 ((Go.IntKind.wrap Go.IntKind.i64 (p * e)) + m)) / (1024 : Int))))
        (cnd (decide (hi < lo))
          (((4398046511104 : Int) = (ctM m p i lo hi e)) ∧ (lo = (ctU m p i lo hi e)))
          (((4398046511104 : Int) = (ctM m p i lo hi e)) ∧ (hi = (ctU m p i lo hi e))))
        (cnd (decide (((Go.IntKind.wrap Go.IntKind.i64 ((Go.IntKind.wrap Go.IntKind.i64 (p * e)) + m)) / (1024 : Int)) < lo))
          (((4398046511104 : Int) = (ctM m p i lo hi e)) ∧ (lo = (ctU m p i lo hi e)))
          (((4398046511104 : Int) = (ctM m p i lo hi e)) ∧ (((Go.IntKind.wrap Go.IntKind.i64 ((Go.IntKind.wrap Go.IntKind.i64 (p * e)) + m)) / (1024 : Int)) = (ctU m p i lo hi e)))))
      (cnd (decide ((Go.IntKind.wrap Go.IntKind.i64 (m + (Go.IntKind.wrap Go.IntKind.i64 (i * e)))) < (-(4398046511104 : Int))))
        (cnd (decide (hi < ((Go.IntKind.wrap Go.IntKind.i64 ((Go.IntKind.wrap Go.IntKind.i64 (p * e)) + m)) / (1024 : Int))))
          (cnd (decide (hi < lo))
            (((-(4398046511104 : Int)) = (ctM m p i lo hi e)) ∧ (lo = (ctU m p i lo hi e)))
            (((-(4398046511104 : Int)) = (ctM m p i lo hi e)) ∧ (hi = (ctU m p i lo hi e))))
          (cnd (decide (((Go.IntKind.wrap Go.IntKind.i64 ((Go.IntKind.wrap Go.IntKind.i64 (p * e)) + m)) / (1024 : Int)) < lo))
            (((-(4398046511104 : Int)) = (ctM m p i lo hi e)) ∧ (lo = (ctU m p i lo hi e)))
            (((-(4398046511104 : Int)) = (ctM m p i lo hi e)) ∧ (((Go.IntKind.wrap Go.IntKind.i64 ((Go.IntKind.wrap Go.IntKind.i64 (p * e)) + m)) / (1024 : Int)) = (ctU m p i lo hi e)))))
        (cnd (decide (hi < ((Go.IntKind.wrap Go.IntKind.i64 ((Go.IntKind.wrap Go.IntKind.i64 (p * e)) + m)) / (1024 : Int))))
          (cnd (decide (hi < lo))
            (((Go.IntKind.wrap Go.IntKind.i64 (m + (Go.IntKind.wrap Go.IntKind.i64 (i * e)))) = (ctM m p i lo hi e)) ∧ (lo = (ctU m p i lo hi e)))
            (((Go.IntKind.wrap Go.IntKind.i64 (m + (Go.IntKind.wrap Go.IntKind.i64 (i * e)))) = (ctM m p i lo hi e)) ∧ (hi = (ctU m p i lo hi e))))
          (cnd (decide (((Go.IntKind.wrap Go.IntKind.i64 ((Go.IntKind.wrap Go.IntKind.i64 (p * e)) + m)) / (1024 : Int)) < lo))
            (((Go.IntKind.wrap Go.IntKind.i64 (m + (Go.IntKind.wrap Go.IntKind.i64 (i * e)))) = (ctM m p i lo hi e)) ∧ (lo = (ctU m p i lo hi e)))
            (((Go.IntKind.wrap Go.IntKind.i64 (m + (Go.IntKind.wrap Go.IntKind.i64 (i * e)))) = (ctM m p i lo hi e)) ∧ (((Go.IntKind.wrap Go.IntKind.i64 ((Go.IntKind.wrap Go.IntKind.i64 (p * e)) + m)) / (1024 : Int)) = (ctU m p i lo hi e)))))))
    (cnd (decide ((4398046511104 : Int) < m))
      (cnd (decide (hi < ((Go.IntKind.wrap Go.IntKind.i64 ((Go.IntKind.wrap Go.IntKind.i64 (p * e)) + m)) / (1024 : Int))))
        (cnd (decide (hi < lo))
          (((4398046511104 : Int) = (ctM m p i lo hi e)) ∧ (lo = (ctU m p i lo hi e)))
          (((4398046511104 : Int) = (ctM m p i lo hi e)) ∧ (hi = (ctU m p i lo hi e))))
        (cnd (decide (((Go.IntKind.wrap Go.IntKind.i64 ((Go.IntKind.wrap Go.IntKind.i64 (p * e)) + m)) / (1024 : Int)) < lo))
          (((4398046511104 : Int) = (ctM m p i lo hi e)) ∧ (lo = (ctU m p i lo hi e)))
          (((4398046511104 : Int) = (ctM m p i lo hi e)) ∧ (((Go.IntKind.wrap Go.IntKind.i64 ((Go.IntKind.wrap Go.IntKind.i64 (p * e)) + m)) / (1024 : Int)) = (ctU m p i lo hi e)))))
      (cnd (decide (m < (-(4398046511104 : Int))))
        (cnd (decide (hi < ((Go.IntKind.wrap Go.IntKind.i64 ((Go.IntKind.wrap Go.IntKind.i64 (p * e)) + m)) / (1024 : Int))))
          (cnd (decide (hi < lo))
            (((-(4398046511104 : Int)) = (ctM m p i lo hi e)) ∧ (lo = (ctU m p i lo hi e)))
            (((-(4398046511104 : Int)) = (ctM m p i lo hi e)) ∧ (hi = (ctU m p i lo hi e))))
          (cnd (decide (((Go.IntKind.wrap Go.IntKind.i64 ((Go.IntKind.wrap Go.IntKind.i64 (p * e)) + m)) / (1024 : Int)) < lo))
            (((-(4398046511104 : Int)) = (ctM m p i lo hi e)) ∧ (lo = (ctU m p i lo hi e)))
            (((-(4398046511104 : Int)) = (ctM m p i lo hi e)) ∧ (((Go.IntKind.wrap Go.IntKind.i64 ((Go.IntKind.wrap Go.IntKind.i64 (p * e)) + m)) / (1024 : Int)) = (ctU m p i lo hi e)))))
        (cnd (decide (hi < ((Go.IntKind.wrap Go.IntKind.i64 ((Go.IntKind.wrap Go.IntKind.i64 (p * e)) + m)) / (1024 : Int))))
          (cnd (decide (hi < lo))
            ((m = (ctM m p i lo hi e)) ∧ (lo = (ctU m p i lo hi e)))
            ((m = (ctM m p i lo hi e)) ∧ (hi = (ctU m p i lo hi e))))
          (cnd (decide (((Go.IntKind.wrap Go.IntKind.i64 ((Go.IntKind.wrap Go.IntKind.i64 (p * e)) + m)) / (1024 : Int)) < lo))
            ((m = (ctM m p i lo hi e)) ∧ (lo = (ctU m p i lo hi e)))
            ((m = (ctM m p i lo hi e)) ∧ (((Go.IntKind.wrap Go.IntKind.i64 ((Go.IntKind.wrap Go.IntKind.i64 (p * e)) + m)) / (1024 : Int)) = (ctU m p i lo hi e))))))))
  False)) = EXD Try.prog (conOf [rfloor_e]) Try.f24 [.agg [.int .i64 m], .agg [.int .i64 p, .int .i64 i, .int .i64 lo, .int .i64 hi], .cel (.int .i64 e)] [] (rctl_res m p i lo hi e) := by kernel_rfl
theorem rctl_holds (m : Int) (p : Int) (i : Int) (lo : Int) (hi : Int) (e : Int) (p0 : decide (ctE m p i lo hi e = 0) = true) : (cnd (inBig (Go.IntKind.wrap Go.IntKind.i64 ((Go.IntKind.wrap Go.IntKind.i64 (p * e)) + m)))
  (cnd ((!((decide (hi < ((Go.IntKind.wrap Go.IntKind.i64 ((Go.IntKind.wrap Go.IntKind.i64 (p * e)) + m)) / (1024 : Int)))) && (decide ((0 : Int) < e)))) && (!((decide (((Go.IntKind.wrap Go.IntKind.i64 ((Go.IntKind.wrap Go.IntKind.i64 (p * e)) + m)) / (1024 : Int)) < lo)) && (decide (e < (0 : Int))))))
    (cnd (decide ((4398046511104 : Int) < (Go.IntKind.wrap Go.IntKind.i64 (m + (Go.IntKind.wrap Go.IntKind.i64 (i * e))))))
      (cnd (decide (hi < ((Go.IntKind.wrap Go.IntKind.i64 ((Go.IntKind.wrap Go.IntKind.i64 (p * e)) + m)) / (1024 : Int))))
        (cnd (decide (hi < lo))
          (((4398046511104 : Int) = (ctM m p i lo hi e)) ∧ (lo = (ctU m p i lo hi e)))
          (((4398046511104 : Int) = (ctM m p i lo hi e)) ∧ (hi = (ctU m p i lo hi e))))
        (cnd (decide (((Go.IntKind.wrap Go.IntKind.i64 ((Go.IntKind.wrap Go.IntKind.i64 (p * e)) + m)) / (1024 : Int)) < lo))
          (((4398046511104 : Int) = (ctM m p i lo hi e)) ∧ (lo = (ctU m p i lo hi e)))
          (((4398046511104 : Int) = (ctM m p i lo hi e)) ∧ (((Go.IntKind.wrap Go.IntKind.i64 ((Go.IntKind.wrap Go.IntKind.i64 (p * e)) + m)) / (1024 : Int)) = (ctU m p i lo hi e)))))
      (cnd (decide ((Go.IntKind.wrap Go.IntKind.i64 (m + (Go.IntKind.wrap Go.IntKind.i64 (i * e)))) < (-(4398046511104 : Int))))
        (cnd (decide (hi < ((Go.IntKind.wrap Go.IntKind.i64 ((Go.IntKind.wrap Go.IntKind.i64 (p * e)) + m)) / (1024 : Int))))
          (cnd (decide (hi < lo))
            (((-(4398046511104 : Int)) = (ctM m p i lo hi e)) ∧ (lo = (ctU m p i lo hi e)))
            (((-(4398046511104 : Int)) = (ctM m p i lo hi e)) ∧ (hi = (ctU m p i lo hi e))))
          (cnd (decide (((Go.IntKind.wrap Go.IntKind.i64 ((Go.IntKind.wrap Go.IntKind.i64 (p * e)) + m)) / (1024 : Int)) < lo))
            (((-(4398046511104 : Int)) = (ctM m p i lo hi e)) ∧ (lo = (ctU m p i lo hi e)))
            (((-(4398046511104 : Int)) = (ctM m p i lo hi e)) ∧ (((Go.IntKind.wrap Go.IntKind.i64 ((Go.IntKind.wrap Go.IntKind.i64 (p * e)) + m)) / (1024 : Int)) = (ctU m p i lo hi e)))))
        (cnd (decide (hi < ((Go.IntKind.wrap Go.IntKind.i64 ((Go.IntKind.wrap Go.IntKind.i64 (p * e)) + m)) / (1024 : Int))))
          (cnd (decide (hi < lo))
            (((Go.IntKind.wrap Go.IntKind.i64 (m + (Go.IntKind.wrap Go.IntKind.i64 (i * e)))) = (ctM m p i lo hi e)) ∧ (lo = (ctU m p i lo hi e)))
            (((Go.IntKind.wrap Go.IntKind.i64 (m + (Go.IntKind.wrap Go.IntKind.i64 (i * e)))) = (ctM m p i lo hi e)) ∧ (hi = (ctU m p i lo hi e))))
          (cnd (decide (((Go.IntKind.wrap Go.IntKind.i64 ((Go.IntKind.wrap Go.IntKind.i64 (p * e)) + m)) / (1024 : Int)) < lo))
            (((Go.IntKind.wrap Go.IntKind.i64 (m + (Go.IntKind.wrap Go.IntKind.i64 (i * e)))) = (ctM m p i lo hi e)) ∧ (lo = (ctU m p i lo hi e)))
            (((Go.IntKind.wrap Go.IntKind.i64 (m + (Go.IntKind.wrap Go.IntKind.i64 (i * e)))) = (ctM m p i lo hi e)) ∧ (((Go.IntKind.wrap Go.IntKind.i64 ((Go.IntKind.wrap Go.IntKind.i64 (p * e)) + m)) / (1024 : Int)) = (ctU m p i lo hi e)))))))
    (cnd (decide ((4398046511104 : Int) < m))
      (cnd (decide (hi < ((Go.IntKind.wrap Go.IntKind.i64 ((Go.IntKind.wrap Go.IntKind.i64 (p * e)) + m)) / (1024 : Int))))
        (cnd (decide (hi < lo))
          (((4398046511104 : Int) = (ctM m p i lo hi e)) ∧ (lo = (ctU m p i lo hi e)))
          (((4398046511104 : Int) = (ctM m p i lo hi e)) ∧ (hi = (ctU m p i lo hi e))))
        (cnd (decide (((Go.IntKind.wrap Go.IntKind.i64 ((Go.IntKind.wrap Go.IntKind.i64 (p * e)) + m)) / (1024 : Int)) < lo))
          (((4398046511104 : Int) = (ctM m p i lo hi e)) ∧ (lo = (ctU m p i lo hi e)))
          (((4398046511104 : Int) = (ctM m p i lo hi e)) ∧ (((Go.IntKind.wrap Go.IntKind.i64 ((Go.IntKind.wrap Go.IntKind.i64 (p * e)) + m)) / (1024 : Int)) = (ctU m p i lo hi e)))))
      (cnd (decide (m < (-(4398046511104 : Int))))
        (cnd (decide (hi < ((Go.IntKind.wrap Go.IntKind.i64 ((Go.IntKind.wrap Go.IntKind.i64 (p * e)) + m)) / (1024 : Int))))
          (cnd (decide (hi < lo))
            (((-(4398046511104 : Int)) = (ctM m p i lo hi e)) ∧ (lo = (ctU m p i lo hi e)))
            (((-(4398046511104 : Int)) = (ctM m p i lo hi e)) ∧ (hi = (ctU m p i lo hi e))))
          (cnd (decide (((Go.IntKind.wrap Go.IntKind.i64 ((Go.IntKind.wrap Go.IntKind.i64 (p * e)) + m)) / (1024 : Int)) < lo))
            (((-(4398046511104 : Int)) = (ctM m p i lo hi e)) ∧ (lo = (ctU m p i lo hi e)))
            (((-(4398046511104 : Int)) = (ctM m p i lo hi e)) ∧ (((Go.IntKind.wrap Go.IntKind.i64 ((Go.IntKind.wrap Go.IntKind.i64 (p * e)) + m)) / (1024 : Int)) = (ctU m p i lo hi e)))))
        (cnd (decide (hi < ((Go.IntKind.wrap Go.IntKind.i64 ((Go.IntKind.wrap Go.IntKind.i64 (p * e)) + m)) / (1024 : Int))))
          (cnd (decide (hi < lo))
            ((m = (ctM m p i lo hi e)) ∧ (lo = (ctU m p i lo hi e)))
            ((m = (ctM m p i lo hi e)) ∧ (hi = (ctU m p i lo hi e))))
          (cnd (decide (((Go.IntKind.wrap Go.IntKind.i64 ((Go.IntKind.wrap Go.IntKind.i64 (p * e)) + m)) / (1024 : Int)) < lo))
            ((m = (ctM m p i lo hi e)) ∧ (lo = (ctU m p i lo hi e)))
            ((m = (ctM m p i lo hi e)) ∧ (((Go.IntKind.wrap Go.IntKind.i64 ((Go.IntKind.wrap Go.IntKind.i64 (p * e)) + m)) / (1024 : Int)) = (ctU m p i lo hi e))))))))
  False) := by
  simp only [decide_eq_true_eq] at p0
  have hz := p0
  obtain ⟨k1, k2, k3⟩ := ctE_zero.1 p0
  have hs := sumV_iff.1 k2
  have hg := gainV_iff.1 k1
  have b1 := mulB (p := p) (e := e) (A := 65536) (B := 1048576) (by omega) (by omega) (by omega) (by omega) (by omega)
  have b2 := mulB (p := i) (e := e) (A := 65536) (B := 1048576) (by omega) (by omega) (by omega) (by omega) (by omega)
  rw [w64 (n := p * e) (by omega) (by omega), w64 (n := i * e) (by omega) (by omega), w64 (n := p * e + m) (by omega) (by omega), w64 (n := m + i * e) (by omega) (by omega)]
  have j1 : inBig (p * e + m) = true := inBig_iff.2 (by omega)
  unfold ctM ctU
  rw [if_pos hz, if_pos hz, j1]
  unfold ctG ctF
  generalize (p * e + m) / 1024 = f
  generalize m + i * e = g
  clear b1 b2 j1 p0 hz
  (repeat' (first | with_reducible rfl | trivial | (refine cnd_i (fun h => ?_) (fun h => ?_)) | (refine And.intro ?_ ?_) | (intro h)))
  all_goals (simp only [Bool.and_eq_true, Bool.or_eq_true, Bool.not_eq_true', Bool.and_eq_false_iff, Bool.or_eq_false_iff, Bool.not_eq_false', decide_eq_true_eq, decide_eq_false_iff_not, Bool.not_eq_true, Bool.not_eq_false, ne_eq, gt_iff_lt, ge_iff_le, Decidable.not_not] at *)
  all_goals (first | omega | (split <;> omega))
theorem rctl_ok : SoundEnt Try.prog rctl_e := by
  refine ent_of_ex (Γ := (conOf [rfloor_e])) (conOf_sound (scons rfloor_ok snil)) (by kernel_rfl) Try.func24 (by kernel_rfl) (by kernel_rfl) (fun args rows res h ho => ?_)
  change rctl_go args rows = some res at h
  unfold rctl_go at h
  split at h
  · simp only [Option.some.injEq] at h
    subst h
    obtain ⟨p0, _⟩ := ho
    exact EX.of (rctl_tree _ _ _ _ _ _) (rctl_holds _ _ _ _ _ _ p0)
  · cases h
def rhyst_res (on : Bool) (x : Int) (lo : Int) (hi : Int) : CRes := ⟨[], .one (.cel (.bool (decide (hi ≤ x) || (decide (lo ≤ x) && on)))), []⟩
def rhyst_go : List TV → List RowA → Option CRes := fun args rows =>
  match args, rows with
  | [.cel (.bool on), .cel (.int .i64 x), .cel (.int .i64 lo), .cel (.int .i64 hi)], [] => some (rhyst_res on x lo hi)
  | _, _ => none
def rhyst_e : Ent := ⟨26, [], rhyst_go⟩
set_option maxRecDepth 100000 in
theorem rhyst_tree (on : Bool) (x : Int) (lo : Int) (hi : Int) : ((((decide (hi ≤ x)) || ((decide (lo ≤ x)) && on)) = ((decide (hi ≤ x)) || ((decide (lo ≤ x)) && on)))) = EXD Try.prog (conOf []) Try.f26 [.cel (.bool on), .cel (.int .i64 x), .cel (.int .i64 lo), .cel (.int .i64 hi)] [] (rhyst_res on x lo hi) := by kernel_rfl
theorem rhyst_holds (on : Bool) (x : Int) (lo : Int) (hi : Int)  : (((decide (hi ≤ x)) || ((decide (lo ≤ x)) && on)) = ((decide (hi ≤ x)) || ((decide (lo ≤ x)) && on))) := by
  rfl
theorem rhyst_ok : SoundEnt Try.prog rhyst_e := by
  refine ent_of_ex (Γ := (conOf [])) (conOf_sound snil) (by kernel_rfl) Try.func26 (by kernel_rfl) (by kernel_rfl) (fun args rows res h ho => ?_)
  change rhyst_go args rows = some res at h
  unfold rhyst_go at h
  split at h
  · simp only [Option.some.injEq] at h
    subst h
    skip
    exact EX.of (rhyst_tree _ _ _ _) (rhyst_holds _ _ _ _)
  · cases h
def fhyst_res (on : Bool) (x : Int) (lo : Int) (hi : Int) : CRes := ⟨[], .one (.cel (.bool (decide (hi ≤ x) || (decide (lo ≤ x) && on)))), []⟩
def fhyst_go : List TV → List RowA → Option CRes := fun args rows =>
  match args, rows with
  | [.cel (.bool on), .cel (.int .i64 x), .cel (.int .i64 lo), .cel (.int .i64 hi)], [] => some (fhyst_res on x lo hi)
  | _, _ => none
def fhyst_e : Ent := ⟨25, [], fhyst_go⟩
set_option maxRecDepth 100000 in
theorem fhyst_tree (on : Bool) (x : Int) (lo : Int) (hi : Int) : ((cnd (decide (hi ≤ x))
  (Bool.true = ((decide (hi ≤ x)) || ((decide (lo ≤ x)) && on)))
  (cnd (decide (x < lo))
    (Bool.false = ((decide (hi ≤ x)) || ((decide (lo ≤ x)) && on)))
    (on = ((decide (hi ≤ x)) || ((decide (lo ≤ x)) && on)))))) = EXD Try.prog (conOf []) Try.f25 [.cel (.bool on), .cel (.int .i64 x), .cel (.int .i64 lo), .cel (.int .i64 hi)] [] (fhyst_res on x lo hi) := by kernel_rfl
theorem fhyst_holds (on : Bool) (x : Int) (lo : Int) (hi : Int)  : (cnd (decide (hi ≤ x))
  (Bool.true = ((decide (hi ≤ x)) || ((decide (lo ≤ x)) && on)))
  (cnd (decide (x < lo))
    (Bool.false = ((decide (hi ≤ x)) || ((decide (lo ≤ x)) && on)))
    (on = ((decide (hi ≤ x)) || ((decide (lo ≤ x)) && on))))) := by
  (repeat' (first | with_reducible rfl | trivial | (refine cnd_i (fun h => ?_) (fun h => ?_)) | (refine And.intro ?_ ?_) | (intro h)))
  all_goals (simp only [Bool.and_eq_true, Bool.or_eq_true, Bool.not_eq_true', Bool.and_eq_false_iff, Bool.or_eq_false_iff, Bool.not_eq_false', decide_eq_true_eq, decide_eq_false_iff_not, Bool.not_eq_true, Bool.not_eq_false, ne_eq, gt_iff_lt, ge_iff_le, Decidable.not_not] at *)
  all_goals (first | (rw [decide_eq_true (by omega : hi ≤ x)]; rfl) | (rw [decide_eq_false (by omega : ¬ hi ≤ x), decide_eq_true (by omega : lo ≤ x)]; rfl) | (rw [decide_eq_false (by omega : ¬ hi ≤ x), decide_eq_false (by omega : ¬ lo ≤ x)]; rfl))
theorem fhyst_ok : SoundEnt Try.prog fhyst_e := by
  refine ent_of_ex (Γ := (conOf [])) (conOf_sound snil) (by kernel_rfl) Try.func25 (by kernel_rfl) (by kernel_rfl) (fun args rows res h ho => ?_)
  change fhyst_go args rows = some res at h
  unfold fhyst_go at h
  split at h
  · simp only [Option.some.injEq] at h
    subst h
    skip
    exact EX.of (fhyst_tree _ _ _ _) (fhyst_holds _ _ _ _)
  · cases h
def rsteps_res (n : Int) : CRes := ⟨[], .one (.cel (.bool (decide (1 ≤ n) && decide (n ≤ 1000)))), []⟩
def rsteps_go : List TV → List RowA → Option CRes := fun args rows =>
  match args, rows with
  | [.cel (.int .i64 n)], [] => some (rsteps_res n)
  | _, _ => none
def rsteps_e : Ent := ⟨28, [], rsteps_go⟩
set_option maxRecDepth 100000 in
theorem rsteps_tree (n : Int) : ((((decide ((1 : Int) ≤ n)) && (decide (n ≤ (1000 : Int)))) = ((decide ((1 : Int) ≤ n)) && (decide (n ≤ (1000 : Int)))))) = EXD Try.prog (conOf []) Try.f28 [.cel (.int .i64 n)] [] (rsteps_res n) := by kernel_rfl
theorem rsteps_holds (n : Int)  : (((decide ((1 : Int) ≤ n)) && (decide (n ≤ (1000 : Int)))) = ((decide ((1 : Int) ≤ n)) && (decide (n ≤ (1000 : Int))))) := by
  rfl
theorem rsteps_ok : SoundEnt Try.prog rsteps_e := by
  refine ent_of_ex (Γ := (conOf [])) (conOf_sound snil) (by kernel_rfl) Try.func28 (by kernel_rfl) (by kernel_rfl) (fun args rows res h ho => ?_)
  change rsteps_go args rows = some res at h
  unfold rsteps_go at h
  split at h
  · simp only [Option.some.injEq] at h
    subst h
    skip
    exact EX.of (rsteps_tree _) (rsteps_holds _)
  · cases h
def rbounce_res (c : Int) (o : Bool) (r : Bool) (u : Int) (d : Int) (l : Int) : CRes := ⟨[decide (bE c u d l = 0)], .one (.agg [.int .i64 (bC c r u d l), .bool (bO c o r u d l)]), []⟩
def rbounce_go : List TV → List RowA → Option CRes := fun args rows =>
  match args, rows with
  | [.agg [.int .i64 c, .bool o], .cel (.bool r), .cel (.int .i64 u), .cel (.int .i64 d), .cel (.int .i64 l)], [] => some (rbounce_res c o r u d l)
  | _, _ => none
def rbounce_e : Ent := ⟨29, [], rbounce_go⟩
set_option maxRecDepth 100000 in
theorem rbounce_tree (c : Int) (o : Bool) (r : Bool) (u : Int) (d : Int) (l : Int) : ((cnd r
  (cnd (decide (l ≤ (Go.IntKind.wrap Go.IntKind.i64 (c + u))))
    ((l = (bC c r u d l)) ∧ (Bool.true = (bO c o r u d l)))
    (cnd (decide ((Go.IntKind.wrap Go.IntKind.i64 (c + u)) ≤ (0 : Int)))
      (((0 : Int) = (bC c r u d l)) ∧ (Bool.false = (bO c o r u d l)))
      (((Go.IntKind.wrap Go.IntKind.i64 (c + u)) = (bC c r u d l)) ∧ (o = (bO c o r u d l)))))
  (cnd (decide (l ≤ (Go.IntKind.wrap Go.IntKind.i64 (c - d))))
    ((l = (bC c r u d l)) ∧ (Bool.true = (bO c o r u d l)))
    (cnd (decide ((Go.IntKind.wrap Go.IntKind.i64 (c - d)) ≤ (0 : Int)))
      (((0 : Int) = (bC c r u d l)) ∧ (Bool.false = (bO c o r u d l)))
      (((Go.IntKind.wrap Go.IntKind.i64 (c - d)) = (bC c r u d l)) ∧ (o = (bO c o r u d l))))))) = EXD Try.prog (conOf []) Try.f29 [.agg [.int .i64 c, .bool o], .cel (.bool r), .cel (.int .i64 u), .cel (.int .i64 d), .cel (.int .i64 l)] [] (rbounce_res c o r u d l) := by kernel_rfl
theorem rbounce_holds (c : Int) (o : Bool) (r : Bool) (u : Int) (d : Int) (l : Int) (p0 : decide (bE c u d l = 0) = true) : (cnd r
  (cnd (decide (l ≤ (Go.IntKind.wrap Go.IntKind.i64 (c + u))))
    ((l = (bC c r u d l)) ∧ (Bool.true = (bO c o r u d l)))
    (cnd (decide ((Go.IntKind.wrap Go.IntKind.i64 (c + u)) ≤ (0 : Int)))
      (((0 : Int) = (bC c r u d l)) ∧ (Bool.false = (bO c o r u d l)))
      (((Go.IntKind.wrap Go.IntKind.i64 (c + u)) = (bC c r u d l)) ∧ (o = (bO c o r u d l)))))
  (cnd (decide (l ≤ (Go.IntKind.wrap Go.IntKind.i64 (c - d))))
    ((l = (bC c r u d l)) ∧ (Bool.true = (bO c o r u d l)))
    (cnd (decide ((Go.IntKind.wrap Go.IntKind.i64 (c - d)) ≤ (0 : Int)))
      (((0 : Int) = (bC c r u d l)) ∧ (Bool.false = (bO c o r u d l)))
      (((Go.IntKind.wrap Go.IntKind.i64 (c - d)) = (bC c r u d l)) ∧ (o = (bO c o r u d l)))))) := by
  simp only [decide_eq_true_eq] at p0
  have hz := p0
  obtain ⟨k1, k2, k3, k4⟩ := bE_zero.1 p0
  rw [w64 (n := c + u) (by omega) (by omega), w64 (n := c - d) (by omega) (by omega)]
  unfold bC bO bK
  rw [if_pos hz, if_pos hz]
  clear p0 hz
  cases r
  · simp only [cnd, Bool.false_eq_true, if_false]
    (repeat' (first | with_reducible rfl | trivial | (refine cnd_i (fun h => ?_) (fun h => ?_)) | (refine And.intro ?_ ?_) | (intro h)))
    all_goals (simp only [Bool.and_eq_true, Bool.or_eq_true, Bool.not_eq_true', Bool.and_eq_false_iff, Bool.or_eq_false_iff, Bool.not_eq_false', decide_eq_true_eq, decide_eq_false_iff_not, Bool.not_eq_true, Bool.not_eq_false, ne_eq, gt_iff_lt, ge_iff_le, Decidable.not_not] at *)
    all_goals (first | omega | (rw [if_neg (by omega), if_pos (by omega)]) | (rw [if_neg (by omega), if_neg (by omega)]))
  · simp only [cnd, if_true]
    (repeat' (first | with_reducible rfl | trivial | (refine cnd_i (fun h => ?_) (fun h => ?_)) | (refine And.intro ?_ ?_) | (intro h)))
    all_goals (simp only [Bool.and_eq_true, Bool.or_eq_true, Bool.not_eq_true', Bool.and_eq_false_iff, Bool.or_eq_false_iff, Bool.not_eq_false', decide_eq_true_eq, decide_eq_false_iff_not, Bool.not_eq_true, Bool.not_eq_false, ne_eq, gt_iff_lt, ge_iff_le, Decidable.not_not] at *)
    all_goals (first | omega | (rw [if_pos (by omega)]) | (rw [if_neg (by omega), if_neg (by omega)]))
theorem rbounce_ok : SoundEnt Try.prog rbounce_e := by
  refine ent_of_ex (Γ := (conOf [])) (conOf_sound snil) (by kernel_rfl) Try.func29 (by kernel_rfl) (by kernel_rfl) (fun args rows res h ho => ?_)
  change rbounce_go args rows = some res at h
  unfold rbounce_go at h
  split at h
  · simp only [Option.some.injEq] at h
    subst h
    obtain ⟨p0, _⟩ := ho
    exact EX.of (rbounce_tree _ _ _ _ _ _) (rbounce_holds _ _ _ _ _ _ p0)
  · cases h
def fperm_res (n : Int) : CRes := ⟨[], .one (.cel (.bool (decide (1 ≤ n) && decide (n ≤ 1000)))), []⟩
def fperm_go : List TV → List RowA → Option CRes := fun args rows =>
  match args, rows with
  | [.cel (.int .i64 n)], [] => some (fperm_res n)
  | _, _ => none
def fperm_e : Ent := ⟨44, [], fperm_go⟩
set_option maxRecDepth 100000 in
theorem fperm_tree (n : Int) : ((((decide ((1 : Int) ≤ n)) && (decide (n ≤ (1000 : Int)))) = ((decide ((1 : Int) ≤ n)) && (decide (n ≤ (1000 : Int)))))) = EXD Try.prog (conOf []) Try.f44 [.cel (.int .i64 n)] [] (fperm_res n) := by kernel_rfl
theorem fperm_holds (n : Int)  : (((decide ((1 : Int) ≤ n)) && (decide (n ≤ (1000 : Int)))) = ((decide ((1 : Int) ≤ n)) && (decide (n ≤ (1000 : Int))))) := by
  rfl
theorem fperm_ok : SoundEnt Try.prog fperm_e := by
  refine ent_of_ex (Γ := (conOf [])) (conOf_sound snil) (by kernel_rfl) Try.func44 (by kernel_rfl) (by kernel_rfl) (fun args rows res h ho => ?_)
  change fperm_go args rows = some res at h
  unfold fperm_go at h
  split at h
  · simp only [Option.some.injEq] at h
    subst h
    skip
    exact EX.of (fperm_tree _) (fperm_holds _)
  · cases h
def fbounce_res (c : Int) (o : Bool) (r : Bool) (u : Int) (d : Int) (l : Int) : CRes := ⟨[], .tup [.agg [.int .i64 (bC c r u d l), .bool (bO c o r u d l)], .cel (.int .i64 (bE c u d l))], []⟩
def fbounce_go : List TV → List RowA → Option CRes := fun args rows =>
  match args, rows with
  | [.agg [.int .i64 c, .bool o], .cel (.bool r), .cel (.int .i64 u), .cel (.int .i64 d), .cel (.int .i64 l)], [] => some (fbounce_res c o r u d l)
  | _, _ => none
def fbounce_e : Ent := ⟨27, [], fbounce_go⟩
set_option maxRecDepth 100000 in
theorem fbounce_tree (c : Int) (o : Bool) (r : Bool) (u : Int) (d : Int) (l : Int) : ((cnd (((!((decide ((1 : Int) ≤ u)) && (decide (u ≤ (1000 : Int))))) || (!((decide ((1 : Int) ≤ d)) && (decide (d ≤ (1000 : Int)))))) || (!((decide ((1 : Int) ≤ l)) && (decide (l ≤ (1000 : Int))))))
  ((((0 : Int) = (bC c r u d l)) ∧ (Bool.false = (bO c o r u d l))) ∧ ((2 : Int) = (bE c u d l)))
  (cnd ((decide (c < (0 : Int))) || (decide (l < c)))
    ((((0 : Int) = (bC c r u d l)) ∧ (Bool.false = (bO c o r u d l))) ∧ ((1 : Int) = (bE c u d l)))
    (cnd r
      (cnd (decide ((gmin l (Go.IntKind.wrap Go.IntKind.i64 (c + u))) = l))
        ((((gmin l (Go.IntKind.wrap Go.IntKind.i64 (c + u))) = (bC c r u d l)) ∧ (Bool.true = (bO c o r u d l))) ∧ ((0 : Int) = (bE c u d l)))
        (cnd (decide ((gmin l (Go.IntKind.wrap Go.IntKind.i64 (c + u))) = (0 : Int)))
          ((((gmin l (Go.IntKind.wrap Go.IntKind.i64 (c + u))) = (bC c r u d l)) ∧ (Bool.false = (bO c o r u d l))) ∧ ((0 : Int) = (bE c u d l)))
          ((((gmin l (Go.IntKind.wrap Go.IntKind.i64 (c + u))) = (bC c r u d l)) ∧ (o = (bO c o r u d l))) ∧ ((0 : Int) = (bE c u d l)))))
      (cnd (decide ((gmax (0 : Int) (Go.IntKind.wrap Go.IntKind.i64 (c - d))) = l))
        ((((gmax (0 : Int) (Go.IntKind.wrap Go.IntKind.i64 (c - d))) = (bC c r u d l)) ∧ (Bool.true = (bO c o r u d l))) ∧ ((0 : Int) = (bE c u d l)))
        (cnd (decide ((gmax (0 : Int) (Go.IntKind.wrap Go.IntKind.i64 (c - d))) = (0 : Int)))
          ((((gmax (0 : Int) (Go.IntKind.wrap Go.IntKind.i64 (c - d))) = (bC c r u d l)) ∧ (Bool.false = (bO c o r u d l))) ∧ ((0 : Int) = (bE c u d l)))
          ((((gmax (0 : Int) (Go.IntKind.wrap Go.IntKind.i64 (c - d))) = (bC c r u d l)) ∧ (o = (bO c o r u d l))) ∧ ((0 : Int) = (bE c u d l))))))))) = EXD Try.prog (conOf [fperm_e]) Try.f27 [.agg [.int .i64 c, .bool o], .cel (.bool r), .cel (.int .i64 u), .cel (.int .i64 d), .cel (.int .i64 l)] [] (fbounce_res c o r u d l) := by kernel_rfl
theorem fbounce_holds (c : Int) (o : Bool) (r : Bool) (u : Int) (d : Int) (l : Int)  : (cnd (((!((decide ((1 : Int) ≤ u)) && (decide (u ≤ (1000 : Int))))) || (!((decide ((1 : Int) ≤ d)) && (decide (d ≤ (1000 : Int)))))) || (!((decide ((1 : Int) ≤ l)) && (decide (l ≤ (1000 : Int))))))
  ((((0 : Int) = (bC c r u d l)) ∧ (Bool.false = (bO c o r u d l))) ∧ ((2 : Int) = (bE c u d l)))
  (cnd ((decide (c < (0 : Int))) || (decide (l < c)))
    ((((0 : Int) = (bC c r u d l)) ∧ (Bool.false = (bO c o r u d l))) ∧ ((1 : Int) = (bE c u d l)))
    (cnd r
      (cnd (decide ((gmin l (Go.IntKind.wrap Go.IntKind.i64 (c + u))) = l))
        ((((gmin l (Go.IntKind.wrap Go.IntKind.i64 (c + u))) = (bC c r u d l)) ∧ (Bool.true = (bO c o r u d l))) ∧ ((0 : Int) = (bE c u d l)))
        (cnd (decide ((gmin l (Go.IntKind.wrap Go.IntKind.i64 (c + u))) = (0 : Int)))
          ((((gmin l (Go.IntKind.wrap Go.IntKind.i64 (c + u))) = (bC c r u d l)) ∧ (Bool.false = (bO c o r u d l))) ∧ ((0 : Int) = (bE c u d l)))
          ((((gmin l (Go.IntKind.wrap Go.IntKind.i64 (c + u))) = (bC c r u d l)) ∧ (o = (bO c o r u d l))) ∧ ((0 : Int) = (bE c u d l)))))
      (cnd (decide ((gmax (0 : Int) (Go.IntKind.wrap Go.IntKind.i64 (c - d))) = l))
        ((((gmax (0 : Int) (Go.IntKind.wrap Go.IntKind.i64 (c - d))) = (bC c r u d l)) ∧ (Bool.true = (bO c o r u d l))) ∧ ((0 : Int) = (bE c u d l)))
        (cnd (decide ((gmax (0 : Int) (Go.IntKind.wrap Go.IntKind.i64 (c - d))) = (0 : Int)))
          ((((gmax (0 : Int) (Go.IntKind.wrap Go.IntKind.i64 (c - d))) = (bC c r u d l)) ∧ (Bool.false = (bO c o r u d l))) ∧ ((0 : Int) = (bE c u d l)))
          ((((gmax (0 : Int) (Go.IntKind.wrap Go.IntKind.i64 (c - d))) = (bC c r u d l)) ∧ (o = (bO c o r u d l))) ∧ ((0 : Int) = (bE c u d l)))))))) := by
  by_cases hs : isS u = true ∧ isS d = true ∧ isS l = true
  · have hu := isS_iff.1 hs.1
    have hd := isS_iff.1 hs.2.1
    have hl := isS_iff.1 hs.2.2
    change cnd ((!isS u || !isS d) || !isS l) _ _
    have j : ((!isS u || !isS d) || !isS l) = false := by simp [hs]
    simp only [j, cnd]
    by_cases hc : 0 ≤ c ∧ c ≤ l
    · have hz : bE c u d l = 0 := bE_zero.2 ⟨hu, hd, hl, hc⟩
      have j2 : (decide (c < 0) || decide (l < c)) = false := by simp; omega
      rw [w64 (n := c + u) (by omega) (by omega), w64 (n := c - d) (by omega) (by omega)]
      simp only [j2, hz, gmin_eq, gmax_eq]
      unfold bC bO bK
      rw [if_pos hz, if_pos hz]
      cases r
      · simp only [Bool.false_eq_true, if_false]
        (repeat' (first | with_reducible rfl | trivial | (refine cnd_i (fun h => ?_) (fun h => ?_)) | (refine And.intro ?_ ?_) | (intro h)))
        all_goals (simp only [Bool.and_eq_true, Bool.or_eq_true, Bool.not_eq_true', Bool.and_eq_false_iff, Bool.or_eq_false_iff, Bool.not_eq_false', decide_eq_true_eq, decide_eq_false_iff_not, Bool.not_eq_true, Bool.not_eq_false, ne_eq, gt_iff_lt, ge_iff_le, Decidable.not_not] at *)
        all_goals (first | (exfalso; omega) | (rw [if_pos (by omega)]) | (rw [if_neg (by omega), if_pos (by omega)]) | (rw [if_neg (by omega), if_neg (by omega)]))
      · simp only [if_true]
        (repeat' (first | with_reducible rfl | trivial | (refine cnd_i (fun h => ?_) (fun h => ?_)) | (refine And.intro ?_ ?_) | (intro h)))
        all_goals (simp only [Bool.and_eq_true, Bool.or_eq_true, Bool.not_eq_true', Bool.and_eq_false_iff, Bool.or_eq_false_iff, Bool.not_eq_false', decide_eq_true_eq, decide_eq_false_iff_not, Bool.not_eq_true, Bool.not_eq_false, ne_eq, gt_iff_lt, ge_iff_le, Decidable.not_not] at *)
        all_goals (first | (exfalso; omega) | (rw [if_pos (by omega)]) | (rw [if_neg (by omega), if_pos (by omega)]) | (rw [if_neg (by omega), if_neg (by omega)]))
    · have hz : bE c u d l = 1 := by unfold bE; rw [if_pos (by simp [hs]), if_neg hc]
      have j2 : (decide (c < 0) || decide (l < c)) = true := by simp; omega
      simp [j2, bC, bO, hz]
  · change cnd ((!isS u || !isS d) || !isS l) _ _
    have j : ((!isS u || !isS d) || !isS l) = true := by
      cases h1 : isS u <;> cases h2 : isS d <;> cases h3 : isS l <;> simp [h1, h2, h3] at hs ⊢
    have hz : bE c u d l = 2 := by unfold bE; rw [if_neg]; simpa [and_assoc] using hs
    simp [j, cnd, bC, bO, hz]
theorem fbounce_ok : SoundEnt Try.prog fbounce_e := by
  refine ent_of_ex (Γ := (conOf [fperm_e])) (conOf_sound (scons fperm_ok snil)) (by kernel_rfl) Try.func27 (by kernel_rfl) (by kernel_rfl) (fun args rows res h ho => ?_)
  change fbounce_go args rows = some res at h
  unfold fbounce_go at h
  split at h
  · simp only [Option.some.injEq] at h
    subst h
    skip
    exact EX.of (fbounce_tree _ _ _ _ _ _) (fbounce_holds _ _ _ _ _ _)
  · cases h
end Go.Proofs.Ytoflhcdhgkbdcaa

