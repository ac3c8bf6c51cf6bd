/- The wheel's synchronization by the symbolic run: the law of shifts. -/
import Derived.Test.YtcaadikffaflnaaS5
namespace Go.Proofs.Ytcaadikffaflnaa
set_option linter.unusedVariables false
set_option linter.unusedSimpArgs false
open Go.RowKit

def okT (t : Int) : Bool := !(decide (t < 0) || decide (274877906944 < t))
def firstBad2 : List Int → Int
  | [] => -1
  | x :: l => if okT x then (if firstBad2 l = -1 then -1 else firstBad2 l + 1) else 0
theorem firstBad2_cons (x : Int) (l : List Int) : firstBad2 (x :: l) = if okT x = true then (if firstBad2 l = -1 then -1 else firstBad2 l + 1) else 0 := by rw [firstBad2]
theorem firstBad2_bd : ∀ l : List Int, -1 ≤ firstBad2 l ∧ firstBad2 l < l.length ∧ (firstBad2 l = -1 ↔ l.all okT = true)
  | [] => by simp [firstBad2]
  | x :: l => by
    obtain ⟨h1, h2, h3⟩ := firstBad2_bd l
    unfold firstBad2
    cases hx : okT x with
    | false => simp [hx]
    | true =>
      simp only [List.length_cons, List.all_cons, hx, Bool.true_and, if_true]
      rw [← h3]
      by_cases h : firstBad2 l = -1
      · rw [if_pos h]; simp [h]; omega
      · rw [if_neg h]; simp [h]; omega
/-- A state at a later beginning of time. -/
def sh (d : Int) (r : List Int) : List Int := [q r 0, q r 1, if q r 0 = 0 then q r 2 else q r 2 + d, q r 3, q r 4, q r 5]
theorem stq_sh (T M d t : Int) (b : List Int) : stq T M (sh d b) (t + d) = sh d (stq T M b t) := by
  have h0 : q (sh d b) 0 = q b 0 := rfl
  have h1 : q (sh d b) 1 = q b 1 := rfl
  have h2 : q (sh d b) 2 = if q b 0 = 0 then q b 2 else q b 2 + d := rfl
  have h3 : q (sh d b) 3 = q b 3 := rfl
  have h4 : q (sh d b) 4 = q b 4 := rfl
  have h5 : q (sh d b) 5 = q b 5 := rfl
  unfold stq
  rw [h0, h1, h2, h3, h4, h5]
  unfold stp
  by_cases m1 : q b 0 = 1
  · rw [if_neg (by omega : ¬ q b 0 = 0), show t + d - (q b 2 + d) = t - q b 2 by omega, if_pos m1, if_pos m1]
    split <;> simp [sh, q]
  · by_cases m2 : q b 0 = 2
    · rw [if_neg (by omega : ¬ q b 0 = 0), show t + d - (q b 2 + d) = t - q b 2 by omega, if_neg m1, if_neg m1, if_pos m2, if_pos m2]
      split
      · simp [sh, q]
      · split <;> simp [sh, q]
    · rw [if_neg m1, if_neg m1, if_neg m2, if_neg m2]
      simp [sh, q]
theorem runS_sh (T M d : Int) (l : List Int) : ∀ k, k < l.length → (runS T M s0 (l.map (· + d))).getD k [] = sh d ((runS T M s0 l).getD k [])
  | 0, hk => by
    rw [runS_get _ _ _ _ _ (by simpa using hk), runS_get _ _ _ _ _ hk]
    have : (l.map (· + d)).getD 0 0 = l.getD 0 0 + d := by
      rw [List.getD_eq_getElem?_getD, List.getD_eq_getElem?_getD, List.getElem?_map, List.getElem?_eq_getElem hk]; rfl
    rw [this]
    exact stq_sh T M d _ s0
  | k + 1, hk => by
    rw [runS_get _ _ _ _ _ (by simpa using hk), runS_get _ _ _ _ _ hk]
    have : (l.map (· + d)).getD (k + 1) 0 = l.getD (k + 1) 0 + d := by
      rw [List.getD_eq_getElem?_getD, List.getD_eq_getElem?_getD, List.getElem?_map, List.getElem?_eq_getElem hk]; rfl
    rw [this]
    show stq T M ((runS T M s0 (l.map (· + d))).getD k []) _ = sh d (stq T M ((runS T M s0 l).getD k []) _)
    rw [runS_sh T M d l k (by omega)]
    exact stq_sh T M d _ _
theorem incr_sh (d : Int) : ∀ l : List Int, incr (l.map (· + d)) = incr l
  | [] => rfl
  | [_] => rfl
  | a :: b :: l => by
    show (decide (a + d < b + d) && incr ((b :: l).map (· + d))) = (decide (a < b) && incr (b :: l))
    rw [incr_sh d (b :: l)]
    congr 1
    simp
theorem okT_iff {t : Int} : okT t = true ↔ 0 ≤ t ∧ t ≤ 274877906944 := by
  unfold okT; simp
theorem edges_sh {d : Int} {l : List Int} (hd : 0 ≤ d ∧ d ≤ 4294967295) (hl : l.all okT = true) : edgesB (l.map (· + d)) = edgesB l := by
  unfold edgesB
  have h1 : l.all isT = true := List.all_eq_true.2 fun x hx => isT_iff.2 (by have := okT_iff.1 (List.all_eq_true.1 hl x hx); omega)
  have h2 : (l.map (· + d)).all isT = true := List.all_eq_true.2 fun y hy => by
    obtain ⟨x, hx, rfl⟩ := List.mem_map.1 hy
    exact isT_iff.2 (by have := okT_iff.1 (List.all_eq_true.1 hl x hx); show 0 ≤ x + d ∧ x + d ≤ _; omega)
  rw [List.length_map, h1, h2, incr_sh]
def flam_res (t : Int) : CRes := ⟨[], .one (.cel (.bool (!okT t))), []⟩
def flam_go : List TV → List RowA → Option CRes := fun args rows =>
  match args, rows with
  | [.cel (.int .i64 t)], [] => some (flam_res t)
  | _, _ => none
def flam_e : Ent := ⟨11, [], flam_go⟩
set_option maxRecDepth 100000 in
theorem flam_tree (t : Int) : ((((decide (t < (0 : Int))) || (decide ((274877906944 : Int) < t))) = (!(okT t)))) = EXD Try.prog (conOf []) Try.f11 [.cel (.int .i64 t)] [] (flam_res t) := by kernel_rfl
theorem flam_holds (t : Int)  : (((decide (t < (0 : Int))) || (decide ((274877906944 : Int) < t))) = (!(okT t))) := by
  unfold okT
  simp
set_option maxHeartbeats 2000000 in
theorem flam_ok : SoundEnt Try.prog flam_e := by
  refine ent_of_ex (Γ := (conOf [])) (conOf_sound snil) (by kernel_rfl) Try.func11 (by kernel_rfl) (by kernel_rfl) (fun args rows res h ho => ?_)
  change flam_go args rows = some res at h
  unfold flam_go at h
  split at h
  · simp only [Option.some.injEq] at h
    subst h
    rename_i q0_
    skip
    exact EX.of (flam_tree q0_) (flam_holds q0_)
  · cases h
def fifn_res (l : List Int) : CRes := ⟨[decide (l.length ≤ 1000)], .one (.cel (.int .i64 (firstBad2 l))), []⟩
def fifn_go : List TV → List RowA → Option CRes := fun args rows =>
  match args, rows with
  | [.cel (.row 0), .cel (.fn 11)], [.ints .i64 l] => some (fifn_res l)
  | _, _ => none
def fifn_e : Ent := ⟨28, [.ints .i64 []], fifn_go⟩
def fifn_L1_F (l : List Int) (i : Int) : St := ⟨19, [], [(8, (.one (.cel (.int .i64 i)))), (7, (.one (.cel (.int .i64 (((List.length l) : Nat) : Int))))), (4, (.one (.cel (.int .i64 (0 : Int))))), (0, (.one (.cel (.row 0)))), (1, (.one (.cel (.fn 11))))], [], [⟨(.ints .i64 l), none⟩]⟩
def fifn_L1_I (l : List Int) (i : Int) : Prop := (0 ≤ i ∧ i ≤ l.length ∧ (l.length : Int) ≤ 1000) ∧ (firstBad2 l = (if firstBad2 (l.drop i.toNat) = -1 then -1 else firstBad2 (l.drop i.toNat) + i))
def fifn_L1_m (l : List Int) (i : Int) : Nat := (l.length - i).toNat
def fifn_L1_N (l : List Int) (i' : Int) (st_ : St) : Prop := getI st_ 8 fun i => fifn_L1_I l i ∧ fifn_L1_m l i < fifn_L1_m l i' ∧ SubA st_ (fifn_L1_F l i)
def fifn_L1_E (l : List Int) (st_ : St) : Prop := getI st_ 8 fun i => fifn_L1_I l i ∧ SubA st_ (fifn_L1_F l i)
def fifn_L1_S1 (l : List Int) : St := ⟨19, [], [(8, (.one (.cel (.int .i64 (0 : Int))))), (7, (.one (.cel (.int .i64 (((List.length l) : Nat) : Int))))), (6, (.one (.cel (.row 0)))), (4, (.one (.cel (.int .i64 (0 : Int))))), (0, (.one (.cel (.row 0)))), (1, (.one (.cel (.fn 11))))], [], [⟨(.ints .i64 l), none⟩]⟩
def fifn_L1_T (l : List Int) (i : Int) : Prop := (cnd (decide (i < (((List.length l) : Nat) : Int)))
  (cnd (decide ((0 : Int) ≤ i))
    (cnd (decide (i < (((List.length l) : Nat) : Int)))
      (cnd (!(okT (List.getD l (Int.toNat i) (0 : Int))))
        (i = (firstBad2 l))
        ((fifn_L1_I l (Go.IntKind.wrap Go.IntKind.i64 (i + (1 : Int)))) ∧ (((fifn_L1_m l (Go.IntKind.wrap Go.IntKind.i64 (i + (1 : Int)))) < (fifn_L1_m l i)) ∧ (((Go.IntKind.wrap Go.IntKind.i64 (i + (1 : Int))) = (Go.IntKind.wrap Go.IntKind.i64 (i + (1 : Int)))) ∧ (((((List.length l) : Nat) : Int) = (((List.length l) : Nat) : Int)) ∧ (((0 : Int) = (0 : Int)) ∧ (True ∧ (True ∧ ((l = l) ∧ True)))))))))
      False)
    False)
  ((-(1 : Int)) = (firstBad2 l)))
set_option maxRecDepth 100000 in
theorem fifn_L1_tree (l : List Int) (i : Int) : fifn_L1_T l i = ex Try.prog (conOf [flam_e]) (subC (bodyOf Try.f28) [1, 0, 1, 0, 0]) (nextE (fifn_L1_N l i) (kont Try.prog (conOf [flam_e]) (bodyOf Try.f28) [1, 0, 1, 0] (retPost Try.prog Try.f28 1 (fifn_res l)))) (fifn_L1_F l i) := by kernel_rfl
set_option maxRecDepth 100000 in
theorem fifn_L1_round (l : List Int) (i : Int) (p0 : decide (l.length ≤ 1000) = true) (hI_L1 : fifn_L1_I l i) : fifn_L1_T l i := by
  obtain ⟨⟨a1, a2, a3⟩, a4⟩ := hI_L1
  unfold fifn_L1_T
  by_cases hi : i < l.length
  · have hd := drop_consI (l := l) (i := i) a1 hi
    obtain ⟨b1, b2, b3⟩ := firstBad2_bd (l.drop (i.toNat + 1))
    have e1 : (i + 1).toNat = i.toNat + 1 := by omega
    rw [hd] at a4
    rw [w64 (n := i + 1) (by omega) (by omega), decide_eq_true hi, decide_eq_true a1]
    generalize l.getD i.toNat 0 = x at *
    rw [firstBad2_cons] at a4
    cases hx : okT x with
    | false =>
      rw [hx] at a4
      simp at a4
      show i = firstBad2 l
      omega
    | true =>
      rw [hx] at a4
      refine ⟨⟨⟨by omega, by omega, a3⟩, ?_⟩, ?_, by simp⟩
      · rw [e1]
        simp only [if_true] at a4
        generalize firstBad2 (l.drop (i.toNat + 1)) = y at *
        by_cases hy : y = -1
        · rw [if_pos hy] at a4 ⊢
          simpa using a4
        · rw [if_neg hy] at a4 ⊢
          rw [if_neg (by omega)] at a4
          omega
      · unfold fifn_L1_m
        omega
  · rw [decide_eq_false hi]
    have e : l.drop i.toNat = [] := List.drop_eq_nil_of_le (by omega)
    rw [e] at a4
    simp [firstBad2] at a4
    exact a4.symm
set_option maxRecDepth 100000 in
theorem fifn_L1_entry1 (l : List Int) : (((fifn_L1_I l (0 : Int)) ∧ (((0 : Int) = (0 : Int)) ∧ (((((List.length l) : Nat) : Int) = (((List.length l) : Nat) : Int)) ∧ (((0 : Int) = (0 : Int)) ∧ (True ∧ (True ∧ ((l = l) ∧ True)))))))) = fifn_L1_E l (fifn_L1_S1 l) := by kernel_rfl
theorem fifn_L1_1 (l : List Int) (p0 : decide (l.length ≤ 1000) = true) (h : ((fifn_L1_I l (0 : Int)) ∧ (((0 : Int) = (0 : Int)) ∧ (((((List.length l) : Nat) : Int) = (((List.length l) : Nat) : Int)) ∧ (((0 : Int) = (0 : Int)) ∧ (True ∧ (True ∧ ((l = l) ∧ True)))))))) : LoopP (ex Try.prog (conOf [flam_e]) (subC (bodyOf Try.f28) [1, 0, 1, 0, 0])) (kont Try.prog (conOf [flam_e]) (bodyOf Try.f28) [1, 0, 1, 0] (retPost Try.prog Try.f28 1 (fifn_res l))) (fifn_L1_S1 l) := by
  have hE : fifn_L1_E l (fifn_L1_S1 l) := Eq.mp (fifn_L1_entry1 l) h
  unfold fifn_L1_E at hE
  obtain ⟨i, hE⟩ := getI_of hE
  refine loop_of (α := (Int)) (fun xx_ => fifn_L1_F l xx_) (fun xx_ => fifn_L1_I l xx_) (fun xx_ => fifn_L1_m l xx_) (fun xx_ => fifn_L1_N l xx_) (fun xx_ => fifn_L1_T l xx_) (fun xx_ s_ h => ?_) ⟨i, hE⟩ (fun xx_ => fifn_L1_tree l xx_) (fun xx_ hI => fifn_L1_round l xx_ p0 hI)
  unfold fifn_L1_N at h
  obtain ⟨i, h⟩ := getI_of h
  exact ⟨i, h⟩
set_option maxRecDepth 100000 in
theorem fifn_tree (l : List Int) : ((LoopP (ex Try.prog (conOf [flam_e]) (subC (bodyOf Try.f28) [1, 0, 1, 0, 0])) (kont Try.prog (conOf [flam_e]) (bodyOf Try.f28) [1, 0, 1, 0] (retPost Try.prog Try.f28 1 (fifn_res l))) (fifn_L1_S1 l))) = EXD Try.prog (conOf [flam_e]) Try.f28 [.cel (.row 0), .cel (.fn 11)] [.ints .i64 l] (fifn_res l) := by kernel_rfl
theorem fifn_holds (l : List Int) (p0 : decide (l.length ≤ 1000) = true) : (LoopP (ex Try.prog (conOf [flam_e]) (subC (bodyOf Try.f28) [1, 0, 1, 0, 0])) (kont Try.prog (conOf [flam_e]) (bodyOf Try.f28) [1, 0, 1, 0] (retPost Try.prog Try.f28 1 (fifn_res l))) (fifn_L1_S1 l)) := by
  have q0 := p0
  simp only [decide_eq_true_eq] at p0
  have b := (firstBad2_bd l).1
  refine fifn_L1_1 l q0 ⟨⟨⟨by omega, by omega, by omega⟩, ?_⟩, by simp⟩
  simp
set_option maxHeartbeats 2000000 in
theorem fifn_ok : SoundEnt Try.prog fifn_e := by
  refine ent_of_ex (Γ := (conOf [flam_e])) (conOf_sound (scons flam_ok snil)) (by kernel_rfl) Try.func28 (by kernel_rfl) (by kernel_rfl) (fun args rows res h ho => ?_)
  change fifn_go args rows = some res at h
  unfold fifn_go at h
  split at h
  · simp only [Option.some.injEq] at h
    subst h
    rename_i q0_
    obtain ⟨p0, _⟩ := ho
    exact EX.of (fifn_tree q0_) (fifn_holds q0_ p0)
  · cases h
def fcfn_res (l : List Int) : CRes := ⟨[decide (l.length ≤ 1000)], .one (.cel (.bool (!l.all okT))), []⟩
def fcfn_go : List TV → List RowA → Option CRes := fun args rows =>
  match args, rows with
  | [.cel (.row 0), .cel (.fn 11)], [.ints .i64 l] => some (fcfn_res l)
  | _, _ => none
def fcfn_e : Ent := ⟨10, [.ints .i64 []], fcfn_go⟩
set_option maxRecDepth 100000 in
theorem fcfn_tree (l : List Int) : ((cnd (decide ((List.length l) ≤ 1000))
  ((decide ((0 : Int) ≤ (firstBad2 l))) = (!(List.all l okT)))
  False)) = EXD Try.prog (conOf [fifn_e]) Try.f10 [.cel (.row 0), .cel (.fn 11)] [.ints .i64 l] (fcfn_res l) := by kernel_rfl
theorem fcfn_holds (l : List Int) (p0 : decide (l.length ≤ 1000) = true) : (cnd (decide ((List.length l) ≤ 1000))
  ((decide ((0 : Int) ≤ (firstBad2 l))) = (!(List.all l okT)))
  False) := by
  obtain ⟨b1, b2, b3⟩ := firstBad2_bd l
  rw [p0]
  show decide (0 ≤ firstBad2 l) = !l.all okT
  cases h : l.all okT with
  | true => rw [b3.2 h]; rfl
  | false =>
    have : ¬ firstBad2 l = -1 := fun e => by rw [b3.1 e] at h; cases h
    rw [Bool.not_false, decide_eq_true_eq]
    omega
set_option maxHeartbeats 2000000 in
theorem fcfn_ok : SoundEnt Try.prog fcfn_e := by
  refine ent_of_ex (Γ := (conOf [fifn_e])) (conOf_sound (scons fifn_ok snil)) (by kernel_rfl) Try.func10 (by kernel_rfl) (by kernel_rfl) (fun args rows res h ho => ?_)
  change fcfn_go args rows = some res at h
  unfold fcfn_go at h
  split at h
  · simp only [Option.some.injEq] at h
    subst h
    rename_i q0_
    obtain ⟨p0, _⟩ := ho
    exact EX.of (fcfn_tree q0_) (fcfn_holds q0_ p0)
  · cases h
def shifts_res (T : Int) (M : Int) (l : List Int) (by_ : Int) : CRes := ⟨[wfI .i64 T, wfI .i64 M, wfL .i64 l, wfI .u32 by_], .one (.cel (.bool (true))), []⟩
def shifts_go : List TV → List RowA → Option CRes := fun args rows =>
  match args, rows with
  | [.agg [.int .i64 T, .int .i64 M], .cel (.row 0), .cel (.int .u32 by_)], [.ints .i64 l] => some (shifts_res T M l by_)
  | _, _ => none
def shifts_e : Ent := ⟨3, [.ints .i64 []], shifts_go⟩
def shifts_L1_F (T : Int) (M : Int) (l : List Int) (by_ : Int) (i : Int) (ll : List Int) : St := ⟨87, [], [(30, (.one (.cel (.int .i64 i)))), (29, (.one (.cel (.int .i64 (((List.length l) : Nat) : Int))))), (28, (.one (.cel (.row 0)))), (7, (.one (.cel (.row 1)))), (6, (.one (.cel (.bool Bool.false)))), (3, (.one (.cel (.ptr 0 0)))), (1, (.one (.cel (.row 0)))), (2, (.one (.cel (.int .u32 by_))))], [[(.int .i64 T), (.int .i64 M)]], [⟨(.ints .i64 l), none⟩, ⟨(.ints .i64 ll), some 3⟩]⟩
def shifts_L1_I (T : Int) (M : Int) (l : List Int) (by_ : Int) (i : Int) (ll : List Int) : Prop := (0 ≤ i ∧ i ≤ l.length) ∧ (l.all okT = true ∧ (l.length : Int) ≤ 300) ∧ ((ll.length : Int) = i) ∧ (ll ++ (l.drop i.toNat).map (· + by_) = l.map (· + by_))
def shifts_L1_m (T : Int) (M : Int) (l : List Int) (by_ : Int) (i : Int) (ll : List Int) : Nat := (l.length - i).toNat
def shifts_L1_N (T : Int) (M : Int) (l : List Int) (by_ : Int) (i' : Int) (ll' : List Int) (st_ : St) : Prop := getI st_ 30 fun i => getR st_ 7 fun ll => shifts_L1_I T M l by_ i ll ∧ shifts_L1_m T M l by_ i ll < shifts_L1_m T M l by_ i' ll' ∧ SubA st_ (shifts_L1_F T M l by_ i ll)
def shifts_L1_E (T : Int) (M : Int) (l : List Int) (by_ : Int) (st_ : St) : Prop := getI st_ 30 fun i => getR st_ 7 fun ll => shifts_L1_I T M l by_ i ll ∧ SubA st_ (shifts_L1_F T M l by_ i ll)
def shifts_L1_S1 (T : Int) (M : Int) (l : List Int) (by_ : Int) : St := ⟨87, [23, 18], [(30, (.one (.cel (.int .i64 (0 : Int))))), (29, (.one (.cel (.int .i64 (((List.length l) : Nat) : Int))))), (28, (.one (.cel (.row 0)))), (7, (.one (.cel .nilS))), (26, (.one (.cel (.bool (((!Bool.true) || (decide ((300 : Int) < (((List.length l) : Nat) : Int)))) || (!(List.all l okT))))))), (25, (.spec 23 Bool.false (.cel (.bool (!(List.all l okT)))))), (24, (.spec 23 Bool.false (.cel (.row 0)))), (23, (.one (.cel (.bool ((!Bool.true) || (decide ((300 : Int) < (((List.length l) : Nat) : Int)))))))), (22, (.one (.cel (.bool ((!Bool.true) || (decide ((300 : Int) < (((List.length l) : Nat) : Int)))))))), (21, (.spec 18 Bool.false (.cel (.bool (decide ((300 : Int) < (((List.length l) : Nat) : Int))))))), (20, (.spec 18 Bool.false (.cel (.int .i64 (((List.length l) : Nat) : Int))))), (19, (.spec 18 Bool.false (.cel (.row 0)))), (18, (.one (.cel (.bool (!Bool.true))))), (17, (.one (.cel (.bool (!Bool.true))))), (16, (.one (.cel (.bool Bool.true)))), (6, (.one (.cel (.bool Bool.false)))), (3, (.one (.cel (.ptr 0 0)))), (0, (.one (.agg [(.int .i64 T), (.int .i64 M)]))), (1, (.one (.cel (.row 0)))), (2, (.one (.cel (.int .u32 by_))))], [[(.int .i64 T), (.int .i64 M)]], [⟨(.ints .i64 l), none⟩]⟩
def shifts_L2_F (T : Int) (M : Int) (l : List Int) (by_ : Int) (i : Int) (ll : List Int) (k : Int) : St := ⟨87, [], [(66, (.one (.cel (.int .i64 k)))), (65, (.one (.cel (.int .i64 (((List.length (if (((wValid T M) && (edgesB l)) = Bool.true) then (runS T M s0 l) else ([] : List (List Int)))) : Nat) : Int))))), (64, (.one (.cel (.row 2)))), (12, (.one (.cel (.row 3)))), (6, (.one (.cel (.bool Bool.false)))), (2, (.one (.cel (.int .u32 by_))))], [[(.int .i64 T), (.int .i64 M)]], [⟨(.ints .i64 l), none⟩, ⟨(.ints .i64 ll), none⟩, ⟨(.recs [.int .i64, .int .i64, .int .i64, .int .i64, .int .i64, .int .i64] (if (((wValid T M) && (edgesB l)) = Bool.true) then (runS T M s0 l) else ([] : List (List Int)))), none⟩, ⟨(.recs [.int .i64, .int .i64, .int .i64, .int .i64, .int .i64, .int .i64] (if (((wValid T M) && (edgesB ll)) = Bool.true) then (runS T M s0 ll) else ([] : List (List Int)))), none⟩]⟩
def shifts_L2_I (T : Int) (M : Int) (l : List Int) (by_ : Int) (i : Int) (ll : List Int) (k : Int) : Prop := (0 ≤ k) ∧ (ll = l.map (· + by_))
def shifts_L2_m (T : Int) (M : Int) (l : List Int) (by_ : Int) (i : Int) (ll : List Int) (k : Int) : Nat := (l.length - k).toNat
def shifts_L2_N (T : Int) (M : Int) (l : List Int) (by_ : Int) (i : Int) (ll : List Int) (k' : Int) (st_ : St) : Prop := getI st_ 66 fun k => shifts_L2_I T M l by_ i ll k ∧ shifts_L2_m T M l by_ i ll k < shifts_L2_m T M l by_ i ll k' ∧ SubA st_ (shifts_L2_F T M l by_ i ll k)
def shifts_L2_E (T : Int) (M : Int) (l : List Int) (by_ : Int) (i : Int) (ll : List Int) (st_ : St) : Prop := getI st_ 66 fun k => shifts_L2_I T M l by_ i ll k ∧ SubA st_ (shifts_L2_F T M l by_ i ll k)
def shifts_L2_S1 (T : Int) (M : Int) (l : List Int) (by_ : Int) (i : Int) (ll : List Int) : St := ⟨87, [57], [(66, (.one (.cel (.int .i64 (0 : Int))))), (65, (.one (.cel (.int .i64 (((List.length (if (((wValid T M) && (edgesB l)) = Bool.true) then (runS T M s0 l) else ([] : List (List Int)))) : Nat) : Int))))), (64, (.one (.cel (.row 2)))), (63, (.one (.cel (.bool ((!(decide ((if (((wValid T M) && (edgesB l)) = Bool.true) then (0 : Int) else (1 : Int)) = (if (((wValid T M) && (edgesB ll)) = Bool.true) then (0 : Int) else (1 : Int))))) || (!(decide ((((List.length (if (((wValid T M) && (edgesB l)) = Bool.true) then (runS T M s0 l) else ([] : List (List Int)))) : Nat) : Int) = (((List.length (if (((wValid T M) && (edgesB ll)) = Bool.true) then (runS T M s0 ll) else ([] : List (List Int)))) : Nat) : Int))))))))), (62, (.spec 57 Bool.false (.cel (.bool (!(decide ((((List.length (if (((wValid T M) && (edgesB l)) = Bool.true) then (runS T M s0 l) else ([] : List (List Int)))) : Nat) : Int) = (((List.length (if (((wValid T M) && (edgesB ll)) = Bool.true) then (runS T M s0 ll) else ([] : List (List Int)))) : Nat) : Int)))))))), (61, (.spec 57 Bool.false (.cel (.int .i64 (((List.length (if (((wValid T M) && (edgesB ll)) = Bool.true) then (runS T M s0 ll) else ([] : List (List Int)))) : Nat) : Int))))), (60, (.spec 57 Bool.false (.cel (.row 3)))), (59, (.spec 57 Bool.false (.cel (.int .i64 (((List.length (if (((wValid T M) && (edgesB l)) = Bool.true) then (runS T M s0 l) else ([] : List (List Int)))) : Nat) : Int))))), (58, (.spec 57 Bool.false (.cel (.row 2)))), (57, (.one (.cel (.bool (!(decide ((if (((wValid T M) && (edgesB l)) = Bool.true) then (0 : Int) else (1 : Int)) = (if (((wValid T M) && (edgesB ll)) = Bool.true) then (0 : Int) else (1 : Int))))))))), (56, (.one (.cel (.bool (!(decide ((if (((wValid T M) && (edgesB l)) = Bool.true) then (0 : Int) else (1 : Int)) = (if (((wValid T M) && (edgesB ll)) = Bool.true) then (0 : Int) else (1 : Int))))))))), (55, (.one (.cel (.int .i64 (if (((wValid T M) && (edgesB ll)) = Bool.true) then (0 : Int) else (1 : Int)))))), (54, (.one (.cel (.int .i64 (if (((wValid T M) && (edgesB l)) = Bool.true) then (0 : Int) else (1 : Int)))))), (13, (.one (.cel (.int .i64 (if (((wValid T M) && (edgesB ll)) = Bool.true) then (0 : Int) else (1 : Int)))))), (12, (.one (.cel (.row 3)))), (53, (.one (.cel (.int .i64 (if (((wValid T M) && (edgesB ll)) = Bool.true) then (0 : Int) else (1 : Int)))))), (52, (.one (.cel (.row 3)))), (48, (.tup [(.cel (.row 3)), (.cel (.int .i64 (if (((wValid T M) && (edgesB ll)) = Bool.true) then (0 : Int) else (1 : Int))))])), (51, (.tup [(.cel (.row 3)), (.cel (.int .i64 (if (((wValid T M) && (edgesB ll)) = Bool.true) then (0 : Int) else (1 : Int))))])), (50, (.one (.cel (.row 1)))), (49, (.one (.agg [(.int .i64 T), (.int .i64 M)]))), (11, (.one (.cel (.int .i64 (if (((wValid T M) && (edgesB l)) = Bool.true) then (0 : Int) else (1 : Int)))))), (10, (.one (.cel (.row 2)))), (47, (.one (.cel (.int .i64 (if (((wValid T M) && (edgesB l)) = Bool.true) then (0 : Int) else (1 : Int)))))), (46, (.one (.cel (.row 2)))), (42, (.tup [(.cel (.row 2)), (.cel (.int .i64 (if (((wValid T M) && (edgesB l)) = Bool.true) then (0 : Int) else (1 : Int))))])), (45, (.tup [(.cel (.row 2)), (.cel (.int .i64 (if (((wValid T M) && (edgesB l)) = Bool.true) then (0 : Int) else (1 : Int))))])), (44, (.one (.cel (.row 0)))), (43, (.one (.agg [(.int .i64 T), (.int .i64 M)]))), (31, (.one (.cel (.bool (decide (i < (((List.length l) : Nat) : Int))))))), (30, (.one (.cel (.int .i64 i)))), (29, (.one (.cel (.int .i64 (((List.length l) : Nat) : Int))))), (28, (.one (.cel (.row 0)))), (7, (.one (.cel (.row 1)))), (6, (.one (.cel (.bool Bool.false)))), (3, (.one (.cel (.ptr 0 0)))), (1, (.one (.cel (.row 0)))), (2, (.one (.cel (.int .u32 by_))))], [[(.int .i64 T), (.int .i64 M)]], [⟨(.ints .i64 l), none⟩, ⟨(.ints .i64 ll), none⟩, ⟨(.recs [.int .i64, .int .i64, .int .i64, .int .i64, .int .i64, .int .i64] (if (((wValid T M) && (edgesB l)) = Bool.true) then (runS T M s0 l) else ([] : List (List Int)))), none⟩, ⟨(.recs [.int .i64, .int .i64, .int .i64, .int .i64, .int .i64, .int .i64] (if (((wValid T M) && (edgesB ll)) = Bool.true) then (runS T M s0 ll) else ([] : List (List Int)))), none⟩]⟩
def shifts_L2_T (T : Int) (M : Int) (l : List Int) (by_ : Int) (i : Int) (ll : List Int) (k : Int) : Prop := (cnd (decide (k < (((List.length (if (((wValid T M) && (edgesB l)) = Bool.true) then (runS T M s0 l) else ([] : List (List Int)))) : Nat) : Int)))
  (cnd (decide ((0 : Int) ≤ k))
    (cnd (decide (k < (((List.length (if (((wValid T M) && (edgesB l)) = Bool.true) then (runS T M s0 l) else ([] : List (List Int)))) : Nat) : Int)))
      (cnd (!(decide ((List.getD (List.getD (if (((wValid T M) && (edgesB l)) = Bool.true) then (runS T M s0 l) else ([] : List (List Int))) (Int.toNat k) ([] : List Int)) 0 (0 : Int)) = (0 : Int))))
        (cnd (decide ((0 : Int) ≤ k))
          (cnd (decide (k < (((List.length (if (((wValid T M) && (edgesB ll)) = Bool.true) then (runS T M s0 ll) else ([] : List (List Int)))) : Nat) : Int)))
            (cnd (!((decide ((List.getD (List.getD (if (((wValid T M) && (edgesB ll)) = Bool.true) then (runS T M s0 ll) else ([] : List (List Int))) (Int.toNat k) ([] : List Int)) 0 (0 : Int)) = (List.getD (List.getD (if (((wValid T M) && (edgesB l)) = Bool.true) then (runS T M s0 l) else ([] : List (List Int))) (Int.toNat k) ([] : List Int)) 0 (0 : Int)))) && ((decide ((List.getD (List.getD (if (((wValid T M) && (edgesB ll)) = Bool.true) then (runS T M s0 ll) else ([] : List (List Int))) (Int.toNat k) ([] : List Int)) (0 + 1) (0 : Int)) = (List.getD (List.getD (if (((wValid T M) && (edgesB l)) = Bool.true) then (runS T M s0 l) else ([] : List (List Int))) (Int.toNat k) ([] : List Int)) (0 + 1) (0 : Int)))) && ((decide ((List.getD (List.getD (if (((wValid T M) && (edgesB ll)) = Bool.true) then (runS T M s0 ll) else ([] : List (List Int))) (Int.toNat k) ([] : List Int)) ((0 + 1) + 1) (0 : Int)) = (Go.IntKind.wrap Go.IntKind.i64 ((List.getD (List.getD (if (((wValid T M) && (edgesB l)) = Bool.true) then (runS T M s0 l) else ([] : List (List Int))) (Int.toNat k) ([] : List Int)) ((0 + 1) + 1) (0 : Int)) + (Go.IntKind.wrap Go.IntKind.i64 by_))))) && ((decide ((List.getD (List.getD (if (((wValid T M) && (edgesB ll)) = Bool.true) then (runS T M s0 ll) else ([] : List (List Int))) (Int.toNat k) ([] : List Int)) (((0 + 1) + 1) + 1) (0 : Int)) = (List.getD (List.getD (if (((wValid T M) && (edgesB l)) = Bool.true) then (runS T M s0 l) else ([] : List (List Int))) (Int.toNat k) ([] : List Int)) (((0 + 1) + 1) + 1) (0 : Int)))) && ((decide ((List.getD (List.getD (if (((wValid T M) && (edgesB ll)) = Bool.true) then (runS T M s0 ll) else ([] : List (List Int))) (Int.toNat k) ([] : List Int)) ((((0 + 1) + 1) + 1) + 1) (0 : Int)) = (List.getD (List.getD (if (((wValid T M) && (edgesB l)) = Bool.true) then (runS T M s0 l) else ([] : List (List Int))) (Int.toNat k) ([] : List Int)) ((((0 + 1) + 1) + 1) + 1) (0 : Int)))) && ((decide ((List.getD (List.getD (if (((wValid T M) && (edgesB ll)) = Bool.true) then (runS T M s0 ll) else ([] : List (List Int))) (Int.toNat k) ([] : List Int)) (((((0 + 1) + 1) + 1) + 1) + 1) (0 : Int)) = (List.getD (List.getD (if (((wValid T M) && (edgesB l)) = Bool.true) then (runS T M s0 l) else ([] : List (List Int))) (Int.toNat k) ([] : List Int)) (((((0 + 1) + 1) + 1) + 1) + 1) (0 : Int)))) && Bool.true)))))))
              (Bool.false = Bool.true)
              ((shifts_L2_I T M l by_ i ll (Go.IntKind.wrap Go.IntKind.i64 (k + (1 : Int)))) ∧ (((shifts_L2_m T M l by_ i ll (Go.IntKind.wrap Go.IntKind.i64 (k + (1 : Int)))) < (shifts_L2_m T M l by_ i ll k)) ∧ (((Go.IntKind.wrap Go.IntKind.i64 (k + (1 : Int))) = (Go.IntKind.wrap Go.IntKind.i64 (k + (1 : Int)))) ∧ (((((List.length (if (((wValid T M) && (edgesB l)) = Bool.true) then (runS T M s0 l) else ([] : List (List Int)))) : Nat) : Int) = (((List.length (if (((wValid T M) && (edgesB l)) = Bool.true) then (runS T M s0 l) else ([] : List (List Int)))) : Nat) : Int)) ∧ (True ∧ (True ∧ ((Bool.false = Bool.false) ∧ ((by_ = by_) ∧ (((T = T) ∧ (M = M)) ∧ ((l = l) ∧ ((ll = ll) ∧ (((if (((wValid T M) && (edgesB l)) = Bool.true) then (runS T M s0 l) else ([] : List (List Int))) = (if (((wValid T M) && (edgesB l)) = Bool.true) then (runS T M s0 l) else ([] : List (List Int)))) ∧ (((if (((wValid T M) && (edgesB ll)) = Bool.true) then (runS T M s0 ll) else ([] : List (List Int))) = (if (((wValid T M) && (edgesB ll)) = Bool.true) then (runS T M s0 ll) else ([] : List (List Int)))) ∧ True))))))))))))))
            False)
          False)
        (cnd (decide ((0 : Int) ≤ k))
          (cnd (decide (k < (((List.length (if (((wValid T M) && (edgesB ll)) = Bool.true) then (runS T M s0 ll) else ([] : List (List Int)))) : Nat) : Int)))
            (cnd (!((decide ((List.getD (List.getD (if (((wValid T M) && (edgesB ll)) = Bool.true) then (runS T M s0 ll) else ([] : List (List Int))) (Int.toNat k) ([] : List Int)) 0 (0 : Int)) = (List.getD (List.getD (if (((wValid T M) && (edgesB l)) = Bool.true) then (runS T M s0 l) else ([] : List (List Int))) (Int.toNat k) ([] : List Int)) 0 (0 : Int)))) && ((decide ((List.getD (List.getD (if (((wValid T M) && (edgesB ll)) = Bool.true) then (runS T M s0 ll) else ([] : List (List Int))) (Int.toNat k) ([] : List Int)) (0 + 1) (0 : Int)) = (List.getD (List.getD (if (((wValid T M) && (edgesB l)) = Bool.true) then (runS T M s0 l) else ([] : List (List Int))) (Int.toNat k) ([] : List Int)) (0 + 1) (0 : Int)))) && ((decide ((List.getD (List.getD (if (((wValid T M) && (edgesB ll)) = Bool.true) then (runS T M s0 ll) else ([] : List (List Int))) (Int.toNat k) ([] : List Int)) ((0 + 1) + 1) (0 : Int)) = (List.getD (List.getD (if (((wValid T M) && (edgesB l)) = Bool.true) then (runS T M s0 l) else ([] : List (List Int))) (Int.toNat k) ([] : List Int)) ((0 + 1) + 1) (0 : Int)))) && ((decide ((List.getD (List.getD (if (((wValid T M) && (edgesB ll)) = Bool.true) then (runS T M s0 ll) else ([] : List (List Int))) (Int.toNat k) ([] : List Int)) (((0 + 1) + 1) + 1) (0 : Int)) = (List.getD (List.getD (if (((wValid T M) && (edgesB l)) = Bool.true) then (runS T M s0 l) else ([] : List (List Int))) (Int.toNat k) ([] : List Int)) (((0 + 1) + 1) + 1) (0 : Int)))) && ((decide ((List.getD (List.getD (if (((wValid T M) && (edgesB ll)) = Bool.true) then (runS T M s0 ll) else ([] : List (List Int))) (Int.toNat k) ([] : List Int)) ((((0 + 1) + 1) + 1) + 1) (0 : Int)) = (List.getD (List.getD (if (((wValid T M) && (edgesB l)) = Bool.true) then (runS T M s0 l) else ([] : List (List Int))) (Int.toNat k) ([] : List Int)) ((((0 + 1) + 1) + 1) + 1) (0 : Int)))) && ((decide ((List.getD (List.getD (if (((wValid T M) && (edgesB ll)) = Bool.true) then (runS T M s0 ll) else ([] : List (List Int))) (Int.toNat k) ([] : List Int)) (((((0 + 1) + 1) + 1) + 1) + 1) (0 : Int)) = (List.getD (List.getD (if (((wValid T M) && (edgesB l)) = Bool.true) then (runS T M s0 l) else ([] : List (List Int))) (Int.toNat k) ([] : List Int)) (((((0 + 1) + 1) + 1) + 1) + 1) (0 : Int)))) && Bool.true)))))))
              (Bool.false = Bool.true)
              ((shifts_L2_I T M l by_ i ll (Go.IntKind.wrap Go.IntKind.i64 (k + (1 : Int)))) ∧ (((shifts_L2_m T M l by_ i ll (Go.IntKind.wrap Go.IntKind.i64 (k + (1 : Int)))) < (shifts_L2_m T M l by_ i ll k)) ∧ (((Go.IntKind.wrap Go.IntKind.i64 (k + (1 : Int))) = (Go.IntKind.wrap Go.IntKind.i64 (k + (1 : Int)))) ∧ (((((List.length (if (((wValid T M) && (edgesB l)) = Bool.true) then (runS T M s0 l) else ([] : List (List Int)))) : Nat) : Int) = (((List.length (if (((wValid T M) && (edgesB l)) = Bool.true) then (runS T M s0 l) else ([] : List (List Int)))) : Nat) : Int)) ∧ (True ∧ (True ∧ ((Bool.false = Bool.false) ∧ ((by_ = by_) ∧ (((T = T) ∧ (M = M)) ∧ ((l = l) ∧ ((ll = ll) ∧ (((if (((wValid T M) && (edgesB l)) = Bool.true) then (runS T M s0 l) else ([] : List (List Int))) = (if (((wValid T M) && (edgesB l)) = Bool.true) then (runS T M s0 l) else ([] : List (List Int)))) ∧ (((if (((wValid T M) && (edgesB ll)) = Bool.true) then (runS T M s0 ll) else ([] : List (List Int))) = (if (((wValid T M) && (edgesB ll)) = Bool.true) then (runS T M s0 ll) else ([] : List (List Int)))) ∧ True))))))))))))))
            False)
          False))
      False)
    False)
  (Bool.true = Bool.true))
set_option maxRecDepth 100000 in
theorem shifts_L2_tree (T : Int) (M : Int) (l : List Int) (by_ : Int) (i : Int) (ll : List Int) (k : Int) : shifts_L2_T T M l by_ i ll k = ex Try.prog (conOf [awake_e, srun_e, fcfn_e]) (subC (bodyOf Try.f3) [1, 1, 1, 1, 1, 1, 1, 0, 1, 0, 0]) (nextE (shifts_L2_N T M l by_ i ll k) (kont Try.prog (conOf [awake_e, srun_e, fcfn_e]) (bodyOf Try.f3) [1, 1, 1, 1, 1, 1, 1, 0, 1, 0] (retPost Try.prog Try.f3 1 (shifts_res T M l by_)))) (shifts_L2_F T M l by_ i ll k) := by kernel_rfl
set_option maxRecDepth 100000 in
theorem shifts_L2_round (T : Int) (M : Int) (l : List Int) (by_ : Int) (i : Int) (ll : List Int) (k : Int) (p0 : wfI .i64 T = true) (p1 : wfI .i64 M = true) (p2 : wfL .i64 l = true) (p3 : wfI .u32 by_ = true) (hI_L1 : shifts_L1_I T M l by_ i ll) (hI_L2 : shifts_L2_I T M l by_ i ll k) : shifts_L2_T T M l by_ i ll k := by
  obtain ⟨⟨a1, a2⟩, ⟨a3, a4⟩, a5, a6⟩ := hI_L1
  obtain ⟨b1, b2⟩ := hI_L2
  have hby := wfU32 p3
  have he : edgesB ll = edgesB l := by rw [b2]; exact edges_sh hby a3
  have hll : ll.length = l.length := by rw [b2, List.length_map]
  unfold shifts_L2_T
  rw [w64 (n := by_) (by omega) (by omega), he]
  cases hb : (wValid T M && edgesB l) with
  | false =>
    simp only [Bool.false_eq_true, if_false, List.length_nil]
    rw [decide_eq_false (by omega)]
    simp only [cnd]
  | true =>
    obtain ⟨hw, hee⟩ := (Bool.and_eq_true _ _ ▸ hb : wValid T M = true ∧ edgesB l = true)
    simp only [if_true, runS_length, hll]
    by_cases hk : k < l.length
    · rw [decide_eq_true hk, decide_eq_true b1]
      have hH := (hist hw hee k.toNat (by omega)).1
      have hs := runS_sh T M by_ l k.toNat (by omega)
      rw [← b2] at hs
      rw [hs]
      generalize (runS T M s0 l).getD k.toNat [] = r at *
      obtain ⟨_, hv⟩ := svq_iff.1 hH
      have h2 : 0 ≤ q r 2 ∧ q r 2 ≤ 1099511627776 := by rcases sV_cases hv with c | c | c <;> omega
      have h2' : 0 ≤ r.getD (0 + 1 + 1) 0 ∧ r.getD (0 + 1 + 1) 0 ≤ 1099511627776 := h2
      have hF : shifts_L2_I T M l by_ i ll (k + 1) := ⟨by omega, b2⟩
      have hμ : shifts_L2_m T M l by_ i ll (k + 1) < shifts_L2_m T M l by_ i ll k := by unfold shifts_L2_m; omega
      rw [w64 (n := k + 1) (by omega) (by omega), w64 (n := r.getD (0 + 1 + 1) 0 + by_) (by omega) (by omega)]
      by_cases h0 : r.getD 0 0 = 0
      · have h0' : r[0]?.getD 0 = 0 := by simpa using h0
        simp [sh, q, h0', cnd, hF, hμ]
      · have h0' : ¬ r[0]?.getD 0 = 0 := by simpa using h0
        simp [sh, q, h0', cnd, hF, hμ]
    · rw [decide_eq_false hk]
      simp only [cnd]
set_option maxRecDepth 100000 in
theorem shifts_L2_entry1 (T : Int) (M : Int) (l : List Int) (by_ : Int) (i : Int) (ll : List Int) : (((shifts_L2_I T M l by_ i ll (0 : Int)) ∧ (((0 : Int) = (0 : Int)) ∧ (((((List.length (if (((wValid T M) && (edgesB l)) = Bool.true) then (runS T M s0 l) else ([] : List (List Int)))) : Nat) : Int) = (((List.length (if (((wValid T M) && (edgesB l)) = Bool.true) then (runS T M s0 l) else ([] : List (List Int)))) : Nat) : Int)) ∧ (True ∧ (True ∧ ((Bool.false = Bool.false) ∧ ((by_ = by_) ∧ (((T = T) ∧ (M = M)) ∧ ((l = l) ∧ ((ll = ll) ∧ (((if (((wValid T M) && (edgesB l)) = Bool.true) then (runS T M s0 l) else ([] : List (List Int))) = (if (((wValid T M) && (edgesB l)) = Bool.true) then (runS T M s0 l) else ([] : List (List Int)))) ∧ (((if (((wValid T M) && (edgesB ll)) = Bool.true) then (runS T M s0 ll) else ([] : List (List Int))) = (if (((wValid T M) && (edgesB ll)) = Bool.true) then (runS T M s0 ll) else ([] : List (List Int)))) ∧ True))))))))))))) = shifts_L2_E T M l by_ i ll (shifts_L2_S1 T M l by_ i ll) := by kernel_rfl
theorem shifts_L2_1 (T : Int) (M : Int) (l : List Int) (by_ : Int) (i : Int) (ll : List Int) (p0 : wfI .i64 T = true) (p1 : wfI .i64 M = true) (p2 : wfL .i64 l = true) (p3 : wfI .u32 by_ = true) (hI_L1 : shifts_L1_I T M l by_ i ll) (h : ((shifts_L2_I T M l by_ i ll (0 : Int)) ∧ (((0 : Int) = (0 : Int)) ∧ (((((List.length (if (((wValid T M) && (edgesB l)) = Bool.true) then (runS T M s0 l) else ([] : List (List Int)))) : Nat) : Int) = (((List.length (if (((wValid T M) && (edgesB l)) = Bool.true) then (runS T M s0 l) else ([] : List (List Int)))) : Nat) : Int)) ∧ (True ∧ (True ∧ ((Bool.false = Bool.false) ∧ ((by_ = by_) ∧ (((T = T) ∧ (M = M)) ∧ ((l = l) ∧ ((ll = ll) ∧ (((if (((wValid T M) && (edgesB l)) = Bool.true) then (runS T M s0 l) else ([] : List (List Int))) = (if (((wValid T M) && (edgesB l)) = Bool.true) then (runS T M s0 l) else ([] : List (List Int)))) ∧ (((if (((wValid T M) && (edgesB ll)) = Bool.true) then (runS T M s0 ll) else ([] : List (List Int))) = (if (((wValid T M) && (edgesB ll)) = Bool.true) then (runS T M s0 ll) else ([] : List (List Int)))) ∧ True))))))))))))) : LoopP (ex Try.prog (conOf [awake_e, srun_e, fcfn_e]) (subC (bodyOf Try.f3) [1, 1, 1, 1, 1, 1, 1, 0, 1, 0, 0])) (kont Try.prog (conOf [awake_e, srun_e, fcfn_e]) (bodyOf Try.f3) [1, 1, 1, 1, 1, 1, 1, 0, 1, 0] (retPost Try.prog Try.f3 1 (shifts_res T M l by_))) (shifts_L2_S1 T M l by_ i ll) := by
  have hE : shifts_L2_E T M l by_ i ll (shifts_L2_S1 T M l by_ i ll) := Eq.mp (shifts_L2_entry1 T M l by_ i ll) h
  unfold shifts_L2_E at hE
  obtain ⟨k, hE⟩ := getI_of hE
  refine loop_of (α := (Int)) (fun xx_ => shifts_L2_F T M l by_ i ll xx_) (fun xx_ => shifts_L2_I T M l by_ i ll xx_) (fun xx_ => shifts_L2_m T M l by_ i ll xx_) (fun xx_ => shifts_L2_N T M l by_ i ll xx_) (fun xx_ => shifts_L2_T T M l by_ i ll xx_) (fun xx_ s_ h => ?_) ⟨k, hE⟩ (fun xx_ => shifts_L2_tree T M l by_ i ll xx_) (fun xx_ hI => shifts_L2_round T M l by_ i ll xx_ p0 p1 p2 p3 hI_L1 hI)
  unfold shifts_L2_N at h
  obtain ⟨k, h⟩ := getI_of h
  exact ⟨k, h⟩
def shifts_L1_T (T : Int) (M : Int) (l : List Int) (by_ : Int) (i : Int) (ll : List Int) : Prop := (cnd (decide (i < (((List.length l) : Nat) : Int)))
  (cnd (decide ((0 : Int) ≤ i))
    (cnd (decide (i < (((List.length l) : Nat) : Int)))
      (cnd (decide ((List.length (ll ++ [(Go.IntKind.wrap Go.IntKind.i64 ((List.getD l (Int.toNat i) (0 : Int)) + (Go.IntKind.wrap Go.IntKind.i64 by_)))])) ≤ 4294967296))
        ((shifts_L1_I T M l by_ (Go.IntKind.wrap Go.IntKind.i64 (i + (1 : Int))) (ll ++ [(Go.IntKind.wrap Go.IntKind.i64 ((List.getD l (Int.toNat i) (0 : Int)) + (Go.IntKind.wrap Go.IntKind.i64 by_)))])) ∧ (((shifts_L1_m T M l by_ (Go.IntKind.wrap Go.IntKind.i64 (i + (1 : Int))) (ll ++ [(Go.IntKind.wrap Go.IntKind.i64 ((List.getD l (Int.toNat i) (0 : Int)) + (Go.IntKind.wrap Go.IntKind.i64 by_)))])) < (shifts_L1_m T M l by_ i ll)) ∧ (((Go.IntKind.wrap Go.IntKind.i64 (i + (1 : Int))) = (Go.IntKind.wrap Go.IntKind.i64 (i + (1 : Int)))) ∧ (((((List.length l) : Nat) : Int) = (((List.length l) : Nat) : Int)) ∧ (True ∧ (True ∧ ((Bool.false = Bool.false) ∧ (True ∧ (True ∧ ((by_ = by_) ∧ (((T = T) ∧ (M = M)) ∧ ((l = l) ∧ (((ll ++ [(Go.IntKind.wrap Go.IntKind.i64 ((List.getD l (Int.toNat i) (0 : Int)) + (Go.IntKind.wrap Go.IntKind.i64 by_)))]) = (ll ++ [(Go.IntKind.wrap Go.IntKind.i64 ((List.getD l (Int.toNat i) (0 : Int)) + (Go.IntKind.wrap Go.IntKind.i64 by_)))])) ∧ True)))))))))))))
        False)
      False)
    False)
  (cnd ((!(decide ((if (((wValid T M) && (edgesB l)) = Bool.true) then (0 : Int) else (1 : Int)) = (if (((wValid T M) && (edgesB ll)) = Bool.true) then (0 : Int) else (1 : Int))))) || (!(decide ((((List.length (if (((wValid T M) && (edgesB l)) = Bool.true) then (runS T M s0 l) else ([] : List (List Int)))) : Nat) : Int) = (((List.length (if (((wValid T M) && (edgesB ll)) = Bool.true) then (runS T M s0 ll) else ([] : List (List Int)))) : Nat) : Int)))))
    (Bool.false = Bool.true)
    (LoopP (ex Try.prog (conOf [awake_e, srun_e, fcfn_e]) (subC (bodyOf Try.f3) [1, 1, 1, 1, 1, 1, 1, 0, 1, 0, 0])) (kont Try.prog (conOf [awake_e, srun_e, fcfn_e]) (bodyOf Try.f3) [1, 1, 1, 1, 1, 1, 1, 0, 1, 0] (retPost Try.prog Try.f3 1 (shifts_res T M l by_))) (shifts_L2_S1 T M l by_ i ll))))
set_option maxRecDepth 100000 in
theorem shifts_L1_tree (T : Int) (M : Int) (l : List Int) (by_ : Int) (i : Int) (ll : List Int) : shifts_L1_T T M l by_ i ll = ex Try.prog (conOf [awake_e, srun_e, fcfn_e]) (subC (bodyOf Try.f3) [1, 1, 1, 0, 1, 0, 0]) (nextE (shifts_L1_N T M l by_ i ll) (kont Try.prog (conOf [awake_e, srun_e, fcfn_e]) (bodyOf Try.f3) [1, 1, 1, 0, 1, 0] (retPost Try.prog Try.f3 1 (shifts_res T M l by_)))) (shifts_L1_F T M l by_ i ll) := by kernel_rfl
set_option maxRecDepth 100000 in
theorem shifts_L1_round (T : Int) (M : Int) (l : List Int) (by_ : Int) (i : Int) (ll : List Int) (p0 : wfI .i64 T = true) (p1 : wfI .i64 M = true) (p2 : wfL .i64 l = true) (p3 : wfI .u32 by_ = true) (hI_L1 : shifts_L1_I T M l by_ i ll) : shifts_L1_T T M l by_ i ll := by
  obtain ⟨⟨a1, a2⟩, ⟨a3, a4⟩, a5, a6⟩ := hI_L1
  have hby := wfU32 p3
  unfold shifts_L1_T
  rw [w64 (n := by_) (by omega) (by omega)]
  by_cases hi : i < l.length
  · have hd := drop_consI (l := l) (i := i) a1 hi
    have ht : okT (l.getD i.toNat 0) = true := by
      rw [List.all_eq_true] at a3
      refine a3 _ ?_
      rw [List.getD_eq_getElem?_getD, List.getElem?_eq_getElem (by omega)]
      exact List.getElem_mem (by omega)
    have ht := okT_iff.1 ht
    have hlen : ∀ r : Int, (ll ++ [r]).length = ll.length + 1 := fun r => by rw [List.length_append]; rfl
    have jl : ∀ r : Int, decide ((ll ++ [r]).length ≤ 4294967296) = true := fun r => by rw [decide_eq_true_eq, hlen]; omega
    rw [decide_eq_true hi, decide_eq_true a1, jl, w64 (n := i + 1) (by omega) (by omega), w64 (n := l.getD i.toNat 0 + by_) (by omega) (by omega)]
    refine ⟨⟨⟨by omega, by omega⟩, ⟨a3, a4⟩, by rw [hlen]; omega, ?_⟩, ?_, by simp⟩
    · rw [← a6, hd, show (i + 1).toNat = i.toNat + 1 by omega, List.map_cons, List.append_assoc]; rfl
    · unfold shifts_L1_m; omega
  · rw [decide_eq_false hi]
    rw [List.drop_eq_nil_of_le (show l.length ≤ i.toNat by omega), List.map_nil, List.append_nil] at a6
    have he : edgesB ll = edgesB l := by rw [a6]; exact edges_sh hby a3
    have hll : ll.length = l.length := by rw [a6, List.length_map]
    refine cnd_i (fun h => by cases h) (fun _ => ?_)
    refine cnd_i (fun h => ?_) (fun _ => ?_)
    · rw [he] at h
      cases hb : (wValid T M && edgesB l) <;> simp [hb, runS_length, hll] at h
    · exact shifts_L2_1 T M l by_ i ll p0 p1 p2 p3 ⟨⟨a1, a2⟩, ⟨a3, a4⟩, a5, by rw [List.drop_eq_nil_of_le (show l.length ≤ i.toNat by omega), List.map_nil, List.append_nil]; exact a6⟩ ⟨⟨by omega, a6⟩, by simp⟩
set_option maxRecDepth 100000 in
theorem shifts_L1_entry1 (T : Int) (M : Int) (l : List Int) (by_ : Int) : (((shifts_L1_I T M l by_ (0 : Int) ([] : List Int)) ∧ (((0 : Int) = (0 : Int)) ∧ (((((List.length l) : Nat) : Int) = (((List.length l) : Nat) : Int)) ∧ (True ∧ (True ∧ ((Bool.false = Bool.false) ∧ (True ∧ (True ∧ ((by_ = by_) ∧ (((T = T) ∧ (M = M)) ∧ ((l = l) ∧ ((([] : List Int) = ([] : List Int)) ∧ True))))))))))))) = shifts_L1_E T M l by_ (shifts_L1_S1 T M l by_) := by kernel_rfl
theorem shifts_L1_1 (T : Int) (M : Int) (l : List Int) (by_ : Int) (p0 : wfI .i64 T = true) (p1 : wfI .i64 M = true) (p2 : wfL .i64 l = true) (p3 : wfI .u32 by_ = true) (h : ((shifts_L1_I T M l by_ (0 : Int) ([] : List Int)) ∧ (((0 : Int) = (0 : Int)) ∧ (((((List.length l) : Nat) : Int) = (((List.length l) : Nat) : Int)) ∧ (True ∧ (True ∧ ((Bool.false = Bool.false) ∧ (True ∧ (True ∧ ((by_ = by_) ∧ (((T = T) ∧ (M = M)) ∧ ((l = l) ∧ ((([] : List Int) = ([] : List Int)) ∧ True))))))))))))) : LoopP (ex Try.prog (conOf [awake_e, srun_e, fcfn_e]) (subC (bodyOf Try.f3) [1, 1, 1, 0, 1, 0, 0])) (kont Try.prog (conOf [awake_e, srun_e, fcfn_e]) (bodyOf Try.f3) [1, 1, 1, 0, 1, 0] (retPost Try.prog Try.f3 1 (shifts_res T M l by_))) (shifts_L1_S1 T M l by_) := by
  have hE : shifts_L1_E T M l by_ (shifts_L1_S1 T M l by_) := Eq.mp (shifts_L1_entry1 T M l by_) h
  unfold shifts_L1_E at hE
  obtain ⟨i, hE⟩ := getI_of hE
  obtain ⟨ll, hE⟩ := getR_of hE
  refine loop_of (α := (Int) × (List Int)) (fun xx_ => shifts_L1_F T M l by_ xx_.1 xx_.2) (fun xx_ => shifts_L1_I T M l by_ xx_.1 xx_.2) (fun xx_ => shifts_L1_m T M l by_ xx_.1 xx_.2) (fun xx_ => shifts_L1_N T M l by_ xx_.1 xx_.2) (fun xx_ => shifts_L1_T T M l by_ xx_.1 xx_.2) (fun xx_ s_ h => ?_) ⟨⟨i, ll⟩, hE⟩ (fun xx_ => shifts_L1_tree T M l by_ xx_.1 xx_.2) (fun xx_ hI => shifts_L1_round T M l by_ xx_.1 xx_.2 p0 p1 p2 p3 hI)
  unfold shifts_L1_N at h
  obtain ⟨i, h⟩ := getI_of h
  obtain ⟨ll, h⟩ := getR_of h
  exact ⟨⟨i, ll⟩, h⟩
set_option maxRecDepth 100000 in
theorem shifts_tree (T : Int) (M : Int) (l : List Int) (by_ : Int) : ((cnd ((!(((!Bool.true) || (decide ((300 : Int) < (((List.length l) : Nat) : Int)))) == Bool.false)) || (decide ((List.length l) ≤ 1000)))
  (cnd (((!Bool.true) || (decide ((300 : Int) < (((List.length l) : Nat) : Int)))) || (!(List.all l okT)))
    (Bool.true = Bool.true)
    (LoopP (ex Try.prog (conOf [awake_e, srun_e, fcfn_e]) (subC (bodyOf Try.f3) [1, 1, 1, 0, 1, 0, 0])) (kont Try.prog (conOf [awake_e, srun_e, fcfn_e]) (bodyOf Try.f3) [1, 1, 1, 0, 1, 0] (retPost Try.prog Try.f3 1 (shifts_res T M l by_))) (shifts_L1_S1 T M l by_)))
  False)) = EXD Try.prog (conOf [awake_e, srun_e, fcfn_e]) Try.f3 [.agg [.int .i64 T, .int .i64 M], .cel (.row 0), .cel (.int .u32 by_)] [.ints .i64 l] (shifts_res T M l by_) := by kernel_rfl
theorem shifts_holds (T : Int) (M : Int) (l : List Int) (by_ : Int) (p0 : wfI .i64 T = true) (p1 : wfI .i64 M = true) (p2 : wfL .i64 l = true) (p3 : wfI .u32 by_ = true) : (cnd ((!(((!Bool.true) || (decide ((300 : Int) < (((List.length l) : Nat) : Int)))) == Bool.false)) || (decide ((List.length l) ≤ 1000)))
  (cnd (((!Bool.true) || (decide ((300 : Int) < (((List.length l) : Nat) : Int)))) || (!(List.all l okT)))
    (Bool.true = Bool.true)
    (LoopP (ex Try.prog (conOf [awake_e, srun_e, fcfn_e]) (subC (bodyOf Try.f3) [1, 1, 1, 0, 1, 0, 0])) (kont Try.prog (conOf [awake_e, srun_e, fcfn_e]) (bodyOf Try.f3) [1, 1, 1, 0, 1, 0] (retPost Try.prog Try.f3 1 (shifts_res T M l by_))) (shifts_L1_S1 T M l by_)))
  False) := by
  refine cnd_i (fun h1 => cnd_i (fun _ => rfl) (fun h => ?_)) (fun h => ?_)
  · simp only [Bool.or_eq_false_iff, Bool.not_eq_false', decide_eq_false_iff_not] at h
    exact shifts_L1_1 T M l by_ p0 p1 p2 p3 ⟨⟨⟨by omega, by omega⟩, ⟨h.2, by omega⟩, by simp, by simp⟩, by simp⟩
  · simp at h
    omega
set_option maxHeartbeats 2000000 in
theorem shifts_ok : SoundEnt Try.prog shifts_e := by
  refine ent_of_ex (Γ := (conOf [awake_e, srun_e, fcfn_e])) (conOf_sound (scons awake_ok (scons srun_ok (scons fcfn_ok snil)))) (by kernel_rfl) Try.func3 (by kernel_rfl) (by kernel_rfl) (fun args rows res h ho => ?_)
  change shifts_go args rows = some res at h
  unfold shifts_go at h
  split at h
  · simp only [Option.some.injEq] at h
    subst h
    rename_i q0_ q1_ q3_ q2_
    obtain ⟨p0, p1, p2, p3, _⟩ := ho
    exact EX.of (shifts_tree q0_ q1_ q2_ q3_) (shifts_holds q0_ q1_ q2_ q3_ p0 p1 p2 p3)
  · cases h
end Go.Proofs.Ytcaadikffaflnaa

