/- The wheel's synchronization by the symbolic run: runs. -/
import Derived.Test.YtcaadikffaflnaaS1
namespace Go.Proofs.Ytcaadikffaflnaa
set_option linter.unusedVariables false
set_option linter.unusedSimpArgs false
open Go.RowKit

/-- The states after each edge. -/
def runS (T M : Int) : List Int → List Int → List (List Int)
  | _, [] => []
  | s, t :: l => stp T M (q s 0) (q s 1) (q s 2) (q s 3) (q s 4) (q s 5) t :: runS T M (stp T M (q s 0) (q s 1) (q s 2) (q s 3) (q s 4) (q s 5) t) l
def s0 : List Int := [0, 0, 0, 0, 0, 0]
def incr : List Int → Bool
  | a :: b :: l => decide (a < b) && incr (b :: l)
  | _ => true
def edgesB (l : List Int) : Bool := decide ((l.length : Int) ≤ 1000) && l.all isT && incr l
def firstBad : List Int → Int
  | [] => -1
  | x :: l => if isT x then (if firstBad l = -1 then -1 else firstBad l + 1) else 0
theorem drop_consI {l : List Int} {i : Int} (h0 : 0 ≤ i) (h1 : i < l.length) : l.drop i.toNat = l.getD i.toNat 0 :: l.drop (i.toNat + 1) := by
  have h : i.toNat < l.length := by omega
  rw [List.drop_eq_getElem_cons h, List.getD_eq_getElem?_getD, List.getElem?_eq_getElem h]
  rfl
theorem firstBad_cons (x : Int) (l : List Int) : firstBad (x :: l) = if isT x = true then (if firstBad l = -1 then -1 else firstBad l + 1) else 0 := by rw [firstBad]
theorem firstBad_bd : ∀ l : List Int, -1 ≤ firstBad l ∧ firstBad l < l.length ∧ (firstBad l = -1 ↔ l.all isT = true)
  | [] => by simp [firstBad]
  | x :: l => by
    obtain ⟨h1, h2, h3⟩ := firstBad_bd l
    unfold firstBad
    cases hx : isT x with
    | false => simp [hx]
    | true =>
      simp only [List.length_cons, List.all_cons, hx, Bool.true_and, if_true]
      rw [← h3]
      by_cases h : firstBad l = -1
      · rw [if_pos h]; simp [h]; omega
      · rw [if_neg h]; simp [h]; omega
theorem stp_len (T M mo th la pe no te t : Int) : [q (stp T M mo th la pe no te t) 0, q (stp T M mo th la pe no te t) 1, q (stp T M mo th la pe no te t) 2, q (stp T M mo th la pe no te t) 3, q (stp T M mo th la pe no te t) 4, q (stp T M mo th la pe no te t) 5] = stp T M mo th la pe no te t := by
  unfold stp
  split
  · split <;> rfl
  · split
    · split
      · rfl
      · split <;> rfl
    · rfl
theorem sV_one {T M la pe no te : Int} (h1 : 0 ≤ la ∧ la ≤ 1099511627776) (h2 : (te = 0 ∧ pe = 0 ∧ no = 0) ∨ ((te = 1 ∨ te = 2) ∧ 1 ≤ pe ∧ pe ≤ la ∧ no = pe)) : sV T M 1 0 la pe no te = true := by
  unfold sV
  rw [if_neg (by decide), if_pos rfl]
  have hT := isT_iff.2 h1
  rcases h2 with ⟨rfl, rfl, rfl⟩ | ⟨h2, h3, h4, rfl⟩
  · simp [hT]
  · have : ¬ te = 0 := by omega
    rw [if_neg this]
    simp [hT, h2, h3, h4]
theorem sV_two {T M th la pe no : Int} (h0 : 0 ≤ th ∧ th < T - M) (h1 : 0 ≤ la ∧ la ≤ 1099511627776) (h2 : 1 ≤ pe ∧ pe ≤ la) (h3 : 1 ≤ no ∧ no ≤ pe) : sV T M 2 th la pe no 0 = true := by
  unfold sV
  rw [if_neg (by decide), if_neg (by decide), if_pos rfl]
  simp [isT_iff.2 h1, h0, h2, h3]
theorem stp_ok {T M mo th la pe no te t : Int} (h : sVd T M mo th la pe no te = true) (ht : isT t = true) (hl : mo = 0 ∨ la < t) :
    sVd T M (q (stp T M mo th la pe no te t) 0) (q (stp T M mo th la pe no te t) 1) (q (stp T M mo th la pe no te t) 2) (q (stp T M mo th la pe no te t) 3) (q (stp T M mo th la pe no te t) 4) (q (stp T M mo th la pe no te t) 5) = true ∧ (q (stp T M mo th la pe no te t) 0 = 0 ∨ q (stp T M mo th la pe no te t) 2 = t) := by
  obtain ⟨hw, hs⟩ := (Bool.and_eq_true _ _ ▸ h : wValid T M = true ∧ sV T M mo th la pe no te = true)
  have hh := wValid_iff.1 hw
  have ht := isT_iff.1 ht
  have c := sV_cases hs
  unfold sVd
  rw [hw, Bool.true_and]
  rcases c with c | c | c
  · obtain ⟨c1, c2, c3, c4, c5, c6⟩ := c
    have e : stp T M mo th la pe no te t = [1, 0, t, 0, 0, 0] := by unfold stp; rw [if_neg (by omega), if_neg (by omega)]
    rw [e]
    exact ⟨sV_one ht (.inl ⟨rfl, rfl, rfl⟩), .inr rfl⟩
  · obtain ⟨c1, c2, c3, c4⟩ := c
    by_cases hg : te = 2 ∧ gapB M no (t - la) = true
    · have e : stp T M mo th la pe no te t = [2, 0, t, t - la, (t - la) / (M + 1), 0] := by unfold stp; rw [if_pos c1, if_pos hg]
      rw [e]
      have hp : M + 1 ≤ t - la := by
        have hg2 := hg.2
        unfold gapB at hg2
        rcases hh.1 with hm | hm
        · rw [if_pos hm] at hg2; simp at hg2; omega
        · rw [if_neg (by omega)] at hg2; simp at hg2; omega
      have hq := quo_pos (x := t - la) (y := M + 1) (by omega) (by omega)
      have hq1 : 1 ≤ (t - la) / (M + 1) := Int.le_ediv_of_mul_le (by omega) (by omega)
      exact ⟨show sV T M 2 0 t (t - la) ((t - la) / (M + 1)) 0 = true from sV_two ⟨by omega, by omega⟩ ht ⟨by omega, by omega⟩ ⟨hq1, hq.2⟩, .inr rfl⟩
    · have e : stp T M mo th la pe no te t = [1, 0, t, t - la, t - la, if te ≠ 0 ∧ fitB (t - la) no = true then 2 else 1] := by unfold stp; rw [if_pos c1, if_neg hg]
      rw [e]
      refine ⟨sV_one ht (.inr ⟨?_, by simp [q]; omega, by simp [q]; omega, rfl⟩), .inr rfl⟩
      show (if te ≠ 0 ∧ fitB (t - la) no = true then (2 : Int) else 1) = 1 ∨ (if te ≠ 0 ∧ fitB (t - la) no = true then (2 : Int) else 1) = 2
      split <;> simp
  · obtain ⟨c1, c2, c3, c4, c5, c6⟩ := c
    cases hf : fitB (t - la) (expc T M th no) with
    | false =>
      have e : stp T M mo th la pe no te t = [0, 0, 0, 0, 0, 0] := by unfold stp; rw [if_neg (by omega), if_pos c1, if_pos hf]
      rw [e]
      exact ⟨rfl, .inl rfl⟩
    | true =>
      have hf2 := hf
      simp only [fitB, decide_eq_true_eq] at hf2
      by_cases hl : th = T - M - 1
      · have e : stp T M mo th la pe no te t = [2, 0, t, t - la, (t - la) / (M + 1), 0] := by unfold stp; rw [if_neg (by omega), if_pos c1, if_neg (by rw [hf]; simp), if_pos hl]
        rw [e]
        have hp : M + 1 ≤ t - la := by
          unfold expc at hf2
          rw [if_pos hl] at hf2
          rcases hh.1 with hm | hm
          · rw [hm] at hf2 ⊢; omega
          · rw [hm] at hf2 ⊢; omega
        have hq := quo_pos (x := t - la) (y := M + 1) (by omega) (by omega)
        have hq1 : 1 ≤ (t - la) / (M + 1) := Int.le_ediv_of_mul_le (by omega) (by omega)
        exact ⟨show sV T M 2 0 t (t - la) ((t - la) / (M + 1)) 0 = true from sV_two ⟨by omega, by omega⟩ ht ⟨by omega, by omega⟩ ⟨hq1, hq.2⟩, .inr rfl⟩
      · have e : stp T M mo th la pe no te t = [2, th + 1, t, t - la, t - la, 0] := by unfold stp; rw [if_neg (by omega), if_pos c1, if_neg (by rw [hf]; simp), if_neg hl]
        rw [e]
        exact ⟨show sV T M 2 (th + 1) t (t - la) (t - la) 0 = true from sV_two ⟨by omega, by omega⟩ ht ⟨by omega, by omega⟩ ⟨by omega, by omega⟩, .inr rfl⟩
theorem incr_get : ∀ {l : List Int} {j : Nat}, incr l = true → j + 1 < l.length → l.getD j 0 < l.getD (j + 1) 0
  | [], _, _, h => by simp at h
  | [_], _, _, h => by simp at h
  | a :: b :: l, 0, h, _ => by
    simp only [incr, Bool.and_eq_true, decide_eq_true_eq] at h
    exact h.1
  | a :: b :: l, j + 1, h, hj => by
    simp only [incr, Bool.and_eq_true, decide_eq_true_eq] at h
    have := incr_get (l := b :: l) (j := j) h.2 (by simpa using hj)
    simpa using this
def rlam_res (t : Int) : CRes := ⟨[], .one (.cel (.bool (!isT t))), []⟩
def rlam_go : List TV → List RowA → Option CRes := fun args rows =>
  match args, rows with
  | [.cel (.int .i64 t)], [] => some (rlam_res t)
  | _, _ => none
def rlam_e : Ent := ⟨30, [], rlam_go⟩
set_option maxRecDepth 100000 in
theorem rlam_tree (t : Int) : (((!(isT t)) = (!(isT t)))) = EXD Try.prog (conOf [instant_e]) Try.f30 [.cel (.int .i64 t)] [] (rlam_res t) := by kernel_rfl
theorem rlam_holds (t : Int)  : ((!(isT t)) = (!(isT t))) := by
  rfl
set_option maxHeartbeats 2000000 in
theorem rlam_ok : SoundEnt Try.prog rlam_e := by
  refine ent_of_ex (Γ := (conOf [instant_e])) (conOf_sound (scons instant_ok snil)) (by kernel_rfl) Try.func30 (by kernel_rfl) (by kernel_rfl) (fun args rows res h ho => ?_)
  change rlam_go args rows = some res at h
  unfold rlam_go at h
  split at h
  · simp only [Option.some.injEq] at h
    subst h
    rename_i q0_
    skip
    exact EX.of (rlam_tree q0_) (rlam_holds q0_)
  · cases h
def ifn_res (l : List Int) : CRes := ⟨[decide (l.length ≤ 1000)], .one (.cel (.int .i64 (firstBad l))), []⟩
def ifn_go : List TV → List RowA → Option CRes := fun args rows =>
  match args, rows with
  | [.cel (.row 0), .cel (.fn 30)], [.ints .i64 l] => some (ifn_res l)
  | _, _ => none
def ifn_e : Ent := ⟨28, [.ints .i64 []], ifn_go⟩
def ifn_L1_F (l : List Int) (i : Int) : St := ⟨19, [], [(8, (.one (.cel (.int .i64 i)))), (7, (.one (.cel (.int .i64 (((List.length l) : Nat) : Int))))), (4, (.one (.cel (.int .i64 (0 : Int))))), (0, (.one (.cel (.row 0)))), (1, (.one (.cel (.fn 30))))], [], [⟨(.ints .i64 l), none⟩]⟩
def ifn_L1_I (l : List Int) (i : Int) : Prop := (0 ≤ i ∧ i ≤ l.length ∧ (l.length : Int) ≤ 1000) ∧ (firstBad l = (if firstBad (l.drop i.toNat) = -1 then -1 else firstBad (l.drop i.toNat) + i))
def ifn_L1_m (l : List Int) (i : Int) : Nat := (l.length - i).toNat
def ifn_L1_N (l : List Int) (i' : Int) (st_ : St) : Prop := getI st_ 8 fun i => ifn_L1_I l i ∧ ifn_L1_m l i < ifn_L1_m l i' ∧ SubA st_ (ifn_L1_F l i)
def ifn_L1_E (l : List Int) (st_ : St) : Prop := getI st_ 8 fun i => ifn_L1_I l i ∧ SubA st_ (ifn_L1_F l i)
def ifn_L1_S1 (l : List Int) : St := ⟨19, [], [(8, (.one (.cel (.int .i64 (0 : Int))))), (7, (.one (.cel (.int .i64 (((List.length l) : Nat) : Int))))), (6, (.one (.cel (.row 0)))), (4, (.one (.cel (.int .i64 (0 : Int))))), (0, (.one (.cel (.row 0)))), (1, (.one (.cel (.fn 30))))], [], [⟨(.ints .i64 l), none⟩]⟩
def ifn_L1_T (l : List Int) (i : Int) : Prop := (cnd (decide (i < (((List.length l) : Nat) : Int)))
  (cnd (decide ((0 : Int) ≤ i))
    (cnd (decide (i < (((List.length l) : Nat) : Int)))
      (cnd (!(isT (List.getD l (Int.toNat i) (0 : Int))))
        (i = (firstBad l))
        ((ifn_L1_I l (Go.IntKind.wrap Go.IntKind.i64 (i + (1 : Int)))) ∧ (((ifn_L1_m l (Go.IntKind.wrap Go.IntKind.i64 (i + (1 : Int)))) < (ifn_L1_m l i)) ∧ (((Go.IntKind.wrap Go.IntKind.i64 (i + (1 : Int))) = (Go.IntKind.wrap Go.IntKind.i64 (i + (1 : Int)))) ∧ (((((List.length l) : Nat) : Int) = (((List.length l) : Nat) : Int)) ∧ (((0 : Int) = (0 : Int)) ∧ (True ∧ (True ∧ ((l = l) ∧ True)))))))))
      False)
    False)
  ((-(1 : Int)) = (firstBad l)))
set_option maxRecDepth 100000 in
theorem ifn_L1_tree (l : List Int) (i : Int) : ifn_L1_T l i = ex Try.prog (conOf [rlam_e]) (subC (bodyOf Try.f28) [1, 0, 1, 0, 0]) (nextE (ifn_L1_N l i) (kont Try.prog (conOf [rlam_e]) (bodyOf Try.f28) [1, 0, 1, 0] (retPost Try.prog Try.f28 1 (ifn_res l)))) (ifn_L1_F l i) := by kernel_rfl
set_option maxRecDepth 100000 in
theorem ifn_L1_round (l : List Int) (i : Int) (p0 : decide (l.length ≤ 1000) = true) (hI_L1 : ifn_L1_I l i) : ifn_L1_T l i := by
  obtain ⟨⟨a1, a2, a3⟩, a4⟩ := hI_L1
  unfold ifn_L1_T
  by_cases hi : i < l.length
  · have hd := drop_consI (l := l) (i := i) a1 hi
    obtain ⟨b1, b2, b3⟩ := firstBad_bd (l.drop (i.toNat + 1))
    have e1 : (i + 1).toNat = i.toNat + 1 := by omega
    rw [hd] at a4
    rw [w64 (n := i + 1) (by omega) (by omega), decide_eq_true hi, decide_eq_true a1]
    generalize l.getD i.toNat 0 = x at *
    rw [firstBad_cons] at a4
    cases hx : isT x with
    | false =>
      rw [hx] at a4
      simp at a4
      show i = firstBad l
      omega
    | true =>
      rw [hx] at a4
      refine ⟨⟨⟨by omega, by omega, a3⟩, ?_⟩, ?_, by simp⟩
      · rw [e1]
        simp only [if_true] at a4
        generalize firstBad (l.drop (i.toNat + 1)) = y at *
        by_cases hy : y = -1
        · rw [if_pos hy] at a4 ⊢
          simpa using a4
        · rw [if_neg hy] at a4 ⊢
          rw [if_neg (by omega)] at a4
          omega
      · unfold ifn_L1_m
        omega
  · rw [decide_eq_false hi]
    have e : l.drop i.toNat = [] := List.drop_eq_nil_of_le (by omega)
    rw [e] at a4
    simp [firstBad] at a4
    exact a4.symm
set_option maxRecDepth 100000 in
theorem ifn_L1_entry1 (l : List Int) : (((ifn_L1_I l (0 : Int)) ∧ (((0 : Int) = (0 : Int)) ∧ (((((List.length l) : Nat) : Int) = (((List.length l) : Nat) : Int)) ∧ (((0 : Int) = (0 : Int)) ∧ (True ∧ (True ∧ ((l = l) ∧ True)))))))) = ifn_L1_E l (ifn_L1_S1 l) := by kernel_rfl
theorem ifn_L1_1 (l : List Int) (p0 : decide (l.length ≤ 1000) = true) (h : ((ifn_L1_I l (0 : Int)) ∧ (((0 : Int) = (0 : Int)) ∧ (((((List.length l) : Nat) : Int) = (((List.length l) : Nat) : Int)) ∧ (((0 : Int) = (0 : Int)) ∧ (True ∧ (True ∧ ((l = l) ∧ True)))))))) : LoopP (ex Try.prog (conOf [rlam_e]) (subC (bodyOf Try.f28) [1, 0, 1, 0, 0])) (kont Try.prog (conOf [rlam_e]) (bodyOf Try.f28) [1, 0, 1, 0] (retPost Try.prog Try.f28 1 (ifn_res l))) (ifn_L1_S1 l) := by
  have hE : ifn_L1_E l (ifn_L1_S1 l) := Eq.mp (ifn_L1_entry1 l) h
  unfold ifn_L1_E at hE
  obtain ⟨i, hE⟩ := getI_of hE
  refine loop_of (α := (Int)) (fun xx_ => ifn_L1_F l xx_) (fun xx_ => ifn_L1_I l xx_) (fun xx_ => ifn_L1_m l xx_) (fun xx_ => ifn_L1_N l xx_) (fun xx_ => ifn_L1_T l xx_) (fun xx_ s_ h => ?_) ⟨i, hE⟩ (fun xx_ => ifn_L1_tree l xx_) (fun xx_ hI => ifn_L1_round l xx_ p0 hI)
  unfold ifn_L1_N at h
  obtain ⟨i, h⟩ := getI_of h
  exact ⟨i, h⟩
set_option maxRecDepth 100000 in
theorem ifn_tree (l : List Int) : ((LoopP (ex Try.prog (conOf [rlam_e]) (subC (bodyOf Try.f28) [1, 0, 1, 0, 0])) (kont Try.prog (conOf [rlam_e]) (bodyOf Try.f28) [1, 0, 1, 0] (retPost Try.prog Try.f28 1 (ifn_res l))) (ifn_L1_S1 l))) = EXD Try.prog (conOf [rlam_e]) Try.f28 [.cel (.row 0), .cel (.fn 30)] [.ints .i64 l] (ifn_res l) := by kernel_rfl
theorem ifn_holds (l : List Int) (p0 : decide (l.length ≤ 1000) = true) : (LoopP (ex Try.prog (conOf [rlam_e]) (subC (bodyOf Try.f28) [1, 0, 1, 0, 0])) (kont Try.prog (conOf [rlam_e]) (bodyOf Try.f28) [1, 0, 1, 0] (retPost Try.prog Try.f28 1 (ifn_res l))) (ifn_L1_S1 l)) := by
  have q0 := p0
  simp only [decide_eq_true_eq] at p0
  have b := (firstBad_bd l).1
  refine ifn_L1_1 l q0 ⟨⟨⟨by omega, by omega, by omega⟩, ?_⟩, by simp⟩
  simp
set_option maxHeartbeats 2000000 in
theorem ifn_ok : SoundEnt Try.prog ifn_e := by
  refine ent_of_ex (Γ := (conOf [rlam_e])) (conOf_sound (scons rlam_ok snil)) (by kernel_rfl) Try.func28 (by kernel_rfl) (by kernel_rfl) (fun args rows res h ho => ?_)
  change ifn_go args rows = some res at h
  unfold ifn_go at h
  split at h
  · simp only [Option.some.injEq] at h
    subst h
    rename_i q0_
    obtain ⟨p0, _⟩ := ho
    exact EX.of (ifn_tree q0_) (ifn_holds q0_ p0)
  · cases h
def cfn_res (l : List Int) : CRes := ⟨[decide (l.length ≤ 1000)], .one (.cel (.bool (!l.all isT))), []⟩
def cfn_go : List TV → List RowA → Option CRes := fun args rows =>
  match args, rows with
  | [.cel (.row 0), .cel (.fn 30)], [.ints .i64 l] => some (cfn_res l)
  | _, _ => none
def cfn_e : Ent := ⟨10, [.ints .i64 []], cfn_go⟩
set_option maxRecDepth 100000 in
theorem cfn_tree (l : List Int) : ((cnd (decide ((List.length l) ≤ 1000))
  ((decide ((0 : Int) ≤ (firstBad l))) = (!(List.all l isT)))
  False)) = EXD Try.prog (conOf [ifn_e]) Try.f10 [.cel (.row 0), .cel (.fn 30)] [.ints .i64 l] (cfn_res l) := by kernel_rfl
theorem cfn_holds (l : List Int) (p0 : decide (l.length ≤ 1000) = true) : (cnd (decide ((List.length l) ≤ 1000))
  ((decide ((0 : Int) ≤ (firstBad l))) = (!(List.all l isT)))
  False) := by
  obtain ⟨b1, b2, b3⟩ := firstBad_bd l
  rw [p0]
  show decide (0 ≤ firstBad l) = !l.all isT
  cases h : l.all isT with
  | true => rw [b3.2 h]; rfl
  | false =>
    have : ¬ firstBad l = -1 := fun e => by rw [b3.1 e] at h; cases h
    rw [Bool.not_false, decide_eq_true_eq]
    omega
set_option maxHeartbeats 2000000 in
theorem cfn_ok : SoundEnt Try.prog cfn_e := by
  refine ent_of_ex (Γ := (conOf [ifn_e])) (conOf_sound (scons ifn_ok snil)) (by kernel_rfl) Try.func10 (by kernel_rfl) (by kernel_rfl) (fun args rows res h ho => ?_)
  change cfn_go args rows = some res at h
  unfold cfn_go at h
  split at h
  · simp only [Option.some.injEq] at h
    subst h
    rename_i q0_
    obtain ⟨p0, _⟩ := ho
    exact EX.of (cfn_tree q0_) (cfn_holds q0_ p0)
  · cases h
def snew_res : CRes := ⟨[], .one (.agg [.int .i64 (0), .int .i64 (0), .int .i64 (0), .int .i64 (0), .int .i64 (0), .int .i64 (0)]), []⟩
def snew_go : List TV → List RowA → Option CRes := fun args rows =>
  match args, rows with
  | [], [] => some (snew_res )
  | _, _ => none
def snew_e : Ent := ⟨13, [], snew_go⟩
set_option maxRecDepth 100000 in
theorem snew_tree  : ((((0 : Int) = (0 : Int)) ∧ (((0 : Int) = (0 : Int)) ∧ (((0 : Int) = (0 : Int)) ∧ (((0 : Int) = (0 : Int)) ∧ (((0 : Int) = (0 : Int)) ∧ ((0 : Int) = (0 : Int)))))))) = EXD Try.prog (conOf []) Try.f13 [] [] (snew_res ) := by kernel_rfl
theorem snew_holds   : (((0 : Int) = (0 : Int)) ∧ (((0 : Int) = (0 : Int)) ∧ (((0 : Int) = (0 : Int)) ∧ (((0 : Int) = (0 : Int)) ∧ (((0 : Int) = (0 : Int)) ∧ ((0 : Int) = (0 : Int))))))) := by
  exact ⟨rfl, rfl, rfl, rfl, rfl, rfl⟩
set_option maxHeartbeats 2000000 in
theorem snew_ok : SoundEnt Try.prog snew_e := by
  refine ent_of_ex (Γ := (conOf [])) (conOf_sound snil) (by kernel_rfl) Try.func13 (by kernel_rfl) (by kernel_rfl) (fun args rows res h ho => ?_)
  change snew_go args rows = some res at h
  unfold snew_go at h
  split at h
  · simp only [Option.some.injEq] at h
    subst h
    skip
    skip
    exact EX.of (snew_tree ) (snew_holds )
  · cases h
def redges_res (l : List Int) : CRes := ⟨[lenB l], .one (.cel (.bool (edgesB l))), []⟩
def redges_go : List TV → List RowA → Option CRes := fun args rows =>
  match args, rows with
  | [.cel (.row 0)], [.ints .i64 l] => some (redges_res l)
  | _, _ => none
def redges_e : Ent := ⟨23, [.ints .i64 []], redges_go⟩
def redges_L1_F (l : List Int) (i : Int) : St := ⟨35, [], [(3, (.one (.cel (.int .i64 i)))), (2, (.one (.cel (.bool Bool.false)))), (0, (.one (.cel (.row 0))))], [], [⟨(.ints .i64 l), none⟩]⟩
def redges_L1_I (l : List Int) (i : Int) : Prop := (0 ≤ i ∧ i ≤ l.length ∧ (l.length : Int) ≤ 9223372036854775807) ∧ (l.all isT = (l.drop i.toNat).all isT) ∧ (incr l = incr (l.drop (i - 1).toNat))
def redges_L1_m (l : List Int) (i : Int) : Nat := (l.length - i).toNat
def redges_L1_N (l : List Int) (i' : Int) (st_ : St) : Prop := getI st_ 3 fun i => redges_L1_I l i ∧ redges_L1_m l i < redges_L1_m l i' ∧ SubA st_ (redges_L1_F l i)
def redges_L1_E (l : List Int) (st_ : St) : Prop := getI st_ 3 fun i => redges_L1_I l i ∧ SubA st_ (redges_L1_F l i)
def redges_L1_S1 (l : List Int) : St := ⟨35, [], [(3, (.one (.cel (.int .i64 (0 : Int))))), (2, (.one (.cel (.bool Bool.false)))), (0, (.one (.cel (.row 0))))], [], [⟨(.ints .i64 l), none⟩]⟩
def redges_L1_T (l : List Int) (i : Int) : Prop := (cnd (decide (i < (((List.length l) : Nat) : Int)))
  (cnd (decide ((0 : Int) ≤ i))
    (cnd (decide (i < (((List.length l) : Nat) : Int)))
      (cnd ((!(((!(isT (List.getD l (Int.toNat i) (0 : Int)))) == Bool.false) && ((decide ((0 : Int) < i)) == Bool.true))) || (decide ((0 : Int) ≤ i)))
        (cnd ((!(((!(isT (List.getD l (Int.toNat i) (0 : Int)))) == Bool.false) && ((decide ((0 : Int) < i)) == Bool.true))) || (decide (i < (((List.length l) : Nat) : Int))))
          (cnd ((!(((!(isT (List.getD l (Int.toNat i) (0 : Int)))) == Bool.false) && ((decide ((0 : Int) < i)) == Bool.true))) || (decide ((0 : Int) ≤ (Go.IntKind.wrap Go.IntKind.i64 (i - (1 : Int))))))
            (cnd ((!(((!(isT (List.getD l (Int.toNat i) (0 : Int)))) == Bool.false) && ((decide ((0 : Int) < i)) == Bool.true))) || (decide ((Go.IntKind.wrap Go.IntKind.i64 (i - (1 : Int))) < (((List.length l) : Nat) : Int))))
              (cnd ((!(isT (List.getD l (Int.toNat i) (0 : Int)))) || ((decide ((0 : Int) < i)) && (decide ((List.getD l (Int.toNat i) (0 : Int)) ≤ (List.getD l (Int.toNat (Go.IntKind.wrap Go.IntKind.i64 (i - (1 : Int)))) (0 : Int))))))
                (Bool.false = (edgesB l))
                ((redges_L1_I l (Go.IntKind.wrap Go.IntKind.i64 (i + (1 : Int)))) ∧ (((redges_L1_m l (Go.IntKind.wrap Go.IntKind.i64 (i + (1 : Int)))) < (redges_L1_m l i)) ∧ (((Go.IntKind.wrap Go.IntKind.i64 (i + (1 : Int))) = (Go.IntKind.wrap Go.IntKind.i64 (i + (1 : Int)))) ∧ ((Bool.false = Bool.false) ∧ (True ∧ ((l = l) ∧ True)))))))
              False)
            False)
          False)
        False)
      False)
    False)
  ((decide ((((List.length l) : Nat) : Int) ≤ (1000 : Int))) = (edgesB l)))
set_option maxRecDepth 100000 in
theorem redges_L1_tree (l : List Int) (i : Int) : redges_L1_T l i = ex Try.prog (conOf [rtime_e]) (subC (bodyOf Try.f23) [1, 0, 1, 0, 0]) (nextE (redges_L1_N l i) (kont Try.prog (conOf [rtime_e]) (bodyOf Try.f23) [1, 0, 1, 0] (retPost Try.prog Try.f23 1 (redges_res l)))) (redges_L1_F l i) := by kernel_rfl
set_option maxRecDepth 100000 in
theorem redges_L1_round (l : List Int) (i : Int) (p0 : lenB l = true) (hI_L1 : redges_L1_I l i) : redges_L1_T l i := by
  obtain ⟨⟨a1, a2, a3⟩, a4, a5⟩ := hI_L1
  unfold redges_L1_T
  by_cases hi : i < l.length
  · have hd := drop_consI (l := l) (i := i) a1 hi
    rw [w64 (n := i + 1) (by omega) (by omega), w64 (n := i - 1) (by omega) (by omega), decide_eq_true hi, decide_eq_true a1]
    have e1 : (i + 1).toNat = i.toNat + 1 := by omega
    rw [hd] at a4
    have jm : decide (i - 1 < (l.length : Int)) = true := by rw [decide_eq_true_eq]; omega
    rw [jm]
    cases hx : isT (l.getD i.toNat 0) with
    | false =>
      have : l.all isT = false := by rw [a4, List.all_cons, hx, Bool.false_and]
      simp [edgesB, this, cnd]
    | true =>
      have b4 : l.all isT = (l.drop (i.toNat + 1)).all isT := by rw [a4, List.all_cons, hx, Bool.true_and]
      by_cases h0 : 0 < i
      · have hd2 := drop_consI (l := l) (i := i - 1) (by omega) (by omega)
        have e2 : (i - 1).toNat + 1 = i.toNat := by omega
        rw [e2, hd] at hd2
        rw [hd2, incr] at a5
        have j1 : decide (0 ≤ i - 1) = true := by rw [decide_eq_true_eq]; omega
        rw [decide_eq_true h0, j1]
        by_cases hc : l.getD i.toNat 0 ≤ l.getD (i - 1).toNat 0
        · have : incr l = false := by rw [a5, decide_eq_false (by omega), Bool.false_and]
          rw [decide_eq_true hc]
          simp [edgesB, this, cnd]
        · rw [decide_eq_true (by omega), Bool.true_and] at a5
          rw [decide_eq_false hc]
          refine ⟨⟨⟨by omega, by omega, a3⟩, by rw [e1]; exact b4, ?_⟩, ?_, by simp⟩
          · rw [show (i + 1 - 1).toNat = i.toNat by omega, hd]; exact a5
          · unfold redges_L1_m
            omega
      · rw [decide_eq_false h0]
        refine ⟨⟨⟨by omega, by omega, a3⟩, by rw [e1]; exact b4, ?_⟩, ?_, by simp⟩
        · rw [show (i + 1 - 1).toNat = (i - 1).toNat by omega]; exact a5
        · unfold redges_L1_m
          omega
  · rw [decide_eq_false hi]
    have e : l.drop i.toNat = [] := List.drop_eq_nil_of_le (by omega)
    rw [e] at a4
    have hI2 : incr l = true := by
      rw [a5]
      by_cases h0 : 0 < i
      · have hd2 := drop_consI (l := l) (i := i - 1) (by omega) (by omega)
        rw [show (i - 1).toNat + 1 = i.toNat by omega, e] at hd2
        rw [hd2]; rfl
      · have : l = [] := List.eq_nil_of_length_eq_zero (by omega)
        rw [this]; simp [incr]
    show decide ((l.length : Int) ≤ 1000) = edgesB l
    unfold edgesB
    rw [a4, hI2]
    simp
set_option maxRecDepth 100000 in
theorem redges_L1_entry1 (l : List Int) : (((redges_L1_I l (0 : Int)) ∧ (((0 : Int) = (0 : Int)) ∧ ((Bool.false = Bool.false) ∧ (True ∧ ((l = l) ∧ True)))))) = redges_L1_E l (redges_L1_S1 l) := by kernel_rfl
theorem redges_L1_1 (l : List Int) (p0 : lenB l = true) (h : ((redges_L1_I l (0 : Int)) ∧ (((0 : Int) = (0 : Int)) ∧ ((Bool.false = Bool.false) ∧ (True ∧ ((l = l) ∧ True)))))) : LoopP (ex Try.prog (conOf [rtime_e]) (subC (bodyOf Try.f23) [1, 0, 1, 0, 0])) (kont Try.prog (conOf [rtime_e]) (bodyOf Try.f23) [1, 0, 1, 0] (retPost Try.prog Try.f23 1 (redges_res l))) (redges_L1_S1 l) := by
  have hE : redges_L1_E l (redges_L1_S1 l) := Eq.mp (redges_L1_entry1 l) h
  unfold redges_L1_E at hE
  obtain ⟨i, hE⟩ := getI_of hE
  refine loop_of (α := (Int)) (fun xx_ => redges_L1_F l xx_) (fun xx_ => redges_L1_I l xx_) (fun xx_ => redges_L1_m l xx_) (fun xx_ => redges_L1_N l xx_) (fun xx_ => redges_L1_T l xx_) (fun xx_ s_ h => ?_) ⟨i, hE⟩ (fun xx_ => redges_L1_tree l xx_) (fun xx_ hI => redges_L1_round l xx_ p0 hI)
  unfold redges_L1_N at h
  obtain ⟨i, h⟩ := getI_of h
  exact ⟨i, h⟩
set_option maxRecDepth 100000 in
theorem redges_tree (l : List Int) : ((LoopP (ex Try.prog (conOf [rtime_e]) (subC (bodyOf Try.f23) [1, 0, 1, 0, 0])) (kont Try.prog (conOf [rtime_e]) (bodyOf Try.f23) [1, 0, 1, 0] (retPost Try.prog Try.f23 1 (redges_res l))) (redges_L1_S1 l))) = EXD Try.prog (conOf [rtime_e]) Try.f23 [.cel (.row 0)] [.ints .i64 l] (redges_res l) := by kernel_rfl
theorem redges_holds (l : List Int) (p0 : lenB l = true) : (LoopP (ex Try.prog (conOf [rtime_e]) (subC (bodyOf Try.f23) [1, 0, 1, 0, 0])) (kont Try.prog (conOf [rtime_e]) (bodyOf Try.f23) [1, 0, 1, 0] (retPost Try.prog Try.f23 1 (redges_res l))) (redges_L1_S1 l)) := by
  have q0 := lenB_iff.1 p0
  exact redges_L1_1 l p0 ⟨⟨⟨by omega, by omega, by omega⟩, by simp, by simp⟩, by simp⟩
set_option maxHeartbeats 2000000 in
theorem redges_ok : SoundEnt Try.prog redges_e := by
  refine ent_of_ex (Γ := (conOf [rtime_e])) (conOf_sound (scons rtime_ok snil)) (by kernel_rfl) Try.func23 (by kernel_rfl) (by kernel_rfl) (fun args rows res h ho => ?_)
  change redges_go args rows = some res at h
  unfold redges_go at h
  split at h
  · simp only [Option.some.injEq] at h
    subst h
    rename_i q0_
    obtain ⟨p0, _⟩ := ho
    exact EX.of (redges_tree q0_) (redges_holds q0_ p0)
  · cases h
def srun_res (T : Int) (M : Int) (l : List Int) : CRes := ⟨[], .tup [.cel (.row 1), .cel (.int .i64 (if wValid T M && edgesB l then 0 else 1))], [.recs [.int .i64, .int .i64, .int .i64, .int .i64, .int .i64, .int .i64] (if wValid T M && edgesB l then runS T M s0 l else [])]⟩
def srun_go : List TV → List RowA → Option CRes := fun args rows =>
  match args, rows with
  | [.agg [.int .i64 T, .int .i64 M], .cel (.row 0)], [.ints .i64 l] => some (srun_res T M l)
  | _, _ => none
def srun_e : Ent := ⟨12, [.ints .i64 []], srun_go⟩
def srun_L1_F (T : Int) (M : Int) (l : List Int) (i : Int) : St := ⟨56, [], [(6, (.one (.cel (.int .i64 i)))), (5, (.one (.cel (.int .i64 (0 : Int))))), (4, (.one (.cel .nilS))), (2, (.one (.cel (.ptr 0 0)))), (1, (.one (.cel (.row 0))))], [[(.int .i64 T), (.int .i64 M)]], [⟨(.ints .i64 l), none⟩]⟩
def srun_L1_I (T : Int) (M : Int) (l : List Int) (i : Int) : Prop := (1 ≤ i ∧ (i ≤ l.length ∨ i = 1) ∧ (l.length : Int) ≤ 1000) ∧ (wValid T M = true ∧ l.all isT = true) ∧ (incr l = incr (l.drop (i - 1).toNat))
def srun_L1_m (T : Int) (M : Int) (l : List Int) (i : Int) : Nat := (l.length - i).toNat
def srun_L1_N (T : Int) (M : Int) (l : List Int) (i' : Int) (st_ : St) : Prop := getI st_ 6 fun i => srun_L1_I T M l i ∧ srun_L1_m T M l i < srun_L1_m T M l i' ∧ SubA st_ (srun_L1_F T M l i)
def srun_L1_E (T : Int) (M : Int) (l : List Int) (st_ : St) : Prop := getI st_ 6 fun i => srun_L1_I T M l i ∧ SubA st_ (srun_L1_F T M l i)
def srun_L1_S1 (T : Int) (M : Int) (l : List Int) : St := ⟨56, [19, 14], [(6, (.one (.cel (.int .i64 (1 : Int))))), (22, (.one (.cel (.bool (((!(wValid T M)) || (decide ((1000 : Int) < (((List.length l) : Nat) : Int)))) || (!(List.all l isT))))))), (21, (.spec 19 Bool.false (.cel (.bool (!(List.all l isT)))))), (20, (.spec 19 Bool.false (.cel (.row 0)))), (19, (.one (.cel (.bool ((!(wValid T M)) || (decide ((1000 : Int) < (((List.length l) : Nat) : Int)))))))), (18, (.one (.cel (.bool ((!(wValid T M)) || (decide ((1000 : Int) < (((List.length l) : Nat) : Int)))))))), (17, (.spec 14 Bool.false (.cel (.bool (decide ((1000 : Int) < (((List.length l) : Nat) : Int))))))), (16, (.spec 14 Bool.false (.cel (.int .i64 (((List.length l) : Nat) : Int))))), (15, (.spec 14 Bool.false (.cel (.row 0)))), (14, (.one (.cel (.bool (!(wValid T M)))))), (13, (.one (.cel (.bool (!(wValid T M)))))), (12, (.one (.cel (.bool (wValid T M))))), (11, (.one (.agg [(.int .i64 T), (.int .i64 M)]))), (5, (.one (.cel (.int .i64 (0 : Int))))), (4, (.one (.cel .nilS))), (2, (.one (.cel (.ptr 0 0)))), (0, (.one (.agg [(.int .i64 T), (.int .i64 M)]))), (1, (.one (.cel (.row 0))))], [[(.int .i64 T), (.int .i64 M)]], [⟨(.ints .i64 l), none⟩]⟩
def srun_L2_F (T : Int) (M : Int) (l : List Int) (i : Int) (k : Int) (c0 : Int) (c1 : Int) (c2 : Int) (c3 : Int) (c4 : Int) (c5 : Int) (ml : List (List Int)) : St := ⟨56, [], [(42, (.one (.cel (.int .i64 k)))), (41, (.one (.cel (.int .i64 (((List.length l) : Nat) : Int))))), (40, (.one (.cel (.row 0)))), (8, (.one (.cel (.ptr 1 0)))), (7, (.one (.cel (.row 1)))), (5, (.one (.cel (.int .i64 (0 : Int))))), (4, (.one (.cel .nilS))), (2, (.one (.cel (.ptr 0 0))))], [[(.int .i64 T), (.int .i64 M)], [(.int .i64 c0), (.int .i64 c1), (.int .i64 c2), (.int .i64 c3), (.int .i64 c4), (.int .i64 c5)]], [⟨(.ints .i64 l), none⟩, ⟨(.recs [.int .i64, .int .i64, .int .i64, .int .i64, .int .i64, .int .i64] ml), some 34⟩]⟩
def srun_L2_I (T : Int) (M : Int) (l : List Int) (i : Int) (k : Int) (c0 : Int) (c1 : Int) (c2 : Int) (c3 : Int) (c4 : Int) (c5 : Int) (ml : List (List Int)) : Prop := (0 ≤ k ∧ k ≤ l.length) ∧ (sVd T M c0 c1 c2 c3 c4 c5 = true ∧ (c0 = 0 ∨ (1 ≤ k ∧ c2 = l.getD (k - 1).toNat 0))) ∧ (incr l = true) ∧ ((ml.length : Int) = k) ∧ (ml ++ runS T M [c0, c1, c2, c3, c4, c5] (l.drop k.toNat) = runS T M s0 l)
def srun_L2_m (T : Int) (M : Int) (l : List Int) (i : Int) (k : Int) (c0 : Int) (c1 : Int) (c2 : Int) (c3 : Int) (c4 : Int) (c5 : Int) (ml : List (List Int)) : Nat := (l.length - k).toNat
def srun_L2_N (T : Int) (M : Int) (l : List Int) (i : Int) (k' : Int) (c0' : Int) (c1' : Int) (c2' : Int) (c3' : Int) (c4' : Int) (c5' : Int) (ml' : List (List Int)) (st_ : St) : Prop := getI st_ 42 fun k => getCI st_ 1 0 fun c0 => getCI st_ 1 1 fun c1 => getCI st_ 1 2 fun c2 => getCI st_ 1 3 fun c3 => getCI st_ 1 4 fun c4 => getCI st_ 1 5 fun c5 => getRR st_ 7 fun ml => srun_L2_I T M l i k c0 c1 c2 c3 c4 c5 ml ∧ srun_L2_m T M l i k c0 c1 c2 c3 c4 c5 ml < srun_L2_m T M l i k' c0' c1' c2' c3' c4' c5' ml' ∧ SubA st_ (srun_L2_F T M l i k c0 c1 c2 c3 c4 c5 ml)
def srun_L2_E (T : Int) (M : Int) (l : List Int) (i : Int) (st_ : St) : Prop := getI st_ 42 fun k => getCI st_ 1 0 fun c0 => getCI st_ 1 1 fun c1 => getCI st_ 1 2 fun c2 => getCI st_ 1 3 fun c3 => getCI st_ 1 4 fun c4 => getCI st_ 1 5 fun c5 => getRR st_ 7 fun ml => srun_L2_I T M l i k c0 c1 c2 c3 c4 c5 ml ∧ SubA st_ (srun_L2_F T M l i k c0 c1 c2 c3 c4 c5 ml)
def srun_L2_S1 (T : Int) (M : Int) (l : List Int) (i : Int) : St := ⟨56, [], [(42, (.one (.cel (.int .i64 (0 : Int))))), (41, (.one (.cel (.int .i64 (((List.length l) : Nat) : Int))))), (40, (.one (.cel (.row 0)))), (8, (.one (.cel (.ptr 1 0)))), (39, (.one (.agg [(.int .i64 (0 : Int)), (.int .i64 (0 : Int)), (.int .i64 (0 : Int)), (.int .i64 (0 : Int)), (.int .i64 (0 : Int)), (.int .i64 (0 : Int))]))), (7, (.one (.cel .nilS))), (26, (.one (.cel (.bool (decide (i < (((List.length l) : Nat) : Int))))))), (25, (.one (.cel (.int .i64 (((List.length l) : Nat) : Int))))), (24, (.one (.cel (.row 0)))), (23, (.one (.cel (.int .i64 i)))), (6, (.one (.cel (.int .i64 i)))), (5, (.one (.cel (.int .i64 (0 : Int))))), (4, (.one (.cel .nilS))), (2, (.one (.cel (.ptr 0 0)))), (1, (.one (.cel (.row 0))))], [[(.int .i64 T), (.int .i64 M)], [(.int .i64 (0 : Int)), (.int .i64 (0 : Int)), (.int .i64 (0 : Int)), (.int .i64 (0 : Int)), (.int .i64 (0 : Int)), (.int .i64 (0 : Int))]], [⟨(.ints .i64 l), none⟩]⟩
def srun_L2_T (T : Int) (M : Int) (l : List Int) (i : Int) (k : Int) (c0 : Int) (c1 : Int) (c2 : Int) (c3 : Int) (c4 : Int) (c5 : Int) (ml : List (List Int)) : Prop := (cnd (decide (k < (((List.length l) : Nat) : Int)))
  (cnd (decide ((0 : Int) ≤ k))
    (cnd (decide (k < (((List.length l) : Nat) : Int)))
      (cnd (sVd T M c0 c1 c2 c3 c4 c5)
        (cnd (isT (List.getD l (Int.toNat k) (0 : Int)))
          (cnd ((decide (c0 = (0 : Int))) || (decide (c2 < (List.getD l (Int.toNat k) (0 : Int)))))
            (cnd (decide ((List.length (ml ++ [[(q (stp T M c0 c1 c2 c3 c4 c5 (List.getD l (Int.toNat k) (0 : Int))) 0), (q (stp T M c0 c1 c2 c3 c4 c5 (List.getD l (Int.toNat k) (0 : Int))) 1), (q (stp T M c0 c1 c2 c3 c4 c5 (List.getD l (Int.toNat k) (0 : Int))) 2), (q (stp T M c0 c1 c2 c3 c4 c5 (List.getD l (Int.toNat k) (0 : Int))) 3), (q (stp T M c0 c1 c2 c3 c4 c5 (List.getD l (Int.toNat k) (0 : Int))) 4), (q (stp T M c0 c1 c2 c3 c4 c5 (List.getD l (Int.toNat k) (0 : Int))) 5)]])) ≤ 4294967296))
              ((srun_L2_I T M l i (Go.IntKind.wrap Go.IntKind.i64 (k + (1 : Int))) (q (stp T M c0 c1 c2 c3 c4 c5 (List.getD l (Int.toNat k) (0 : Int))) 0) (q (stp T M c0 c1 c2 c3 c4 c5 (List.getD l (Int.toNat k) (0 : Int))) 1) (q (stp T M c0 c1 c2 c3 c4 c5 (List.getD l (Int.toNat k) (0 : Int))) 2) (q (stp T M c0 c1 c2 c3 c4 c5 (List.getD l (Int.toNat k) (0 : Int))) 3) (q (stp T M c0 c1 c2 c3 c4 c5 (List.getD l (Int.toNat k) (0 : Int))) 4) (q (stp T M c0 c1 c2 c3 c4 c5 (List.getD l (Int.toNat k) (0 : Int))) 5) (ml ++ [[(q (stp T M c0 c1 c2 c3 c4 c5 (List.getD l (Int.toNat k) (0 : Int))) 0), (q (stp T M c0 c1 c2 c3 c4 c5 (List.getD l (Int.toNat k) (0 : Int))) 1), (q (stp T M c0 c1 c2 c3 c4 c5 (List.getD l (Int.toNat k) (0 : Int))) 2), (q (stp T M c0 c1 c2 c3 c4 c5 (List.getD l (Int.toNat k) (0 : Int))) 3), (q (stp T M c0 c1 c2 c3 c4 c5 (List.getD l (Int.toNat k) (0 : Int))) 4), (q (stp T M c0 c1 c2 c3 c4 c5 (List.getD l (Int.toNat k) (0 : Int))) 5)]])) ∧ (((srun_L2_m T M l i (Go.IntKind.wrap Go.IntKind.i64 (k + (1 : Int))) (q (stp T M c0 c1 c2 c3 c4 c5 (List.getD l (Int.toNat k) (0 : Int))) 0) (q (stp T M c0 c1 c2 c3 c4 c5 (List.getD l (Int.toNat k) (0 : Int))) 1) (q (stp T M c0 c1 c2 c3 c4 c5 (List.getD l (Int.toNat k) (0 : Int))) 2) (q (stp T M c0 c1 c2 c3 c4 c5 (List.getD l (Int.toNat k) (0 : Int))) 3) (q (stp T M c0 c1 c2 c3 c4 c5 (List.getD l (Int.toNat k) (0 : Int))) 4) (q (stp T M c0 c1 c2 c3 c4 c5 (List.getD l (Int.toNat k) (0 : Int))) 5) (ml ++ [[(q (stp T M c0 c1 c2 c3 c4 c5 (List.getD l (Int.toNat k) (0 : Int))) 0), (q (stp T M c0 c1 c2 c3 c4 c5 (List.getD l (Int.toNat k) (0 : Int))) 1), (q (stp T M c0 c1 c2 c3 c4 c5 (List.getD l (Int.toNat k) (0 : Int))) 2), (q (stp T M c0 c1 c2 c3 c4 c5 (List.getD l (Int.toNat k) (0 : Int))) 3), (q (stp T M c0 c1 c2 c3 c4 c5 (List.getD l (Int.toNat k) (0 : Int))) 4), (q (stp T M c0 c1 c2 c3 c4 c5 (List.getD l (Int.toNat k) (0 : Int))) 5)]])) < (srun_L2_m T M l i k c0 c1 c2 c3 c4 c5 ml)) ∧ (((Go.IntKind.wrap Go.IntKind.i64 (k + (1 : Int))) = (Go.IntKind.wrap Go.IntKind.i64 (k + (1 : Int)))) ∧ (((((List.length l) : Nat) : Int) = (((List.length l) : Nat) : Int)) ∧ (True ∧ (True ∧ (True ∧ (((0 : Int) = (0 : Int)) ∧ (True ∧ (True ∧ (((T = T) ∧ (M = M)) ∧ ((((q (stp T M c0 c1 c2 c3 c4 c5 (List.getD l (Int.toNat k) (0 : Int))) 0) = (q (stp T M c0 c1 c2 c3 c4 c5 (List.getD l (Int.toNat k) (0 : Int))) 0)) ∧ (((q (stp T M c0 c1 c2 c3 c4 c5 (List.getD l (Int.toNat k) (0 : Int))) 1) = (q (stp T M c0 c1 c2 c3 c4 c5 (List.getD l (Int.toNat k) (0 : Int))) 1)) ∧ (((q (stp T M c0 c1 c2 c3 c4 c5 (List.getD l (Int.toNat k) (0 : Int))) 2) = (q (stp T M c0 c1 c2 c3 c4 c5 (List.getD l (Int.toNat k) (0 : Int))) 2)) ∧ (((q (stp T M c0 c1 c2 c3 c4 c5 (List.getD l (Int.toNat k) (0 : Int))) 3) = (q (stp T M c0 c1 c2 c3 c4 c5 (List.getD l (Int.toNat k) (0 : Int))) 3)) ∧ (((q (stp T M c0 c1 c2 c3 c4 c5 (List.getD l (Int.toNat k) (0 : Int))) 4) = (q (stp T M c0 c1 c2 c3 c4 c5 (List.getD l (Int.toNat k) (0 : Int))) 4)) ∧ ((q (stp T M c0 c1 c2 c3 c4 c5 (List.getD l (Int.toNat k) (0 : Int))) 5) = (q (stp T M c0 c1 c2 c3 c4 c5 (List.getD l (Int.toNat k) (0 : Int))) 5))))))) ∧ ((l = l) ∧ (((ml ++ [[(q (stp T M c0 c1 c2 c3 c4 c5 (List.getD l (Int.toNat k) (0 : Int))) 0), (q (stp T M c0 c1 c2 c3 c4 c5 (List.getD l (Int.toNat k) (0 : Int))) 1), (q (stp T M c0 c1 c2 c3 c4 c5 (List.getD l (Int.toNat k) (0 : Int))) 2), (q (stp T M c0 c1 c2 c3 c4 c5 (List.getD l (Int.toNat k) (0 : Int))) 3), (q (stp T M c0 c1 c2 c3 c4 c5 (List.getD l (Int.toNat k) (0 : Int))) 4), (q (stp T M c0 c1 c2 c3 c4 c5 (List.getD l (Int.toNat k) (0 : Int))) 5)]]) = (ml ++ [[(q (stp T M c0 c1 c2 c3 c4 c5 (List.getD l (Int.toNat k) (0 : Int))) 0), (q (stp T M c0 c1 c2 c3 c4 c5 (List.getD l (Int.toNat k) (0 : Int))) 1), (q (stp T M c0 c1 c2 c3 c4 c5 (List.getD l (Int.toNat k) (0 : Int))) 2), (q (stp T M c0 c1 c2 c3 c4 c5 (List.getD l (Int.toNat k) (0 : Int))) 3), (q (stp T M c0 c1 c2 c3 c4 c5 (List.getD l (Int.toNat k) (0 : Int))) 4), (q (stp T M c0 c1 c2 c3 c4 c5 (List.getD l (Int.toNat k) (0 : Int))) 5)]])) ∧ True))))))))))))))
              False)
            False)
          False)
        False)
      False)
    False)
  ((True ∧ ((0 : Int) = (if (((wValid T M) && (edgesB l)) = Bool.true) then (0 : Int) else (1 : Int)))) ∧ ((ml = (if (((wValid T M) && (edgesB l)) = Bool.true) then (runS T M s0 l) else ([] : List (List Int)))) ∧ True)))
set_option maxRecDepth 100000 in
theorem srun_L2_tree (T : Int) (M : Int) (l : List Int) (i : Int) (k : Int) (c0 : Int) (c1 : Int) (c2 : Int) (c3 : Int) (c4 : Int) (c5 : Int) (ml : List (List Int)) : srun_L2_T T M l i k c0 c1 c2 c3 c4 c5 ml = ex Try.prog (conOf [wvalid_e, cfn_e, snew_e, sstep_e]) (subC (bodyOf Try.f12) [1, 1, 1, 1, 1, 0, 1, 0, 0]) (nextE (srun_L2_N T M l i k c0 c1 c2 c3 c4 c5 ml) (kont Try.prog (conOf [wvalid_e, cfn_e, snew_e, sstep_e]) (bodyOf Try.f12) [1, 1, 1, 1, 1, 0, 1, 0] (retPost Try.prog Try.f12 1 (srun_res T M l)))) (srun_L2_F T M l i k c0 c1 c2 c3 c4 c5 ml) := by kernel_rfl
set_option maxRecDepth 100000 in
theorem srun_L2_round (T : Int) (M : Int) (l : List Int) (i : Int) (k : Int) (c0 : Int) (c1 : Int) (c2 : Int) (c3 : Int) (c4 : Int) (c5 : Int) (ml : List (List Int)) (hI_L1 : srun_L1_I T M l i) (hI_L2 : srun_L2_I T M l i k c0 c1 c2 c3 c4 c5 ml) : srun_L2_T T M l i k c0 c1 c2 c3 c4 c5 ml := by
  obtain ⟨⟨a1, a2, a3⟩, ⟨hw, ha⟩, a5⟩ := hI_L1
  obtain ⟨⟨k0, k1⟩, ⟨hv, hc⟩, hinc, hm, hr⟩ := hI_L2
  have hee : edgesB l = true := by unfold edgesB; rw [decide_eq_true a3, ha, hinc]; rfl
  unfold srun_L2_T
  rw [hw, hee]
  by_cases hk : k < l.length
  · have hd := drop_consI (l := l) (i := k) k0 hk
    have ht : isT (l.getD k.toNat 0) = true := by
      rw [List.all_eq_true] at ha
      refine ha _ ?_
      rw [List.getD_eq_getElem?_getD, List.getElem?_eq_getElem (by omega)]
      exact List.getElem_mem (by omega)
    have hcc : c0 = 0 ∨ c2 < l.getD k.toNat 0 := by
      rcases hc with hc | ⟨hk1, hc⟩
      · exact .inl hc
      · have := incr_get (l := l) (j := (k - 1).toNat) hinc (by omega)
        rw [show (k - 1).toNat + 1 = k.toNat by omega] at this
        exact .inr (by omega)
    have jc : (decide (c0 = 0) || decide (c2 < l.getD k.toNat 0)) = true := by
      simp only [Bool.or_eq_true, decide_eq_true_eq]; exact hcc
    obtain ⟨g1, g2⟩ := stp_ok hv ht hcc
    have hL := stp_len T M c0 c1 c2 c3 c4 c5 (l.getD k.toNat 0)
    rw [hL]
    have hlen : ∀ r : List Int, (ml ++ [r]).length = ml.length + 1 := fun r => by rw [List.length_append]; rfl
    have jl : ∀ r : List Int, decide ((ml ++ [r]).length ≤ 4294967296) = true := fun r => by rw [decide_eq_true_eq, hlen]; omega
    have e1 : (k + 1).toNat = k.toNat + 1 := by omega
    rw [hv, ht, jc, jl, decide_eq_true hk, decide_eq_true k0, w64 (n := k + 1) (by omega) (by omega)]
    refine ⟨⟨⟨by omega, by omega⟩, ⟨g1, ?_⟩, hinc, by rw [hlen]; omega, ?_⟩, ?_, by simp⟩
    · rcases g2 with g2 | g2
      · exact .inl g2
      · exact .inr ⟨by omega, by rw [g2, show k + 1 - 1 = k by omega]⟩
    · rw [hL, e1, ← hr, hd, runS, List.append_assoc]
      rfl
    · unfold srun_L2_m
      omega
  · rw [decide_eq_false hk]
    rw [List.drop_eq_nil_of_le (show l.length ≤ k.toNat by omega)] at hr
    simp only [runS, List.append_nil] at hr
    simp [cnd, hr]
set_option maxRecDepth 100000 in
theorem srun_L2_entry1 (T : Int) (M : Int) (l : List Int) (i : Int) : (((srun_L2_I T M l i (0 : Int) (0 : Int) (0 : Int) (0 : Int) (0 : Int) (0 : Int) (0 : Int) ([] : List (List Int))) ∧ (((0 : Int) = (0 : Int)) ∧ (((((List.length l) : Nat) : Int) = (((List.length l) : Nat) : Int)) ∧ (True ∧ (True ∧ (True ∧ (((0 : Int) = (0 : Int)) ∧ (True ∧ (True ∧ (((T = T) ∧ (M = M)) ∧ ((((0 : Int) = (0 : Int)) ∧ (((0 : Int) = (0 : Int)) ∧ (((0 : Int) = (0 : Int)) ∧ (((0 : Int) = (0 : Int)) ∧ (((0 : Int) = (0 : Int)) ∧ ((0 : Int) = (0 : Int))))))) ∧ ((l = l) ∧ ((([] : List (List Int)) = ([] : List (List Int))) ∧ True)))))))))))))) = srun_L2_E T M l i (srun_L2_S1 T M l i) := by kernel_rfl
theorem srun_L2_1 (T : Int) (M : Int) (l : List Int) (i : Int) (hI_L1 : srun_L1_I T M l i) (h : ((srun_L2_I T M l i (0 : Int) (0 : Int) (0 : Int) (0 : Int) (0 : Int) (0 : Int) (0 : Int) ([] : List (List Int))) ∧ (((0 : Int) = (0 : Int)) ∧ (((((List.length l) : Nat) : Int) = (((List.length l) : Nat) : Int)) ∧ (True ∧ (True ∧ (True ∧ (((0 : Int) = (0 : Int)) ∧ (True ∧ (True ∧ (((T = T) ∧ (M = M)) ∧ ((((0 : Int) = (0 : Int)) ∧ (((0 : Int) = (0 : Int)) ∧ (((0 : Int) = (0 : Int)) ∧ (((0 : Int) = (0 : Int)) ∧ (((0 : Int) = (0 : Int)) ∧ ((0 : Int) = (0 : Int))))))) ∧ ((l = l) ∧ ((([] : List (List Int)) = ([] : List (List Int))) ∧ True)))))))))))))) : LoopP (ex Try.prog (conOf [wvalid_e, cfn_e, snew_e, sstep_e]) (subC (bodyOf Try.f12) [1, 1, 1, 1, 1, 0, 1, 0, 0])) (kont Try.prog (conOf [wvalid_e, cfn_e, snew_e, sstep_e]) (bodyOf Try.f12) [1, 1, 1, 1, 1, 0, 1, 0] (retPost Try.prog Try.f12 1 (srun_res T M l))) (srun_L2_S1 T M l i) := by
  have hE : srun_L2_E T M l i (srun_L2_S1 T M l i) := Eq.mp (srun_L2_entry1 T M l i) h
  unfold srun_L2_E at hE
  obtain ⟨k, hE⟩ := getI_of hE
  obtain ⟨c0, hE⟩ := getCI_of hE
  obtain ⟨c1, hE⟩ := getCI_of hE
  obtain ⟨c2, hE⟩ := getCI_of hE
  obtain ⟨c3, hE⟩ := getCI_of hE
  obtain ⟨c4, hE⟩ := getCI_of hE
  obtain ⟨c5, hE⟩ := getCI_of hE
  obtain ⟨ml, hE⟩ := getRR_of hE
  refine loop_of (α := (Int) × (Int) × (Int) × (Int) × (Int) × (Int) × (Int) × (List (List Int))) (fun xx_ => srun_L2_F T M l i xx_.1 xx_.2.1 xx_.2.2.1 xx_.2.2.2.1 xx_.2.2.2.2.1 xx_.2.2.2.2.2.1 xx_.2.2.2.2.2.2.1 xx_.2.2.2.2.2.2.2) (fun xx_ => srun_L2_I T M l i xx_.1 xx_.2.1 xx_.2.2.1 xx_.2.2.2.1 xx_.2.2.2.2.1 xx_.2.2.2.2.2.1 xx_.2.2.2.2.2.2.1 xx_.2.2.2.2.2.2.2) (fun xx_ => srun_L2_m T M l i xx_.1 xx_.2.1 xx_.2.2.1 xx_.2.2.2.1 xx_.2.2.2.2.1 xx_.2.2.2.2.2.1 xx_.2.2.2.2.2.2.1 xx_.2.2.2.2.2.2.2) (fun xx_ => srun_L2_N T M l i xx_.1 xx_.2.1 xx_.2.2.1 xx_.2.2.2.1 xx_.2.2.2.2.1 xx_.2.2.2.2.2.1 xx_.2.2.2.2.2.2.1 xx_.2.2.2.2.2.2.2) (fun xx_ => srun_L2_T T M l i xx_.1 xx_.2.1 xx_.2.2.1 xx_.2.2.2.1 xx_.2.2.2.2.1 xx_.2.2.2.2.2.1 xx_.2.2.2.2.2.2.1 xx_.2.2.2.2.2.2.2) (fun xx_ s_ h => ?_) ⟨⟨k, c0, c1, c2, c3, c4, c5, ml⟩, hE⟩ (fun xx_ => srun_L2_tree T M l i xx_.1 xx_.2.1 xx_.2.2.1 xx_.2.2.2.1 xx_.2.2.2.2.1 xx_.2.2.2.2.2.1 xx_.2.2.2.2.2.2.1 xx_.2.2.2.2.2.2.2) (fun xx_ hI => srun_L2_round T M l i xx_.1 xx_.2.1 xx_.2.2.1 xx_.2.2.2.1 xx_.2.2.2.2.1 xx_.2.2.2.2.2.1 xx_.2.2.2.2.2.2.1 xx_.2.2.2.2.2.2.2 hI_L1 hI)
  unfold srun_L2_N at h
  obtain ⟨k, h⟩ := getI_of h
  obtain ⟨c0, h⟩ := getCI_of h
  obtain ⟨c1, h⟩ := getCI_of h
  obtain ⟨c2, h⟩ := getCI_of h
  obtain ⟨c3, h⟩ := getCI_of h
  obtain ⟨c4, h⟩ := getCI_of h
  obtain ⟨c5, h⟩ := getCI_of h
  obtain ⟨ml, h⟩ := getRR_of h
  exact ⟨⟨k, c0, c1, c2, c3, c4, c5, ml⟩, h⟩
def srun_L1_T (T : Int) (M : Int) (l : List Int) (i : Int) : Prop := (cnd (decide (i < (((List.length l) : Nat) : Int)))
  (cnd (decide ((0 : Int) ≤ i))
    (cnd (decide (i < (((List.length l) : Nat) : Int)))
      (cnd (decide ((0 : Int) ≤ (Go.IntKind.wrap Go.IntKind.i64 (i - (1 : Int)))))
        (cnd (decide ((Go.IntKind.wrap Go.IntKind.i64 (i - (1 : Int))) < (((List.length l) : Nat) : Int)))
          (cnd (decide ((List.getD l (Int.toNat i) (0 : Int)) ≤ (List.getD l (Int.toNat (Go.IntKind.wrap Go.IntKind.i64 (i - (1 : Int)))) (0 : Int))))
            ((True ∧ ((1 : Int) = (if (((wValid T M) && (edgesB l)) = Bool.true) then (0 : Int) else (1 : Int)))) ∧ (((if (((wValid T M) && (edgesB l)) = Bool.true) then (runS T M s0 l) else ([] : List (List Int))) = ([] : List (List Int))) ∧ True))
            ((srun_L1_I T M l (Go.IntKind.wrap Go.IntKind.i64 (i + (1 : Int)))) ∧ (((srun_L1_m T M l (Go.IntKind.wrap Go.IntKind.i64 (i + (1 : Int)))) < (srun_L1_m T M l i)) ∧ (((Go.IntKind.wrap Go.IntKind.i64 (i + (1 : Int))) = (Go.IntKind.wrap Go.IntKind.i64 (i + (1 : Int)))) ∧ (((0 : Int) = (0 : Int)) ∧ (True ∧ (True ∧ (True ∧ (((T = T) ∧ (M = M)) ∧ ((l = l) ∧ True))))))))))
          False)
        False)
      False)
    False)
  (LoopP (ex Try.prog (conOf [wvalid_e, cfn_e, snew_e, sstep_e]) (subC (bodyOf Try.f12) [1, 1, 1, 1, 1, 0, 1, 0, 0])) (kont Try.prog (conOf [wvalid_e, cfn_e, snew_e, sstep_e]) (bodyOf Try.f12) [1, 1, 1, 1, 1, 0, 1, 0] (retPost Try.prog Try.f12 1 (srun_res T M l))) (srun_L2_S1 T M l i)))
set_option maxRecDepth 100000 in
theorem srun_L1_tree (T : Int) (M : Int) (l : List Int) (i : Int) : srun_L1_T T M l i = ex Try.prog (conOf [wvalid_e, cfn_e, snew_e, sstep_e]) (subC (bodyOf Try.f12) [1, 1, 0, 1, 0, 0]) (nextE (srun_L1_N T M l i) (kont Try.prog (conOf [wvalid_e, cfn_e, snew_e, sstep_e]) (bodyOf Try.f12) [1, 1, 0, 1, 0] (retPost Try.prog Try.f12 1 (srun_res T M l)))) (srun_L1_F T M l i) := by kernel_rfl
set_option maxRecDepth 100000 in
theorem srun_L1_round (T : Int) (M : Int) (l : List Int) (i : Int)  (hI_L1 : srun_L1_I T M l i) : srun_L1_T T M l i := by
  have hI := hI_L1
  obtain ⟨⟨a1, a2, a3⟩, ⟨hw, ha⟩, a5⟩ := hI_L1
  unfold srun_L1_T
  have h3 : decide ((l.length : Int) ≤ 1000) = true := decide_eq_true a3
  have hee : edgesB l = incr l := by unfold edgesB; rw [h3, ha]; rfl
  by_cases hi : i < l.length
  · have hd := drop_consI (l := l) (i := i) (by omega) hi
    have hd2 := drop_consI (l := l) (i := i - 1) (by omega) (by omega)
    rw [show (i - 1).toNat + 1 = i.toNat by omega, hd] at hd2
    rw [hd2, incr] at a5
    have j1 : decide (0 ≤ i - 1) = true := by rw [decide_eq_true_eq]; omega
    have j2 : decide (0 ≤ i) = true := by rw [decide_eq_true_eq]; omega
    have jm : decide (i - 1 < (l.length : Int)) = true := by rw [decide_eq_true_eq]; omega
    rw [w64 (n := i + 1) (by omega) (by omega), w64 (n := i - 1) (by omega) (by omega), decide_eq_true hi, j1, j2, jm]
    by_cases hc : l.getD i.toNat 0 ≤ l.getD (i - 1).toNat 0
    · have : edgesB l = false := by rw [hee, a5, decide_eq_false (by omega), Bool.false_and]
      rw [decide_eq_true hc, this]
      simp [cnd]
    · rw [decide_eq_true (by omega), Bool.true_and] at a5
      rw [decide_eq_false hc]
      refine ⟨⟨⟨by omega, by omega, a3⟩, ⟨hw, ha⟩, ?_⟩, ?_, by simp⟩
      · rw [show (i + 1 - 1).toNat = i.toNat by omega, hd]; exact a5
      · unfold srun_L1_m
        omega
  · rw [decide_eq_false hi]
    have hI2 : incr l = true := by
      rw [a5]
      by_cases h0 : i ≤ l.length
      · have hd2 := drop_consI (l := l) (i := i - 1) (by omega) (by omega)
        rw [show (i - 1).toNat + 1 = i.toNat by omega, List.drop_eq_nil_of_le (show l.length ≤ i.toNat by omega)] at hd2
        rw [hd2]; rfl
      · have : l = [] := List.eq_nil_of_length_eq_zero (by omega)
        rw [this]; simp [incr]
    exact srun_L2_1 T M l i hI ⟨⟨⟨by omega, by omega⟩, ⟨by unfold sVd; rw [hw]; rfl, .inl rfl⟩, hI2, by simp, by simp [s0]⟩, by simp⟩
set_option maxRecDepth 100000 in
theorem srun_L1_entry1 (T : Int) (M : Int) (l : List Int) : (((srun_L1_I T M l (1 : Int)) ∧ (((1 : Int) = (1 : Int)) ∧ (((0 : Int) = (0 : Int)) ∧ (True ∧ (True ∧ (True ∧ (((T = T) ∧ (M = M)) ∧ ((l = l) ∧ True))))))))) = srun_L1_E T M l (srun_L1_S1 T M l) := by kernel_rfl
theorem srun_L1_1 (T : Int) (M : Int) (l : List Int)  (h : ((srun_L1_I T M l (1 : Int)) ∧ (((1 : Int) = (1 : Int)) ∧ (((0 : Int) = (0 : Int)) ∧ (True ∧ (True ∧ (True ∧ (((T = T) ∧ (M = M)) ∧ ((l = l) ∧ True))))))))) : LoopP (ex Try.prog (conOf [wvalid_e, cfn_e, snew_e, sstep_e]) (subC (bodyOf Try.f12) [1, 1, 0, 1, 0, 0])) (kont Try.prog (conOf [wvalid_e, cfn_e, snew_e, sstep_e]) (bodyOf Try.f12) [1, 1, 0, 1, 0] (retPost Try.prog Try.f12 1 (srun_res T M l))) (srun_L1_S1 T M l) := by
  have hE : srun_L1_E T M l (srun_L1_S1 T M l) := Eq.mp (srun_L1_entry1 T M l) h
  unfold srun_L1_E at hE
  obtain ⟨i, hE⟩ := getI_of hE
  refine loop_of (α := (Int)) (fun xx_ => srun_L1_F T M l xx_) (fun xx_ => srun_L1_I T M l xx_) (fun xx_ => srun_L1_m T M l xx_) (fun xx_ => srun_L1_N T M l xx_) (fun xx_ => srun_L1_T T M l xx_) (fun xx_ s_ h => ?_) ⟨i, hE⟩ (fun xx_ => srun_L1_tree T M l xx_) (fun xx_ hI => srun_L1_round T M l xx_  hI)
  unfold srun_L1_N at h
  obtain ⟨i, h⟩ := getI_of h
  exact ⟨i, h⟩
set_option maxRecDepth 100000 in
theorem srun_tree (T : Int) (M : Int) (l : List Int) : ((cnd ((!(((!(wValid T M)) || (decide ((1000 : Int) < (((List.length l) : Nat) : Int)))) == Bool.false)) || (decide ((List.length l) ≤ 1000)))
  (cnd (((!(wValid T M)) || (decide ((1000 : Int) < (((List.length l) : Nat) : Int)))) || (!(List.all l isT)))
    ((True ∧ ((1 : Int) = (if (((wValid T M) && (edgesB l)) = Bool.true) then (0 : Int) else (1 : Int)))) ∧ (((if (((wValid T M) && (edgesB l)) = Bool.true) then (runS T M s0 l) else ([] : List (List Int))) = ([] : List (List Int))) ∧ True))
    (LoopP (ex Try.prog (conOf [wvalid_e, cfn_e, snew_e, sstep_e]) (subC (bodyOf Try.f12) [1, 1, 0, 1, 0, 0])) (kont Try.prog (conOf [wvalid_e, cfn_e, snew_e, sstep_e]) (bodyOf Try.f12) [1, 1, 0, 1, 0] (retPost Try.prog Try.f12 1 (srun_res T M l))) (srun_L1_S1 T M l)))
  False)) = EXD Try.prog (conOf [wvalid_e, cfn_e, snew_e, sstep_e]) Try.f12 [.agg [.int .i64 T, .int .i64 M], .cel (.row 0)] [.ints .i64 l] (srun_res T M l) := by kernel_rfl
theorem srun_holds (T : Int) (M : Int) (l : List Int)  : (cnd ((!(((!(wValid T M)) || (decide ((1000 : Int) < (((List.length l) : Nat) : Int)))) == Bool.false)) || (decide ((List.length l) ≤ 1000)))
  (cnd (((!(wValid T M)) || (decide ((1000 : Int) < (((List.length l) : Nat) : Int)))) || (!(List.all l isT)))
    ((True ∧ ((1 : Int) = (if (((wValid T M) && (edgesB l)) = Bool.true) then (0 : Int) else (1 : Int)))) ∧ (((if (((wValid T M) && (edgesB l)) = Bool.true) then (runS T M s0 l) else ([] : List (List Int))) = ([] : List (List Int))) ∧ True))
    (LoopP (ex Try.prog (conOf [wvalid_e, cfn_e, snew_e, sstep_e]) (subC (bodyOf Try.f12) [1, 1, 0, 1, 0, 0])) (kont Try.prog (conOf [wvalid_e, cfn_e, snew_e, sstep_e]) (bodyOf Try.f12) [1, 1, 0, 1, 0] (retPost Try.prog Try.f12 1 (srun_res T M l))) (srun_L1_S1 T M l)))
  False) := by
  cases hw : wValid T M with
  | false => simp [cnd]
  | true =>
    by_cases hl : (1000 : Int) < l.length
    · have he : edgesB l = false := by unfold edgesB; rw [decide_eq_false (by omega)]; rfl
      simp [hl, he, cnd]
    · have j1 : decide ((1000 : Int) < l.length) = false := decide_eq_false hl
      have j2 : decide (l.length ≤ 1000) = true := by rw [decide_eq_true_eq]; omega
      rw [j1, j2]
      cases ha : l.all isT with
      | false =>
        have he : edgesB l = false := by unfold edgesB; rw [ha, Bool.and_false]; rfl
        rw [he]
        simp [cnd]
      | true =>
        exact srun_L1_1 T M l ⟨⟨⟨by omega, by omega, by omega⟩, ⟨hw, ha⟩, by simp⟩, by simp⟩
set_option maxHeartbeats 2000000 in
theorem srun_ok : SoundEnt Try.prog srun_e := by
  refine ent_of_ex (Γ := (conOf [wvalid_e, cfn_e, snew_e, sstep_e])) (conOf_sound (scons wvalid_ok (scons cfn_ok (scons snew_ok (scons sstep_ok snil))))) (by kernel_rfl) Try.func12 (by kernel_rfl) (by kernel_rfl) (fun args rows res h ho => ?_)
  change srun_go args rows = some res at h
  unfold srun_go at h
  split at h
  · simp only [Option.some.injEq] at h
    subst h
    rename_i q0_ q1_ q2_
    skip
    exact EX.of (srun_tree q0_ q1_ q2_) (srun_holds q0_ q1_ q2_)
  · cases h
end Go.Proofs.Ytcaadikffaflnaa

