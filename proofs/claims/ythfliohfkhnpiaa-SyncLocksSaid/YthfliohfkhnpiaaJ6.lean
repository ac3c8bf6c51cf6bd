/- Lists of edges: valid ones, periods. -/
import Derived.Test.YthfliohfkhnpiaaJ5
namespace Go.Proofs.Ythfliohfkhnpiaa
set_option linter.unusedVariables false
set_option linter.unusedSimpArgs false
open Go.RowKit

def incr : List Int → Bool
  | a :: b :: l => decide (a < b) && incr (b :: l)
  | _ => true
theorem incr_get : ∀ {l : List Int} {j : Nat}, incr l = true → j + 1 < l.length → l.getD j 0 < l.getD (j + 1) 0
  | [], _, _, h => by simp at h
  | [_], _, _, h => by simp at h
  | a :: b :: l, 0, h, _ => by
    simp only [incr, Bool.and_eq_true, decide_eq_true_eq] at h
    exact h.1
  | a :: b :: l, j + 1, h, hj => by
    simp only [incr, Bool.and_eq_true, decide_eq_true_eq] at h
    have := incr_get (l := b :: l) (j := j) h.2 (by simpa using hj)
    simpa using this
def vE (l : List Int) : Bool := decide ((l.length : Int) ≤ 1000) && l.all isT && incr l
theorem vE_iff {l : List Int} : vE l = true ↔ (l.length : Int) ≤ 1000 ∧ l.all isT = true ∧ incr l = true := by simp [vE, and_assoc]
def dif : List Int → List Int
  | a :: b :: l => (b - a) :: dif (b :: l)
  | _ => []
theorem dif_len : ∀ l : List Int, (dif l).length = l.length - 1
  | [] => rfl
  | [_] => rfl
  | a :: b :: l => by rw [dif, List.length_cons, dif_len (b :: l)]; simp
theorem all_get {p : Int → Bool} {l : List Int} (h : l.all p = true) {j : Nat} (hj : j < l.length) : p (l.getD j 0) = true := by
  rw [List.all_eq_true] at h
  refine h _ ?_
  rw [List.getD_eq_getElem?_getD, List.getElem?_eq_getElem hj]
  exact List.getElem_mem hj
def sValid_res (l : List Int) : CRes := ⟨[], .one (.cel (.bool (vE l))), []⟩
def sValid_go : List TV → List RowA → List (List CV) → Option CRes := fun args rows caps =>
  match args, rows, caps with
  | [.cel (.row 0)], [.ints .i64 l], [] => some (sValid_res l)
  | _, _, _ => none
def sValid_e : Ent := ⟨26, [.ints .i64 []], sValid_go⟩
def sValid_L1_F (l : List Int) (i : Int) : St := ⟨32, [], [(10, (.one (.cel (.int .i64 i)))), (9, (.one (.cel (.int .i64 (((List.length l) : Nat) : Int))))), (8, (.one (.cel (.row 0)))), (2, (.one (.cel (.bool Bool.false)))), (0, (.one (.cel (.row 0))))], [], [⟨(.ints .i64 l), none⟩], 0⟩
def sValid_L1_I (l : List Int) (i : Int) : Prop := (0 ≤ i ∧ i ≤ l.length ∧ (l.length : Int) ≤ 1000) ∧ (l.all isT = (l.drop i.toNat).all isT) ∧ (incr l = incr (l.drop (i - 1).toNat))
def sValid_L1_m (l : List Int) (i : Int) : Nat := (l.length - i).toNat
def sValid_L1_N (l : List Int) (i' : Int) (st_ : St) : Prop := getI st_ 10 fun i => sValid_L1_I l i ∧ sValid_L1_m l i < sValid_L1_m l i' ∧ SubA st_ (sValid_L1_F l i)
def sValid_L1_E (l : List Int) (st_ : St) : Prop := getI st_ 10 fun i => sValid_L1_I l i ∧ SubA st_ (sValid_L1_F l i)
def sValid_L1_S1 (l : List Int) : St := ⟨32, [], [(10, (.one (.cel (.int .i64 (0 : Int))))), (9, (.one (.cel (.int .i64 (((List.length l) : Nat) : Int))))), (8, (.one (.cel (.row 0)))), (7, (.one (.cel (.bool (decide ((1000 : Int) < (((List.length l) : Nat) : Int))))))), (6, (.one (.cel (.int .i64 (((List.length l) : Nat) : Int))))), (5, (.one (.cel (.row 0)))), (2, (.one (.cel (.bool Bool.false)))), (0, (.one (.cel (.row 0))))], [], [⟨(.ints .i64 l), none⟩], 0⟩
def sValid_L1_T (l : List Int) (i : Int) : Prop := (cnd (decide (i < (((List.length l) : Nat) : Int)))
  (cnd (decide ((0 : Int) ≤ i))
    (cnd (decide (i < (((List.length l) : Nat) : Int)))
      (cnd ((!(((!(isT (List.getD l (Int.toNat i) (0 : Int)))) == Bool.false) && ((decide ((0 : Int) < i)) == Bool.true))) || (decide ((0 : Int) ≤ (Go.IntKind.wrap Go.IntKind.i64 (i - (1 : Int))))))
        (cnd ((!(((!(isT (List.getD l (Int.toNat i) (0 : Int)))) == Bool.false) && ((decide ((0 : Int) < i)) == Bool.true))) || (decide ((Go.IntKind.wrap Go.IntKind.i64 (i - (1 : Int))) < (((List.length l) : Nat) : Int))))
          (cnd ((!(isT (List.getD l (Int.toNat i) (0 : Int)))) || ((decide ((0 : Int) < i)) && (decide ((List.getD l (Int.toNat i) (0 : Int)) ≤ (List.getD l (Int.toNat (Go.IntKind.wrap Go.IntKind.i64 (i - (1 : Int)))) (0 : Int))))))
            (Bool.false = (vE l))
            ((sValid_L1_I l (Go.IntKind.wrap Go.IntKind.i64 (i + (1 : Int)))) ∧ (((sValid_L1_m l (Go.IntKind.wrap Go.IntKind.i64 (i + (1 : Int)))) < (sValid_L1_m l i)) ∧ (((Go.IntKind.wrap Go.IntKind.i64 (i + (1 : Int))) = (Go.IntKind.wrap Go.IntKind.i64 (i + (1 : Int)))) ∧ (((((List.length l) : Nat) : Int) = (((List.length l) : Nat) : Int)) ∧ (True ∧ ((Bool.false = Bool.false) ∧ (True ∧ ((l = l) ∧ True)))))))))
          False)
        False)
      False)
    False)
  (Bool.true = (vE l)))
set_option maxRecDepth 100000 in
theorem sValid_L1_tree (l : List Int) (i : Int) : sValid_L1_T l i = ex Try.prog (conOf [stime_e]) (subC (bodyOf Try.f26) [1, 1, 0, 1, 0, 0]) (nextE (sValid_L1_N l i) (kont Try.prog (conOf [stime_e]) (bodyOf Try.f26) [1, 1, 0, 1, 0] (retPost Try.prog Try.f26 1 (sValid_res l)))) (sValid_L1_F l i) := by kernel_rfl
set_option maxRecDepth 100000 in
theorem sValid_L1_round (l : List Int) (i : Int)  (hI_L1 : sValid_L1_I l i) : sValid_L1_T l i := by
  obtain ⟨⟨a1, a2, a3⟩, a4, a5⟩ := hI_L1
  unfold sValid_L1_T
  by_cases hi : i < l.length
  · have hd := drop_consG (d := 0) (l := l) (i := i) a1 hi
    rw [w64 (n := i + 1) (by omega) (by omega), w64 (n := i - 1) (by omega) (by omega), decide_eq_true hi, decide_eq_true a1]
    have e1 : (i + 1).toNat = i.toNat + 1 := by omega
    rw [hd] at a4
    have jm : decide (i - 1 < (l.length : Int)) = true := by rw [decide_eq_true_eq]; omega
    rw [jm]
    cases hx : isT (l.getD i.toNat 0) with
    | false =>
      have : l.all isT = false := by rw [a4, List.all_cons, hx, Bool.false_and]
      simp [vE, this, cnd]
    | true =>
      have b4 : l.all isT = (l.drop (i.toNat + 1)).all isT := by rw [a4, List.all_cons, hx, Bool.true_and]
      by_cases h0 : 0 < i
      · have hd2 := drop_consG (d := 0) (l := l) (i := i - 1) (by omega) (by omega)
        have e2 : (i - 1).toNat + 1 = i.toNat := by omega
        rw [e2, hd] at hd2
        rw [hd2, incr] at a5
        have j1 : decide (0 ≤ i - 1) = true := by rw [decide_eq_true_eq]; omega
        rw [decide_eq_true h0, j1]
        by_cases hc : l.getD i.toNat 0 ≤ l.getD (i - 1).toNat 0
        · have : incr l = false := by rw [a5, decide_eq_false (by omega), Bool.false_and]
          rw [decide_eq_true hc]
          simp [vE, this, cnd]
        · rw [decide_eq_true (by omega), Bool.true_and] at a5
          rw [decide_eq_false hc]
          refine ⟨⟨⟨by omega, by omega, a3⟩, by rw [e1]; exact b4, ?_⟩, ?_, by simp⟩
          · rw [show (i + 1 - 1).toNat = i.toNat by omega, hd]; exact a5
          · unfold sValid_L1_m
            omega
      · rw [decide_eq_false h0]
        refine ⟨⟨⟨by omega, by omega, a3⟩, by rw [e1]; exact b4, ?_⟩, ?_, by simp⟩
        · rw [show (i + 1 - 1).toNat = (i - 1).toNat by omega]; exact a5
        · unfold sValid_L1_m
          omega
  · rw [decide_eq_false hi]
    have e : l.drop i.toNat = [] := List.drop_eq_nil_of_le (by omega)
    rw [e] at a4
    have hI2 : incr l = true := by
      rw [a5]
      by_cases h0 : 0 < i
      · have hd2 := drop_consG (d := 0) (l := l) (i := i - 1) (by omega) (by omega)
        rw [show (i - 1).toNat + 1 = i.toNat by omega, e] at hd2
        rw [hd2]; rfl
      · have : l = [] := List.eq_nil_of_length_eq_zero (by omega)
        rw [this]; simp [incr]
    show _ = vE l
    unfold vE
    rw [a4, hI2, decide_eq_true a3]
    rfl
set_option maxRecDepth 100000 in
theorem sValid_L1_entry1 (l : List Int) : (((sValid_L1_I l (0 : Int)) ∧ (((0 : Int) = (0 : Int)) ∧ (((((List.length l) : Nat) : Int) = (((List.length l) : Nat) : Int)) ∧ (True ∧ ((Bool.false = Bool.false) ∧ (True ∧ ((l = l) ∧ True)))))))) = sValid_L1_E l (sValid_L1_S1 l) := by kernel_rfl
theorem sValid_L1_1 (l : List Int)  (h : ((sValid_L1_I l (0 : Int)) ∧ (((0 : Int) = (0 : Int)) ∧ (((((List.length l) : Nat) : Int) = (((List.length l) : Nat) : Int)) ∧ (True ∧ ((Bool.false = Bool.false) ∧ (True ∧ ((l = l) ∧ True)))))))) : LoopP (ex Try.prog (conOf [stime_e]) (subC (bodyOf Try.f26) [1, 1, 0, 1, 0, 0])) (kont Try.prog (conOf [stime_e]) (bodyOf Try.f26) [1, 1, 0, 1, 0] (retPost Try.prog Try.f26 1 (sValid_res l))) (sValid_L1_S1 l) := by
  have hE : sValid_L1_E l (sValid_L1_S1 l) := Eq.mp (sValid_L1_entry1 l) h
  unfold sValid_L1_E at hE
  obtain ⟨i, hE⟩ := getI_of hE
  refine loop_of (α := (Int)) (fun xx_ => sValid_L1_F l xx_) (fun xx_ => sValid_L1_I l xx_) (fun xx_ => sValid_L1_m l xx_) (fun xx_ => sValid_L1_N l xx_) (fun xx_ => sValid_L1_T l xx_) (fun xx_ s_ h => ?_) ⟨i, hE⟩ (fun xx_ => sValid_L1_tree l xx_) (fun xx_ hI => sValid_L1_round l xx_  hI)
  unfold sValid_L1_N at h
  obtain ⟨i, h⟩ := getI_of h
  exact ⟨i, h⟩
set_option maxRecDepth 100000 in
theorem sValid_tree (l : List Int) : ((cnd (decide ((1000 : Int) < (((List.length l) : Nat) : Int)))
  (Bool.false = (vE l))
  (LoopP (ex Try.prog (conOf [stime_e]) (subC (bodyOf Try.f26) [1, 1, 0, 1, 0, 0])) (kont Try.prog (conOf [stime_e]) (bodyOf Try.f26) [1, 1, 0, 1, 0] (retPost Try.prog Try.f26 1 (sValid_res l))) (sValid_L1_S1 l)))) = EXD Try.prog (conOf [stime_e]) Try.f26 [.cel (.row 0)] [.ints .i64 l] [] (sValid_res l) := by kernel_rfl
theorem sValid_holds (l : List Int)  : (cnd (decide ((1000 : Int) < (((List.length l) : Nat) : Int)))
  (Bool.false = (vE l))
  (LoopP (ex Try.prog (conOf [stime_e]) (subC (bodyOf Try.f26) [1, 1, 0, 1, 0, 0])) (kont Try.prog (conOf [stime_e]) (bodyOf Try.f26) [1, 1, 0, 1, 0] (retPost Try.prog Try.f26 1 (sValid_res l))) (sValid_L1_S1 l))) := by
  by_cases h : (1000 : Int) < l.length
  · rw [decide_eq_true h]
    show false = vE l
    unfold vE
    rw [decide_eq_false (by omega)]
    rfl
  · rw [decide_eq_false h]
    exact sValid_L1_1 l ⟨⟨⟨by omega, by omega, by omega⟩, by simp, by simp⟩, by simp⟩
set_option maxHeartbeats 2000000 in
theorem sValid_ok : SoundEnt Try.prog sValid_e := by
  refine ent_of_ex (Γ := (conOf [stime_e])) (conOf_sound (scons stime_ok snil)) (by kernel_rfl) Try.func26 (by kernel_rfl) (by kernel_rfl) (fun args rows caps res h ho => ?_)
  change sValid_go args rows caps = some res at h
  unfold sValid_go at h
  split at h
  · simp only [Option.some.injEq] at h
    subst h
    rename_i q0_
    skip
    exact EX.of (sValid_tree q0_) (sValid_holds q0_)
  · cases h
def rtime18_res (t : Int) : CRes := ⟨[], .one (.cel (.bool (isT t))), []⟩
def rtime18_go : List TV → List RowA → List (List CV) → Option CRes := fun args rows caps =>
  match args, rows, caps with
  | [.cel (.int .i64 t)], [], [] => some (rtime18_res t)
  | _, _, _ => none
def rtime18_e : Ent := ⟨69, [], rtime18_go⟩
set_option maxRecDepth 100000 in
theorem rtime18_tree (t : Int) : ((((decide ((0 : Int) ≤ t)) && (decide (t ≤ (1099511627776 : Int)))) = (isT t))) = EXD Try.prog (conOf []) Try.f69 [.cel (.int .i64 t)] [] [] (rtime18_res t) := by kernel_rfl
theorem rtime18_holds (t : Int)  : (((decide ((0 : Int) ≤ t)) && (decide (t ≤ (1099511627776 : Int)))) = (isT t)) := by
  rfl
set_option maxHeartbeats 2000000 in
theorem rtime18_ok : SoundEnt Try.prog rtime18_e := by
  refine ent_of_ex (Γ := (conOf [])) (conOf_sound snil) (by kernel_rfl) Try.func69 (by kernel_rfl) (by kernel_rfl) (fun args rows caps res h ho => ?_)
  change rtime18_go args rows caps = some res at h
  unfold rtime18_go at h
  split at h
  · simp only [Option.some.injEq] at h
    subst h
    rename_i q0_
    skip
    exact EX.of (rtime18_tree q0_) (rtime18_holds q0_)
  · cases h
def rValid_res (l : List Int) : CRes := ⟨[], .one (.cel (.bool (vE l))), []⟩
def rValid_go : List TV → List RowA → List (List CV) → Option CRes := fun args rows caps =>
  match args, rows, caps with
  | [.cel (.row 0)], [.ints .i64 l], [] => some (rValid_res l)
  | _, _, _ => none
def rValid_e : Ent := ⟨28, [.ints .i64 []], rValid_go⟩
def rValid_L1_F (l : List Int) (i : Int) : St := ⟨35, [], [(3, (.one (.cel (.int .i64 i)))), (2, (.one (.cel (.bool Bool.false)))), (0, (.one (.cel (.row 0))))], [], [⟨(.ints .i64 l), none⟩], 0⟩
def rValid_L1_I (l : List Int) (i : Int) : Prop := (0 ≤ i ∧ i ≤ l.length ∧ (l.length : Int) ≤ 1000) ∧ (l.all isT = (l.drop i.toNat).all isT) ∧ (incr l = incr (l.drop (i - 1).toNat))
def rValid_L1_m (l : List Int) (i : Int) : Nat := (l.length - i).toNat
def rValid_L1_N (l : List Int) (i' : Int) (st_ : St) : Prop := getI st_ 3 fun i => rValid_L1_I l i ∧ rValid_L1_m l i < rValid_L1_m l i' ∧ SubA st_ (rValid_L1_F l i)
def rValid_L1_E (l : List Int) (st_ : St) : Prop := getI st_ 3 fun i => rValid_L1_I l i ∧ SubA st_ (rValid_L1_F l i)
def rValid_L1_S1 (l : List Int) : St := ⟨35, [], [(3, (.one (.cel (.int .i64 (0 : Int))))), (6, (.one (.cel (.bool (decide ((1000 : Int) < (((List.length l) : Nat) : Int))))))), (5, (.one (.cel (.int .i64 (((List.length l) : Nat) : Int))))), (4, (.one (.cel (.row 0)))), (2, (.one (.cel (.bool Bool.false)))), (0, (.one (.cel (.row 0))))], [], [⟨(.ints .i64 l), none⟩], 0⟩
def rValid_L1_T (l : List Int) (i : Int) : Prop := (cnd (decide (i < (((List.length l) : Nat) : Int)))
  (cnd (decide ((0 : Int) ≤ i))
    (cnd (decide (i < (((List.length l) : Nat) : Int)))
      (cnd ((!(((!(isT (List.getD l (Int.toNat i) (0 : Int)))) == Bool.false) && ((decide ((0 : Int) < i)) == Bool.true))) || (decide ((0 : Int) ≤ i)))
        (cnd ((!(((!(isT (List.getD l (Int.toNat i) (0 : Int)))) == Bool.false) && ((decide ((0 : Int) < i)) == Bool.true))) || (decide (i < (((List.length l) : Nat) : Int))))
          (cnd ((!(((!(isT (List.getD l (Int.toNat i) (0 : Int)))) == Bool.false) && ((decide ((0 : Int) < i)) == Bool.true))) || (decide ((0 : Int) ≤ (Go.IntKind.wrap Go.IntKind.i64 (i - (1 : Int))))))
            (cnd ((!(((!(isT (List.getD l (Int.toNat i) (0 : Int)))) == Bool.false) && ((decide ((0 : Int) < i)) == Bool.true))) || (decide ((Go.IntKind.wrap Go.IntKind.i64 (i - (1 : Int))) < (((List.length l) : Nat) : Int))))
              (cnd ((!(isT (List.getD l (Int.toNat i) (0 : Int)))) || ((decide ((0 : Int) < i)) && (decide ((List.getD l (Int.toNat i) (0 : Int)) ≤ (List.getD l (Int.toNat (Go.IntKind.wrap Go.IntKind.i64 (i - (1 : Int)))) (0 : Int))))))
                (Bool.false = (vE l))
                ((rValid_L1_I l (Go.IntKind.wrap Go.IntKind.i64 (i + (1 : Int)))) ∧ (((rValid_L1_m l (Go.IntKind.wrap Go.IntKind.i64 (i + (1 : Int)))) < (rValid_L1_m l i)) ∧ (((Go.IntKind.wrap Go.IntKind.i64 (i + (1 : Int))) = (Go.IntKind.wrap Go.IntKind.i64 (i + (1 : Int)))) ∧ ((Bool.false = Bool.false) ∧ (True ∧ ((l = l) ∧ True)))))))
              False)
            False)
          False)
        False)
      False)
    False)
  (Bool.true = (vE l)))
set_option maxRecDepth 100000 in
theorem rValid_L1_tree (l : List Int) (i : Int) : rValid_L1_T l i = ex Try.prog (conOf [rtime18_e]) (subC (bodyOf Try.f28) [1, 1, 0, 1, 0, 0]) (nextE (rValid_L1_N l i) (kont Try.prog (conOf [rtime18_e]) (bodyOf Try.f28) [1, 1, 0, 1, 0] (retPost Try.prog Try.f28 1 (rValid_res l)))) (rValid_L1_F l i) := by kernel_rfl
set_option maxRecDepth 100000 in
theorem rValid_L1_round (l : List Int) (i : Int)  (hI_L1 : rValid_L1_I l i) : rValid_L1_T l i := by
  obtain ⟨⟨a1, a2, a3⟩, a4, a5⟩ := hI_L1
  unfold rValid_L1_T
  by_cases hi : i < l.length
  · have hd := drop_consG (d := 0) (l := l) (i := i) a1 hi
    rw [w64 (n := i + 1) (by omega) (by omega), w64 (n := i - 1) (by omega) (by omega), decide_eq_true hi, decide_eq_true a1]
    have e1 : (i + 1).toNat = i.toNat + 1 := by omega
    rw [hd] at a4
    have jm : decide (i - 1 < (l.length : Int)) = true := by rw [decide_eq_true_eq]; omega
    rw [jm]
    cases hx : isT (l.getD i.toNat 0) with
    | false =>
      have : l.all isT = false := by rw [a4, List.all_cons, hx, Bool.false_and]
      simp [vE, this, cnd]
    | true =>
      have b4 : l.all isT = (l.drop (i.toNat + 1)).all isT := by rw [a4, List.all_cons, hx, Bool.true_and]
      by_cases h0 : 0 < i
      · have hd2 := drop_consG (d := 0) (l := l) (i := i - 1) (by omega) (by omega)
        have e2 : (i - 1).toNat + 1 = i.toNat := by omega
        rw [e2, hd] at hd2
        rw [hd2, incr] at a5
        have j1 : decide (0 ≤ i - 1) = true := by rw [decide_eq_true_eq]; omega
        rw [decide_eq_true h0, j1]
        by_cases hc : l.getD i.toNat 0 ≤ l.getD (i - 1).toNat 0
        · have : incr l = false := by rw [a5, decide_eq_false (by omega), Bool.false_and]
          rw [decide_eq_true hc]
          simp [vE, this, cnd]
        · rw [decide_eq_true (by omega), Bool.true_and] at a5
          rw [decide_eq_false hc]
          refine ⟨⟨⟨by omega, by omega, a3⟩, by rw [e1]; exact b4, ?_⟩, ?_, by simp⟩
          · rw [show (i + 1 - 1).toNat = i.toNat by omega, hd]; exact a5
          · unfold rValid_L1_m
            omega
      · rw [decide_eq_false h0]
        refine ⟨⟨⟨by omega, by omega, a3⟩, by rw [e1]; exact b4, ?_⟩, ?_, by simp⟩
        · rw [show (i + 1 - 1).toNat = (i - 1).toNat by omega]; exact a5
        · unfold rValid_L1_m
          omega
  · rw [decide_eq_false hi]
    have e : l.drop i.toNat = [] := List.drop_eq_nil_of_le (by omega)
    rw [e] at a4
    have hI2 : incr l = true := by
      rw [a5]
      by_cases h0 : 0 < i
      · have hd2 := drop_consG (d := 0) (l := l) (i := i - 1) (by omega) (by omega)
        rw [show (i - 1).toNat + 1 = i.toNat by omega, e] at hd2
        rw [hd2]; rfl
      · have : l = [] := List.eq_nil_of_length_eq_zero (by omega)
        rw [this]; simp [incr]
    show _ = vE l
    unfold vE
    rw [a4, hI2, decide_eq_true a3]
    rfl
set_option maxRecDepth 100000 in
theorem rValid_L1_entry1 (l : List Int) : (((rValid_L1_I l (0 : Int)) ∧ (((0 : Int) = (0 : Int)) ∧ ((Bool.false = Bool.false) ∧ (True ∧ ((l = l) ∧ True)))))) = rValid_L1_E l (rValid_L1_S1 l) := by kernel_rfl
theorem rValid_L1_1 (l : List Int)  (h : ((rValid_L1_I l (0 : Int)) ∧ (((0 : Int) = (0 : Int)) ∧ ((Bool.false = Bool.false) ∧ (True ∧ ((l = l) ∧ True)))))) : LoopP (ex Try.prog (conOf [rtime18_e]) (subC (bodyOf Try.f28) [1, 1, 0, 1, 0, 0])) (kont Try.prog (conOf [rtime18_e]) (bodyOf Try.f28) [1, 1, 0, 1, 0] (retPost Try.prog Try.f28 1 (rValid_res l))) (rValid_L1_S1 l) := by
  have hE : rValid_L1_E l (rValid_L1_S1 l) := Eq.mp (rValid_L1_entry1 l) h
  unfold rValid_L1_E at hE
  obtain ⟨i, hE⟩ := getI_of hE
  refine loop_of (α := (Int)) (fun xx_ => rValid_L1_F l xx_) (fun xx_ => rValid_L1_I l xx_) (fun xx_ => rValid_L1_m l xx_) (fun xx_ => rValid_L1_N l xx_) (fun xx_ => rValid_L1_T l xx_) (fun xx_ s_ h => ?_) ⟨i, hE⟩ (fun xx_ => rValid_L1_tree l xx_) (fun xx_ hI => rValid_L1_round l xx_  hI)
  unfold rValid_L1_N at h
  obtain ⟨i, h⟩ := getI_of h
  exact ⟨i, h⟩
set_option maxRecDepth 100000 in
theorem rValid_tree (l : List Int) : ((cnd (decide ((1000 : Int) < (((List.length l) : Nat) : Int)))
  (Bool.false = (vE l))
  (LoopP (ex Try.prog (conOf [rtime18_e]) (subC (bodyOf Try.f28) [1, 1, 0, 1, 0, 0])) (kont Try.prog (conOf [rtime18_e]) (bodyOf Try.f28) [1, 1, 0, 1, 0] (retPost Try.prog Try.f28 1 (rValid_res l))) (rValid_L1_S1 l)))) = EXD Try.prog (conOf [rtime18_e]) Try.f28 [.cel (.row 0)] [.ints .i64 l] [] (rValid_res l) := by kernel_rfl
theorem rValid_holds (l : List Int)  : (cnd (decide ((1000 : Int) < (((List.length l) : Nat) : Int)))
  (Bool.false = (vE l))
  (LoopP (ex Try.prog (conOf [rtime18_e]) (subC (bodyOf Try.f28) [1, 1, 0, 1, 0, 0])) (kont Try.prog (conOf [rtime18_e]) (bodyOf Try.f28) [1, 1, 0, 1, 0] (retPost Try.prog Try.f28 1 (rValid_res l))) (rValid_L1_S1 l))) := by
  by_cases h : (1000 : Int) < l.length
  · rw [decide_eq_true h]
    show false = vE l
    unfold vE
    rw [decide_eq_false (by omega)]
    rfl
  · rw [decide_eq_false h]
    exact rValid_L1_1 l ⟨⟨⟨by omega, by omega, by omega⟩, by simp, by simp⟩, by simp⟩
set_option maxHeartbeats 2000000 in
theorem rValid_ok : SoundEnt Try.prog rValid_e := by
  refine ent_of_ex (Γ := (conOf [rtime18_e])) (conOf_sound (scons rtime18_ok snil)) (by kernel_rfl) Try.func28 (by kernel_rfl) (by kernel_rfl) (fun args rows caps res h ho => ?_)
  change rValid_go args rows caps = some res at h
  unfold rValid_go at h
  split at h
  · simp only [Option.some.injEq] at h
    subst h
    rename_i q0_
    skip
    exact EX.of (rValid_tree q0_) (rValid_holds q0_)
  · cases h
def sPer_res (l : List Int) : CRes := ⟨[], .tup [.cel (.row 1), .cel (.int .i64 (if vE l then 0 else 1))], [.ints .i64 (if vE l then dif l else [])]⟩
def sPer_go : List TV → List RowA → List (List CV) → Option CRes := fun args rows caps =>
  match args, rows, caps with
  | [.cel (.row 0)], [.ints .i64 l], [] => some (sPer_res l)
  | _, _, _ => none
def sPer_e : Ent := ⟨27, [.ints .i64 []], sPer_go⟩
def sPer_L1_F (l : List Int) (i : Int) (o : List Int) : St := ⟨29, [], [(5, (.one (.cel (.int .i64 i)))), (4, (.one (.cel (.row 1)))), (3, (.one (.cel (.int .i64 (0 : Int))))), (2, (.one (.cel .nilS))), (0, (.one (.cel (.row 0))))], [], [⟨(.ints .i64 l), none⟩, ⟨(.ints .i64 o), some 3⟩], 0⟩
def sPer_L1_I (l : List Int) (i : Int) (o : List Int) : Prop := (1 ≤ i ∧ (i ≤ l.length ∨ i = 1)) ∧ (vE l = true) ∧ ((o.length : Int) = i - 1) ∧ (o ++ dif (l.drop (i - 1).toNat) = dif l)
def sPer_L1_m (l : List Int) (i : Int) (o : List Int) : Nat := (l.length - i).toNat
def sPer_L1_N (l : List Int) (i' : Int) (o' : List Int) (st_ : St) : Prop := getI st_ 5 fun i => getR st_ 4 fun o => sPer_L1_I l i o ∧ sPer_L1_m l i o < sPer_L1_m l i' o' ∧ SubA st_ (sPer_L1_F l i o)
def sPer_L1_E (l : List Int) (st_ : St) : Prop := getI st_ 5 fun i => getR st_ 4 fun o => sPer_L1_I l i o ∧ SubA st_ (sPer_L1_F l i o)
def sPer_L1_S1 (l : List Int) : St := ⟨29, [], [(5, (.one (.cel (.int .i64 (1 : Int))))), (4, (.one (.cel .nilS))), (8, (.one (.cel (.bool (!(vE l)))))), (7, (.one (.cel (.bool (vE l))))), (6, (.one (.cel (.row 0)))), (3, (.one (.cel (.int .i64 (0 : Int))))), (2, (.one (.cel .nilS))), (0, (.one (.cel (.row 0))))], [], [⟨(.ints .i64 l), none⟩], 0⟩
def sPer_L1_T (l : List Int) (i : Int) (o : List Int) : Prop := (cnd (decide (i < (((List.length l) : Nat) : Int)))
  (cnd (decide ((0 : Int) ≤ i))
    (cnd (decide (i < (((List.length l) : Nat) : Int)))
      (cnd (decide ((0 : Int) ≤ (Go.IntKind.wrap Go.IntKind.i64 (i - (1 : Int)))))
        (cnd (decide ((Go.IntKind.wrap Go.IntKind.i64 (i - (1 : Int))) < (((List.length l) : Nat) : Int)))
          (cnd (decide ((List.length (o ++ [(Go.IntKind.wrap Go.IntKind.i64 ((List.getD l (Int.toNat i) (0 : Int)) - (List.getD l (Int.toNat (Go.IntKind.wrap Go.IntKind.i64 (i - (1 : Int)))) (0 : Int))))])) ≤ 4294967296))
            ((sPer_L1_I l (Go.IntKind.wrap Go.IntKind.i64 (i + (1 : Int))) (o ++ [(Go.IntKind.wrap Go.IntKind.i64 ((List.getD l (Int.toNat i) (0 : Int)) - (List.getD l (Int.toNat (Go.IntKind.wrap Go.IntKind.i64 (i - (1 : Int)))) (0 : Int))))])) ∧ (((sPer_L1_m l (Go.IntKind.wrap Go.IntKind.i64 (i + (1 : Int))) (o ++ [(Go.IntKind.wrap Go.IntKind.i64 ((List.getD l (Int.toNat i) (0 : Int)) - (List.getD l (Int.toNat (Go.IntKind.wrap Go.IntKind.i64 (i - (1 : Int)))) (0 : Int))))])) < (sPer_L1_m l i o)) ∧ (((Go.IntKind.wrap Go.IntKind.i64 (i + (1 : Int))) = (Go.IntKind.wrap Go.IntKind.i64 (i + (1 : Int)))) ∧ (True ∧ (((0 : Int) = (0 : Int)) ∧ (True ∧ (True ∧ ((l = l) ∧ (((o ++ [(Go.IntKind.wrap Go.IntKind.i64 ((List.getD l (Int.toNat i) (0 : Int)) - (List.getD l (Int.toNat (Go.IntKind.wrap Go.IntKind.i64 (i - (1 : Int)))) (0 : Int))))]) = (o ++ [(Go.IntKind.wrap Go.IntKind.i64 ((List.getD l (Int.toNat i) (0 : Int)) - (List.getD l (Int.toNat (Go.IntKind.wrap Go.IntKind.i64 (i - (1 : Int)))) (0 : Int))))])) ∧ True)))))))))
            False)
          False)
        False)
      False)
    False)
  ((True ∧ ((0 : Int) = (if ((vE l) = Bool.true) then (0 : Int) else (1 : Int)))) ∧ ((o = (if ((vE l) = Bool.true) then (dif l) else ([] : List Int))) ∧ True)))
set_option maxRecDepth 100000 in
theorem sPer_L1_tree (l : List Int) (i : Int) (o : List Int) : sPer_L1_T l i o = ex Try.prog (conOf [sValid_e]) (subC (bodyOf Try.f27) [1, 1, 1, 0, 1, 0, 0]) (nextE (sPer_L1_N l i o) (kont Try.prog (conOf [sValid_e]) (bodyOf Try.f27) [1, 1, 1, 0, 1, 0] (retPost Try.prog Try.f27 1 (sPer_res l)))) (sPer_L1_F l i o) := by kernel_rfl
set_option maxRecDepth 100000 in
theorem sPer_L1_round (l : List Int) (i : Int) (o : List Int)  (hI_L1 : sPer_L1_I l i o) : sPer_L1_T l i o := by
  obtain ⟨⟨a1, a2⟩, hv, a3, a4⟩ := hI_L1
  obtain ⟨v1, v2, v3⟩ := vE_iff.1 hv
  unfold sPer_L1_T
  by_cases hi : i < l.length
  · have hd := drop_consG (d := 0) (l := l) (i := i) (by omega) hi
    have hd2 := drop_consG (d := 0) (l := l) (i := i - 1) (by omega) (by omega)
    have e2 : (i - 1).toNat + 1 = i.toNat := by omega
    rw [e2, hd] at hd2
    have ht := isT_iff.1 (all_get v2 (j := i.toNat) (by omega))
    have ht2 := isT_iff.1 (all_get v2 (j := (i - 1).toNat) (by omega))
    have hlen : ∀ r : Int, (o ++ [r]).length = o.length + 1 := fun r => by simp
    rw [decide_eq_true hi, w64 (n := i + 1) (by omega) (by omega), w64 (n := i - 1) (by omega) (by omega), decide_eq_true (show 0 ≤ i by omega), decide_eq_true (show 0 ≤ i - 1 by omega), decide_eq_true (show i - 1 < (l.length : Int) by omega), w64 (n := l.getD i.toNat 0 - l.getD (i - 1).toNat 0) (by omega) (by omega), decide_eq_true (show (o ++ [l.getD i.toNat 0 - l.getD (i - 1).toNat 0]).length ≤ 4294967296 by rw [hlen]; omega)]
    refine ⟨⟨⟨by omega, by omega⟩, hv, by rw [hlen]; omega, ?_⟩, ?_, by simp⟩
    · rw [← a4, hd2, show (i + 1 - 1).toNat = i.toNat by omega, hd, dif, List.append_assoc]
      rfl
    · unfold sPer_L1_m
      omega
  · rw [decide_eq_false hi]
    have : dif (l.drop (i - 1).toNat) = [] := by
      have hl : (l.drop (i - 1).toNat).length ≤ 1 := by rw [List.length_drop]; omega
      match l.drop (i - 1).toNat, hl with
      | [], _ => rfl
      | [_], _ => rfl
    rw [this, List.append_nil] at a4
    subst a4
    simp [hv, cnd]
set_option maxRecDepth 100000 in
theorem sPer_L1_entry1 (l : List Int) : (((sPer_L1_I l (1 : Int) ([] : List Int)) ∧ (((1 : Int) = (1 : Int)) ∧ (True ∧ (((0 : Int) = (0 : Int)) ∧ (True ∧ (True ∧ ((l = l) ∧ ((([] : List Int) = ([] : List Int)) ∧ True))))))))) = sPer_L1_E l (sPer_L1_S1 l) := by kernel_rfl
theorem sPer_L1_1 (l : List Int)  (h : ((sPer_L1_I l (1 : Int) ([] : List Int)) ∧ (((1 : Int) = (1 : Int)) ∧ (True ∧ (((0 : Int) = (0 : Int)) ∧ (True ∧ (True ∧ ((l = l) ∧ ((([] : List Int) = ([] : List Int)) ∧ True))))))))) : LoopP (ex Try.prog (conOf [sValid_e]) (subC (bodyOf Try.f27) [1, 1, 1, 0, 1, 0, 0])) (kont Try.prog (conOf [sValid_e]) (bodyOf Try.f27) [1, 1, 1, 0, 1, 0] (retPost Try.prog Try.f27 1 (sPer_res l))) (sPer_L1_S1 l) := by
  have hE : sPer_L1_E l (sPer_L1_S1 l) := Eq.mp (sPer_L1_entry1 l) h
  unfold sPer_L1_E at hE
  obtain ⟨i, hE⟩ := getI_of hE
  obtain ⟨o, hE⟩ := getR_of hE
  refine loop_of (α := (Int) × (List Int)) (fun xx_ => sPer_L1_F l xx_.1 xx_.2) (fun xx_ => sPer_L1_I l xx_.1 xx_.2) (fun xx_ => sPer_L1_m l xx_.1 xx_.2) (fun xx_ => sPer_L1_N l xx_.1 xx_.2) (fun xx_ => sPer_L1_T l xx_.1 xx_.2) (fun xx_ s_ h => ?_) ⟨⟨i, o⟩, hE⟩ (fun xx_ => sPer_L1_tree l xx_.1 xx_.2) (fun xx_ hI => sPer_L1_round l xx_.1 xx_.2  hI)
  unfold sPer_L1_N at h
  obtain ⟨i, h⟩ := getI_of h
  obtain ⟨o, h⟩ := getR_of h
  exact ⟨⟨i, o⟩, h⟩
set_option maxRecDepth 100000 in
theorem sPer_tree (l : List Int) : ((cnd (!(vE l))
  ((True ∧ ((1 : Int) = (if ((vE l) = Bool.true) then (0 : Int) else (1 : Int)))) ∧ (((if ((vE l) = Bool.true) then (dif l) else ([] : List Int)) = ([] : List Int)) ∧ True))
  (LoopP (ex Try.prog (conOf [sValid_e]) (subC (bodyOf Try.f27) [1, 1, 1, 0, 1, 0, 0])) (kont Try.prog (conOf [sValid_e]) (bodyOf Try.f27) [1, 1, 1, 0, 1, 0] (retPost Try.prog Try.f27 1 (sPer_res l))) (sPer_L1_S1 l)))) = EXD Try.prog (conOf [sValid_e]) Try.f27 [.cel (.row 0)] [.ints .i64 l] [] (sPer_res l) := by kernel_rfl
theorem sPer_holds (l : List Int)  : (cnd (!(vE l))
  ((True ∧ ((1 : Int) = (if ((vE l) = Bool.true) then (0 : Int) else (1 : Int)))) ∧ (((if ((vE l) = Bool.true) then (dif l) else ([] : List Int)) = ([] : List Int)) ∧ True))
  (LoopP (ex Try.prog (conOf [sValid_e]) (subC (bodyOf Try.f27) [1, 1, 1, 0, 1, 0, 0])) (kont Try.prog (conOf [sValid_e]) (bodyOf Try.f27) [1, 1, 1, 0, 1, 0] (retPost Try.prog Try.f27 1 (sPer_res l))) (sPer_L1_S1 l))) := by
  cases hv : vE l with
  | false => simp [cnd]
  | true => exact sPer_L1_1 l ⟨⟨⟨by omega, by omega⟩, hv, by simp, by simp⟩, by simp⟩
set_option maxHeartbeats 2000000 in
theorem sPer_ok : SoundEnt Try.prog sPer_e := by
  refine ent_of_ex (Γ := (conOf [sValid_e])) (conOf_sound (scons sValid_ok snil)) (by kernel_rfl) Try.func27 (by kernel_rfl) (by kernel_rfl) (fun args rows caps res h ho => ?_)
  change sPer_go args rows caps = some res at h
  unfold sPer_go at h
  split at h
  · simp only [Option.some.injEq] at h
    subst h
    rename_i q0_
    skip
    exact EX.of (sPer_tree q0_) (sPer_holds q0_)
  · cases h
def rPer_res (l : List Int) : CRes := ⟨[vE l], .one (.cel (.row 1)), [.ints .i64 (dif l)]⟩
def rPer_go : List TV → List RowA → List (List CV) → Option CRes := fun args rows caps =>
  match args, rows, caps with
  | [.cel (.row 0)], [.ints .i64 l], [] => some (rPer_res l)
  | _, _, _ => none
def rPer_e : Ent := ⟨29, [.ints .i64 []], rPer_go⟩
def rPer_L1_F (l : List Int) (i : Int) (o : List Int) : St := ⟨25, [], [(4, (.one (.cel (.int .i64 i)))), (3, (.one (.cel (.row 1)))), (2, (.one (.cel .nilS))), (0, (.one (.cel (.row 0))))], [], [⟨(.ints .i64 l), none⟩, ⟨(.ints .i64 o), some 3⟩], 0⟩
def rPer_L1_I (l : List Int) (i : Int) (o : List Int) : Prop := (1 ≤ i ∧ (i ≤ l.length ∨ i = 1)) ∧ (vE l = true) ∧ ((o.length : Int) = i - 1) ∧ (o ++ dif (l.drop (i - 1).toNat) = dif l)
def rPer_L1_m (l : List Int) (i : Int) (o : List Int) : Nat := (l.length - i).toNat
def rPer_L1_N (l : List Int) (i' : Int) (o' : List Int) (st_ : St) : Prop := getI st_ 4 fun i => getR st_ 3 fun o => rPer_L1_I l i o ∧ rPer_L1_m l i o < rPer_L1_m l i' o' ∧ SubA st_ (rPer_L1_F l i o)
def rPer_L1_E (l : List Int) (st_ : St) : Prop := getI st_ 4 fun i => getR st_ 3 fun o => rPer_L1_I l i o ∧ SubA st_ (rPer_L1_F l i o)
def rPer_L1_S1 (l : List Int) : St := ⟨25, [], [(4, (.one (.cel (.int .i64 (1 : Int))))), (3, (.one (.cel .nilS))), (2, (.one (.cel .nilS))), (0, (.one (.cel (.row 0))))], [], [⟨(.ints .i64 l), none⟩], 0⟩
def rPer_L1_T (l : List Int) (i : Int) (o : List Int) : Prop := (cnd (decide (i < (((List.length l) : Nat) : Int)))
  (cnd (decide ((0 : Int) ≤ i))
    (cnd (decide (i < (((List.length l) : Nat) : Int)))
      (cnd (decide ((0 : Int) ≤ (Go.IntKind.wrap Go.IntKind.i64 (i - (1 : Int)))))
        (cnd (decide ((Go.IntKind.wrap Go.IntKind.i64 (i - (1 : Int))) < (((List.length l) : Nat) : Int)))
          (cnd (decide ((List.length (o ++ [(Go.IntKind.wrap Go.IntKind.i64 ((List.getD l (Int.toNat i) (0 : Int)) - (List.getD l (Int.toNat (Go.IntKind.wrap Go.IntKind.i64 (i - (1 : Int)))) (0 : Int))))])) ≤ 4294967296))
            ((rPer_L1_I l (Go.IntKind.wrap Go.IntKind.i64 (i + (1 : Int))) (o ++ [(Go.IntKind.wrap Go.IntKind.i64 ((List.getD l (Int.toNat i) (0 : Int)) - (List.getD l (Int.toNat (Go.IntKind.wrap Go.IntKind.i64 (i - (1 : Int)))) (0 : Int))))])) ∧ (((rPer_L1_m l (Go.IntKind.wrap Go.IntKind.i64 (i + (1 : Int))) (o ++ [(Go.IntKind.wrap Go.IntKind.i64 ((List.getD l (Int.toNat i) (0 : Int)) - (List.getD l (Int.toNat (Go.IntKind.wrap Go.IntKind.i64 (i - (1 : Int)))) (0 : Int))))])) < (rPer_L1_m l i o)) ∧ (((Go.IntKind.wrap Go.IntKind.i64 (i + (1 : Int))) = (Go.IntKind.wrap Go.IntKind.i64 (i + (1 : Int)))) ∧ (True ∧ (True ∧ (True ∧ ((l = l) ∧ (((o ++ [(Go.IntKind.wrap Go.IntKind.i64 ((List.getD l (Int.toNat i) (0 : Int)) - (List.getD l (Int.toNat (Go.IntKind.wrap Go.IntKind.i64 (i - (1 : Int)))) (0 : Int))))]) = (o ++ [(Go.IntKind.wrap Go.IntKind.i64 ((List.getD l (Int.toNat i) (0 : Int)) - (List.getD l (Int.toNat (Go.IntKind.wrap Go.IntKind.i64 (i - (1 : Int)))) (0 : Int))))])) ∧ True))))))))
            False)
          False)
        False)
      False)
    False)
  (True ∧ ((o = (dif l)) ∧ True)))
set_option maxRecDepth 100000 in
theorem rPer_L1_tree (l : List Int) (i : Int) (o : List Int) : rPer_L1_T l i o = ex Try.prog (conOf []) (subC (bodyOf Try.f29) [1, 1, 0, 1, 0, 0]) (nextE (rPer_L1_N l i o) (kont Try.prog (conOf []) (bodyOf Try.f29) [1, 1, 0, 1, 0] (retPost Try.prog Try.f29 1 (rPer_res l)))) (rPer_L1_F l i o) := by kernel_rfl
set_option maxRecDepth 100000 in
theorem rPer_L1_round (l : List Int) (i : Int) (o : List Int) (p0 : (vE l) = true) (hI_L1 : rPer_L1_I l i o) : rPer_L1_T l i o := by
  obtain ⟨⟨a1, a2⟩, hv, a3, a4⟩ := hI_L1
  obtain ⟨v1, v2, v3⟩ := vE_iff.1 hv
  unfold rPer_L1_T
  by_cases hi : i < l.length
  · have hd := drop_consG (d := 0) (l := l) (i := i) (by omega) hi
    have hd2 := drop_consG (d := 0) (l := l) (i := i - 1) (by omega) (by omega)
    have e2 : (i - 1).toNat + 1 = i.toNat := by omega
    rw [e2, hd] at hd2
    have ht := isT_iff.1 (all_get v2 (j := i.toNat) (by omega))
    have ht2 := isT_iff.1 (all_get v2 (j := (i - 1).toNat) (by omega))
    have hlen : ∀ r : Int, (o ++ [r]).length = o.length + 1 := fun r => by simp
    rw [decide_eq_true hi, w64 (n := i + 1) (by omega) (by omega), w64 (n := i - 1) (by omega) (by omega), decide_eq_true (show 0 ≤ i by omega), decide_eq_true (show 0 ≤ i - 1 by omega), decide_eq_true (show i - 1 < (l.length : Int) by omega), w64 (n := l.getD i.toNat 0 - l.getD (i - 1).toNat 0) (by omega) (by omega), decide_eq_true (show (o ++ [l.getD i.toNat 0 - l.getD (i - 1).toNat 0]).length ≤ 4294967296 by rw [hlen]; omega)]
    refine ⟨⟨⟨by omega, by omega⟩, hv, by rw [hlen]; omega, ?_⟩, ?_, by simp⟩
    · rw [← a4, hd2, show (i + 1 - 1).toNat = i.toNat by omega, hd, dif, List.append_assoc]
      rfl
    · unfold rPer_L1_m
      omega
  · rw [decide_eq_false hi]
    have : dif (l.drop (i - 1).toNat) = [] := by
      have hl : (l.drop (i - 1).toNat).length ≤ 1 := by rw [List.length_drop]; omega
      match l.drop (i - 1).toNat, hl with
      | [], _ => rfl
      | [_], _ => rfl
    rw [this, List.append_nil] at a4
    subst a4
    simp [cnd]
set_option maxRecDepth 100000 in
theorem rPer_L1_entry1 (l : List Int) : (((rPer_L1_I l (1 : Int) ([] : List Int)) ∧ (((1 : Int) = (1 : Int)) ∧ (True ∧ (True ∧ (True ∧ ((l = l) ∧ ((([] : List Int) = ([] : List Int)) ∧ True)))))))) = rPer_L1_E l (rPer_L1_S1 l) := by kernel_rfl
theorem rPer_L1_1 (l : List Int) (p0 : (vE l) = true) (h : ((rPer_L1_I l (1 : Int) ([] : List Int)) ∧ (((1 : Int) = (1 : Int)) ∧ (True ∧ (True ∧ (True ∧ ((l = l) ∧ ((([] : List Int) = ([] : List Int)) ∧ True)))))))) : LoopP (ex Try.prog (conOf []) (subC (bodyOf Try.f29) [1, 1, 0, 1, 0, 0])) (kont Try.prog (conOf []) (bodyOf Try.f29) [1, 1, 0, 1, 0] (retPost Try.prog Try.f29 1 (rPer_res l))) (rPer_L1_S1 l) := by
  have hE : rPer_L1_E l (rPer_L1_S1 l) := Eq.mp (rPer_L1_entry1 l) h
  unfold rPer_L1_E at hE
  obtain ⟨i, hE⟩ := getI_of hE
  obtain ⟨o, hE⟩ := getR_of hE
  refine loop_of (α := (Int) × (List Int)) (fun xx_ => rPer_L1_F l xx_.1 xx_.2) (fun xx_ => rPer_L1_I l xx_.1 xx_.2) (fun xx_ => rPer_L1_m l xx_.1 xx_.2) (fun xx_ => rPer_L1_N l xx_.1 xx_.2) (fun xx_ => rPer_L1_T l xx_.1 xx_.2) (fun xx_ s_ h => ?_) ⟨⟨i, o⟩, hE⟩ (fun xx_ => rPer_L1_tree l xx_.1 xx_.2) (fun xx_ hI => rPer_L1_round l xx_.1 xx_.2 p0 hI)
  unfold rPer_L1_N at h
  obtain ⟨i, h⟩ := getI_of h
  obtain ⟨o, h⟩ := getR_of h
  exact ⟨⟨i, o⟩, h⟩
set_option maxRecDepth 100000 in
theorem rPer_tree (l : List Int) : ((LoopP (ex Try.prog (conOf []) (subC (bodyOf Try.f29) [1, 1, 0, 1, 0, 0])) (kont Try.prog (conOf []) (bodyOf Try.f29) [1, 1, 0, 1, 0] (retPost Try.prog Try.f29 1 (rPer_res l))) (rPer_L1_S1 l))) = EXD Try.prog (conOf []) Try.f29 [.cel (.row 0)] [.ints .i64 l] [] (rPer_res l) := by kernel_rfl
theorem rPer_holds (l : List Int) (p0 : (vE l) = true) : (LoopP (ex Try.prog (conOf []) (subC (bodyOf Try.f29) [1, 1, 0, 1, 0, 0])) (kont Try.prog (conOf []) (bodyOf Try.f29) [1, 1, 0, 1, 0] (retPost Try.prog Try.f29 1 (rPer_res l))) (rPer_L1_S1 l)) := by
  exact rPer_L1_1 l p0 ⟨⟨⟨by omega, by omega⟩, p0, by simp, by simp⟩, by simp⟩
set_option maxHeartbeats 2000000 in
theorem rPer_ok : SoundEnt Try.prog rPer_e := by
  refine ent_of_ex (Γ := (conOf [])) (conOf_sound snil) (by kernel_rfl) Try.func29 (by kernel_rfl) (by kernel_rfl) (fun args rows caps res h ho => ?_)
  change rPer_go args rows caps = some res at h
  unfold rPer_go at h
  split at h
  · simp only [Option.some.injEq] at h
    subst h
    rename_i q0_
    obtain ⟨p0, _⟩ := ho
    exact EX.of (rPer_tree q0_) (rPer_holds q0_ p0)
  · cases h
end Go.Proofs.Ythfliohfkhnpiaa

