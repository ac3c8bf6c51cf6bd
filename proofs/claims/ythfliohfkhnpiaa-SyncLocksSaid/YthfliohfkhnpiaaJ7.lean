/- The law of periods. -/
import Derived.Test.YthfliohfkhnpiaaJ6
namespace Go.Proofs.Ythfliohfkhnpiaa
set_option linter.unusedVariables false
set_option linter.unusedSimpArgs false
open Go.RowKit

theorem take_snoc {α : Type} {d : α} {l : List α} {i : Int} (h0 : 0 ≤ i) (h1 : i < l.length) : l.take (i + 1).toNat = l.take i.toNat ++ [l.getD i.toNat d] := by
  rw [show (i + 1).toNat = i.toNat + 1 by omega, List.take_add_one, List.getElem?_eq_getElem (by omega), List.getD_eq_getElem?_getD, List.getElem?_eq_getElem (by omega)]; rfl
def equalI_res (l : List Int) (m : List Int) : CRes := ⟨[decide ((l.length : Int) ≤ 1000000), decide ((m.length : Int) ≤ 1000000)], .one (.cel (.bool (decide (l = m)))), []⟩
def equalI_go : List TV → List RowA → List (List CV) → Option CRes := fun args rows caps =>
  match args, rows, caps with
  | [.cel (.row 0), .cel (.row 1)], [.ints .i64 l, .ints .i64 m], [] => some (equalI_res l m)
  | _, _, _ => none
def equalI_e : Ent := ⟨18, [.ints .i64 [], .ints .i64 []], equalI_go⟩
def equalI_L1_F (l : List Int) (m : List Int) (i : Int) : St := ⟨26, [], [(13, (.one (.cel (.int .i64 i)))), (12, (.one (.cel (.int .i64 (((List.length l) : Nat) : Int))))), (4, (.one (.cel (.bool Bool.false)))), (0, (.one (.cel (.row 0)))), (1, (.one (.cel (.row 1))))], [], [⟨(.ints .i64 l), none⟩, ⟨(.ints .i64 m), none⟩], 0⟩
def equalI_L1_I (l : List Int) (m : List Int) (i : Int) : Prop := (0 ≤ i ∧ i ≤ l.length ∧ l.length = m.length) ∧ (l.take i.toNat = m.take i.toNat)
def equalI_L1_m (l : List Int) (m : List Int) (i : Int) : Nat := (l.length - i).toNat
def equalI_L1_N (l : List Int) (m : List Int) (i' : Int) (st_ : St) : Prop := getI st_ 13 fun i => equalI_L1_I l m i ∧ equalI_L1_m l m i < equalI_L1_m l m i' ∧ SubA st_ (equalI_L1_F l m i)
def equalI_L1_E (l : List Int) (m : List Int) (st_ : St) : Prop := getI st_ 13 fun i => equalI_L1_I l m i ∧ SubA st_ (equalI_L1_F l m i)
def equalI_L1_S1 (l : List Int) (m : List Int) : St := ⟨26, [], [(13, (.one (.cel (.int .i64 (0 : Int))))), (12, (.one (.cel (.int .i64 (((List.length l) : Nat) : Int))))), (11, (.one (.cel (.row 0)))), (10, (.one (.cel (.bool (!(decide ((((List.length l) : Nat) : Int) = (((List.length m) : Nat) : Int)))))))), (9, (.one (.cel (.int .i64 (((List.length m) : Nat) : Int))))), (8, (.one (.cel (.row 1)))), (7, (.one (.cel (.int .i64 (((List.length l) : Nat) : Int))))), (6, (.one (.cel (.row 0)))), (4, (.one (.cel (.bool Bool.false)))), (0, (.one (.cel (.row 0)))), (1, (.one (.cel (.row 1))))], [], [⟨(.ints .i64 l), none⟩, ⟨(.ints .i64 m), none⟩], 0⟩
def equalI_L1_T (l : List Int) (m : List Int) (i : Int) : Prop := (cnd (decide (i < (((List.length l) : Nat) : Int)))
  (cnd (decide ((0 : Int) ≤ i))
    (cnd (decide (i < (((List.length l) : Nat) : Int)))
      (cnd (decide ((0 : Int) ≤ i))
        (cnd (decide (i < (((List.length m) : Nat) : Int)))
          (cnd (!(decide ((List.getD l (Int.toNat i) (0 : Int)) = (List.getD m (Int.toNat i) (0 : Int)))))
            (Bool.false = (decide (l = m)))
            ((equalI_L1_I l m (Go.IntKind.wrap Go.IntKind.i64 (i + (1 : Int)))) ∧ (((equalI_L1_m l m (Go.IntKind.wrap Go.IntKind.i64 (i + (1 : Int)))) < (equalI_L1_m l m i)) ∧ (((Go.IntKind.wrap Go.IntKind.i64 (i + (1 : Int))) = (Go.IntKind.wrap Go.IntKind.i64 (i + (1 : Int)))) ∧ (((((List.length l) : Nat) : Int) = (((List.length l) : Nat) : Int)) ∧ ((Bool.false = Bool.false) ∧ (True ∧ (True ∧ ((l = l) ∧ ((m = m) ∧ True))))))))))
          False)
        False)
      False)
    False)
  (Bool.true = (decide (l = m))))
set_option maxRecDepth 100000 in
theorem equalI_L1_tree (l : List Int) (m : List Int) (i : Int) : equalI_L1_T l m i = ex Try.prog (conOf []) (subC (bodyOf Try.f18) [1, 1, 0, 1, 0, 0]) (nextE (equalI_L1_N l m i) (kont Try.prog (conOf []) (bodyOf Try.f18) [1, 1, 0, 1, 0] (retPost Try.prog Try.f18 2 (equalI_res l m)))) (equalI_L1_F l m i) := by kernel_rfl
set_option maxRecDepth 100000 in
theorem equalI_L1_round (l : List Int) (m : List Int) (i : Int) (p0 : (decide ((l.length : Int) ≤ 1000000)) = true) (p1 : (decide ((m.length : Int) ≤ 1000000)) = true) (hI_L1 : equalI_L1_I l m i) : equalI_L1_T l m i := by
  obtain ⟨⟨a1, a2, a3⟩, a4⟩ := hI_L1
  simp only [decide_eq_true_eq] at p0 p1
  unfold equalI_L1_T
  rw [w64 (n := i + 1) (by omega) (by omega)]
  by_cases hl : i < l.length
  · have hl2 : i < (m.length : Int) := by omega
    rw [decide_eq_true hl, decide_eq_true hl2, decide_eq_true a1]
    by_cases hx : l.getD i.toNat 0 = m.getD i.toNat 0
    · rw [decide_eq_true hx]
      refine ⟨⟨⟨by omega, by omega, a3⟩, ?_⟩, ?_, by simp⟩
      · rw [take_snoc (d := 0) a1 hl, take_snoc (d := 0) a1 hl2, a4, hx]
      · unfold equalI_L1_m
        omega
    · rw [decide_eq_false hx]
      have hne : ¬ l = m := fun h => hx (by rw [h])
      exact (decide_eq_false hne).symm
  · rw [decide_eq_false hl]
    rw [List.take_of_length_le (by omega), List.take_of_length_le (by omega)] at a4
    exact (decide_eq_true a4).symm
set_option maxRecDepth 100000 in
theorem equalI_L1_entry1 (l : List Int) (m : List Int) : (((equalI_L1_I l m (0 : Int)) ∧ (((0 : Int) = (0 : Int)) ∧ (((((List.length l) : Nat) : Int) = (((List.length l) : Nat) : Int)) ∧ ((Bool.false = Bool.false) ∧ (True ∧ (True ∧ ((l = l) ∧ ((m = m) ∧ True))))))))) = equalI_L1_E l m (equalI_L1_S1 l m) := by kernel_rfl
theorem equalI_L1_1 (l : List Int) (m : List Int) (p0 : (decide ((l.length : Int) ≤ 1000000)) = true) (p1 : (decide ((m.length : Int) ≤ 1000000)) = true) (h : ((equalI_L1_I l m (0 : Int)) ∧ (((0 : Int) = (0 : Int)) ∧ (((((List.length l) : Nat) : Int) = (((List.length l) : Nat) : Int)) ∧ ((Bool.false = Bool.false) ∧ (True ∧ (True ∧ ((l = l) ∧ ((m = m) ∧ True))))))))) : LoopP (ex Try.prog (conOf []) (subC (bodyOf Try.f18) [1, 1, 0, 1, 0, 0])) (kont Try.prog (conOf []) (bodyOf Try.f18) [1, 1, 0, 1, 0] (retPost Try.prog Try.f18 2 (equalI_res l m))) (equalI_L1_S1 l m) := by
  have hE : equalI_L1_E l m (equalI_L1_S1 l m) := Eq.mp (equalI_L1_entry1 l m) h
  unfold equalI_L1_E at hE
  obtain ⟨i, hE⟩ := getI_of hE
  refine loop_of (α := (Int)) (fun xx_ => equalI_L1_F l m xx_) (fun xx_ => equalI_L1_I l m xx_) (fun xx_ => equalI_L1_m l m xx_) (fun xx_ => equalI_L1_N l m xx_) (fun xx_ => equalI_L1_T l m xx_) (fun xx_ s_ h => ?_) ⟨i, hE⟩ (fun xx_ => equalI_L1_tree l m xx_) (fun xx_ hI => equalI_L1_round l m xx_ p0 p1 hI)
  unfold equalI_L1_N at h
  obtain ⟨i, h⟩ := getI_of h
  exact ⟨i, h⟩
set_option maxRecDepth 100000 in
theorem equalI_tree (l : List Int) (m : List Int) : ((cnd (!(decide ((((List.length l) : Nat) : Int) = (((List.length m) : Nat) : Int))))
  (Bool.false = (decide (l = m)))
  (LoopP (ex Try.prog (conOf []) (subC (bodyOf Try.f18) [1, 1, 0, 1, 0, 0])) (kont Try.prog (conOf []) (bodyOf Try.f18) [1, 1, 0, 1, 0] (retPost Try.prog Try.f18 2 (equalI_res l m))) (equalI_L1_S1 l m)))) = EXD Try.prog (conOf []) Try.f18 [.cel (.row 0), .cel (.row 1)] [.ints .i64 l, .ints .i64 m] [] (equalI_res l m) := by kernel_rfl
theorem equalI_holds (l : List Int) (m : List Int) (p0 : (decide ((l.length : Int) ≤ 1000000)) = true) (p1 : (decide ((m.length : Int) ≤ 1000000)) = true) : (cnd (!(decide ((((List.length l) : Nat) : Int) = (((List.length m) : Nat) : Int))))
  (Bool.false = (decide (l = m)))
  (LoopP (ex Try.prog (conOf []) (subC (bodyOf Try.f18) [1, 1, 0, 1, 0, 0])) (kont Try.prog (conOf []) (bodyOf Try.f18) [1, 1, 0, 1, 0] (retPost Try.prog Try.f18 2 (equalI_res l m))) (equalI_L1_S1 l m))) := by
  by_cases h : l.length = m.length
  · have j : (!decide ((l.length : Int) = (m.length : Int))) = false := by simp [h]
    rw [j]
    exact equalI_L1_1 l m p0 p1 ⟨⟨⟨by omega, by omega, h⟩, by simp⟩, by simp⟩
  · have h2 : ¬ (l.length : Int) = (m.length : Int) := by omega
    have h3 : ¬ l = m := fun e => h (by rw [e])
    rw [decide_eq_false h2]
    exact (decide_eq_false h3).symm
set_option maxHeartbeats 2000000 in
theorem equalI_ok : SoundEnt Try.prog equalI_e := by
  refine ent_of_ex (Γ := (conOf [])) (conOf_sound snil) (by kernel_rfl) Try.func18 (by kernel_rfl) (by kernel_rfl) (fun args rows caps res h ho => ?_)
  change equalI_go args rows caps = some res at h
  unfold equalI_go at h
  split at h
  · simp only [Option.some.injEq] at h
    subst h
    rename_i q0_ q1_
    obtain ⟨p0, p1, _⟩ := ho
    exact EX.of (equalI_tree q0_ q1_) (equalI_holds q0_ q1_ p0 p1)
  · cases h
theorem dif_get : ∀ (l : List Int) (j : Nat), j + 1 < l.length → (dif l).getD j 0 = l.getD (j + 1) 0 - l.getD j 0
  | [], _, h => by simp at h
  | [_], _, h => by simp at h
  | a :: b :: l, 0, _ => by simp [dif]
  | a :: b :: l, j + 1, h => by
    have := dif_get (b :: l) j (by simpa using h)
    simpa [dif] using this
def periods_res (l : List Int) : CRes := ⟨[wfL .i64 l], .one (.cel (.bool (true))), []⟩
def periods_go : List TV → List RowA → List (List CV) → Option CRes := fun args rows caps =>
  match args, rows, caps with
  | [.cel (.row 0)], [.ints .i64 l], [] => some (periods_res l)
  | _, _, _ => none
def periods_e : Ent := ⟨6, [.ints .i64 []], periods_go⟩
def periods_L1_F (l : List Int) (i : Int) (s : Int) : St := ⟨74, [], [(49, (.one (.cel (.int .i64 i)))), (48, (.one (.cel (.int .i64 (((List.length (if ((vE l) = Bool.true) then (dif l) else ([] : List Int))) : Nat) : Int))))), (47, (.one (.cel (.row 1)))), (5, (.one (.cel (.int .i64 s)))), (2, (.one (.cel (.bool Bool.false)))), (0, (.one (.cel (.row 0))))], [], [⟨(.ints .i64 l), none⟩, ⟨(.ints .i64 (if ((vE l) = Bool.true) then (dif l) else ([] : List Int))), none⟩, ⟨(.ints .i64 (cond (((!(vE l)) || (!(decide ((if ((vE l) = Bool.true) then (0 : Int) else (1 : Int)) = (0 : Int))))) == Bool.false) (dif l) ([] : List Int))), none⟩], 0⟩
def periods_L1_I (l : List Int) (i : Int) (s : Int) : Prop := (vE l = true ∧ (l.length : Int) ≤ 400) ∧ (0 ≤ i ∧ i ≤ ((dif l).length : Int)) ∧ (s = l.getD i.toNat 0 - l.getD 0 0)
def periods_L1_m (l : List Int) (i : Int) (s : Int) : Nat := ((dif l).length - i).toNat
def periods_L1_N (l : List Int) (i' : Int) (s' : Int) (st_ : St) : Prop := getI st_ 49 fun i => getI st_ 5 fun s => periods_L1_I l i s ∧ periods_L1_m l i s < periods_L1_m l i' s' ∧ SubA st_ (periods_L1_F l i s)
def periods_L1_E (l : List Int) (st_ : St) : Prop := getI st_ 49 fun i => getI st_ 5 fun s => periods_L1_I l i s ∧ SubA st_ (periods_L1_F l i s)
def periods_L1_S1 (l : List Int) : St := ⟨74, [40, 36], [(49, (.one (.cel (.int .i64 (0 : Int))))), (48, (.one (.cel (.int .i64 (((List.length (if ((vE l) = Bool.true) then (dif l) else ([] : List Int))) : Nat) : Int))))), (47, (.one (.cel (.row 1)))), (5, (.one (.cel (.int .i64 (0 : Int))))), (46, (.one (.cel (.bool (((!(vE l)) || (!(decide ((if ((vE l) = Bool.true) then (0 : Int) else (1 : Int)) = (0 : Int))))) || (!(decide ((if ((vE l) = Bool.true) then (dif l) else ([] : List Int)) = (cond (((!(vE l)) || (!(decide ((if ((vE l) = Bool.true) then (0 : Int) else (1 : Int)) = (0 : Int))))) == Bool.false) (dif l) ([] : List Int)))))))))), (45, (.spec 40 Bool.false (.cel (.bool (!(decide ((if ((vE l) = Bool.true) then (dif l) else ([] : List Int)) = (cond (((!(vE l)) || (!(decide ((if ((vE l) = Bool.true) then (0 : Int) else (1 : Int)) = (0 : Int))))) == Bool.false) (dif l) ([] : List Int))))))))), (44, (.spec 40 Bool.false (.cel (.bool (decide ((if ((vE l) = Bool.true) then (dif l) else ([] : List Int)) = (cond (((!(vE l)) || (!(decide ((if ((vE l) = Bool.true) then (0 : Int) else (1 : Int)) = (0 : Int))))) == Bool.false) (dif l) ([] : List Int)))))))), (43, (.spec 40 Bool.false (.cel (.row 2)))), (42, (.spec 40 Bool.false (.cel (.row 0)))), (41, (.spec 40 Bool.false (.cel (.row 1)))), (40, (.one (.cel (.bool ((!(vE l)) || (!(decide ((if ((vE l) = Bool.true) then (0 : Int) else (1 : Int)) = (0 : Int))))))))), (39, (.one (.cel (.bool ((!(vE l)) || (!(decide ((if ((vE l) = Bool.true) then (0 : Int) else (1 : Int)) = (0 : Int))))))))), (38, (.spec 36 Bool.false (.cel (.bool (!(decide ((if ((vE l) = Bool.true) then (0 : Int) else (1 : Int)) = (0 : Int)))))))), (37, (.spec 36 Bool.false (.cel (.int .i64 (if ((vE l) = Bool.true) then (0 : Int) else (1 : Int)))))), (36, (.one (.cel (.bool (!(vE l)))))), (35, (.one (.cel (.bool (!(vE l)))))), (34, (.one (.cel (.bool (vE l))))), (33, (.one (.cel (.row 0)))), (20, (.one (.cel (.bool (!(vE l)))))), (19, (.one (.cel (.bool (vE l))))), (18, (.one (.cel (.row 0)))), (4, (.one (.cel (.int .i64 (if ((vE l) = Bool.true) then (0 : Int) else (1 : Int)))))), (3, (.one (.cel (.row 1)))), (17, (.one (.cel (.int .i64 (if ((vE l) = Bool.true) then (0 : Int) else (1 : Int)))))), (16, (.one (.cel (.row 1)))), (13, (.tup [(.cel (.row 1)), (.cel (.int .i64 (if ((vE l) = Bool.true) then (0 : Int) else (1 : Int))))])), (15, (.tup [(.cel (.row 1)), (.cel (.int .i64 (if ((vE l) = Bool.true) then (0 : Int) else (1 : Int))))])), (14, (.one (.cel (.row 0)))), (12, (.one (.cel (.bool (decide ((400 : Int) < (((List.length l) : Nat) : Int))))))), (11, (.one (.cel (.int .i64 (((List.length l) : Nat) : Int))))), (10, (.one (.cel (.row 0)))), (9, (.one (.cel (.bool (!Bool.true))))), (8, (.one (.cel (.bool Bool.true)))), (2, (.one (.cel (.bool Bool.false)))), (0, (.one (.cel (.row 0))))], [], [⟨(.ints .i64 l), none⟩, ⟨(.ints .i64 (if ((vE l) = Bool.true) then (dif l) else ([] : List Int))), none⟩, ⟨(.ints .i64 (cond (((!(vE l)) || (!(decide ((if ((vE l) = Bool.true) then (0 : Int) else (1 : Int)) = (0 : Int))))) == Bool.false) (dif l) ([] : List Int))), none⟩], 0⟩
def periods_L1_T (l : List Int) (i : Int) (s : Int) : Prop := (cnd (decide (i < (((List.length (if ((vE l) = Bool.true) then (dif l) else ([] : List Int))) : Nat) : Int)))
  (cnd (decide ((0 : Int) ≤ i))
    (cnd (decide (i < (((List.length (if ((vE l) = Bool.true) then (dif l) else ([] : List Int))) : Nat) : Int)))
      ((periods_L1_I l (Go.IntKind.wrap Go.IntKind.i64 (i + (1 : Int))) (Go.IntKind.wrap Go.IntKind.i64 (s + (List.getD (if ((vE l) = Bool.true) then (dif l) else ([] : List Int)) (Int.toNat i) (0 : Int))))) ∧ (((periods_L1_m l (Go.IntKind.wrap Go.IntKind.i64 (i + (1 : Int))) (Go.IntKind.wrap Go.IntKind.i64 (s + (List.getD (if ((vE l) = Bool.true) then (dif l) else ([] : List Int)) (Int.toNat i) (0 : Int))))) < (periods_L1_m l i s)) ∧ (((Go.IntKind.wrap Go.IntKind.i64 (i + (1 : Int))) = (Go.IntKind.wrap Go.IntKind.i64 (i + (1 : Int)))) ∧ (((((List.length (if ((vE l) = Bool.true) then (dif l) else ([] : List Int))) : Nat) : Int) = (((List.length (if ((vE l) = Bool.true) then (dif l) else ([] : List Int))) : Nat) : Int)) ∧ (True ∧ (((Go.IntKind.wrap Go.IntKind.i64 (s + (List.getD (if ((vE l) = Bool.true) then (dif l) else ([] : List Int)) (Int.toNat i) (0 : Int)))) = (Go.IntKind.wrap Go.IntKind.i64 (s + (List.getD (if ((vE l) = Bool.true) then (dif l) else ([] : List Int)) (Int.toNat i) (0 : Int))))) ∧ ((Bool.false = Bool.false) ∧ (True ∧ ((l = l) ∧ (((if ((vE l) = Bool.true) then (dif l) else ([] : List Int)) = (if ((vE l) = Bool.true) then (dif l) else ([] : List Int))) ∧ (((cond (((!(vE l)) || (!(decide ((if ((vE l) = Bool.true) then (0 : Int) else (1 : Int)) = (0 : Int))))) == Bool.false) (dif l) ([] : List Int)) = (cond (((!(vE l)) || (!(decide ((if ((vE l) = Bool.true) then (0 : Int) else (1 : Int)) = (0 : Int))))) == Bool.false) (dif l) ([] : List Int))) ∧ True)))))))))))
      False)
    False)
  (cnd ((!((decide ((((List.length l) : Nat) : Int) = (0 : Int))) == Bool.false)) || (decide ((0 : Int) ≤ (Go.IntKind.wrap Go.IntKind.i64 ((((List.length l) : Nat) : Int) - (1 : Int))))))
    (cnd ((!((decide ((((List.length l) : Nat) : Int) = (0 : Int))) == Bool.false)) || (decide ((Go.IntKind.wrap Go.IntKind.i64 ((((List.length l) : Nat) : Int) - (1 : Int))) < (((List.length l) : Nat) : Int))))
      (cnd ((!((decide ((((List.length l) : Nat) : Int) = (0 : Int))) == Bool.false)) || (decide ((0 : Int) ≤ (0 : Int))))
        (cnd ((!((decide ((((List.length l) : Nat) : Int) = (0 : Int))) == Bool.false)) || (decide ((0 : Int) < (((List.length l) : Nat) : Int))))
          (((decide ((((List.length l) : Nat) : Int) = (0 : Int))) || (decide (s = (Go.IntKind.wrap Go.IntKind.i64 ((List.getD l (Int.toNat (Go.IntKind.wrap Go.IntKind.i64 ((((List.length l) : Nat) : Int) - (1 : Int)))) (0 : Int)) - (List.getD l (Int.toNat (0 : Int)) (0 : Int))))))) = Bool.true)
          False)
        False)
      False)
    False))
set_option maxRecDepth 100000 in
theorem periods_L1_tree (l : List Int) (i : Int) (s : Int) : periods_L1_T l i s = ex Try.prog (conOf [awake_e, sValid_e, rValid_e, sPer_e, rPer_e, equalI_e]) (subC (bodyOf Try.f6) [1, 1, 1, 1, 1, 1, 1, 0, 1, 0, 0]) (nextE (periods_L1_N l i s) (kont Try.prog (conOf [awake_e, sValid_e, rValid_e, sPer_e, rPer_e, equalI_e]) (bodyOf Try.f6) [1, 1, 1, 1, 1, 1, 1, 0, 1, 0] (retPost Try.prog Try.f6 1 (periods_res l)))) (periods_L1_F l i s) := by kernel_rfl
set_option maxRecDepth 100000 in
theorem periods_L1_round (l : List Int) (i : Int) (s : Int) (p0 : (wfL .i64 l) = true) (hI_L1 : periods_L1_I l i s) : periods_L1_T l i s := by
  obtain ⟨⟨hv, a4⟩, ⟨a1, a2⟩, a3⟩ := hI_L1
  obtain ⟨v1, v2, v3⟩ := vE_iff.1 hv
  have hd := dif_len l
  unfold periods_L1_T
  simp only [hv, if_true]
  by_cases hi : i < ((dif l).length : Int)
  · have hg := dif_get l i.toNat (by omega)
    have t0 := isT_iff.1 (all_get v2 (j := 0) (by omega))
    have t1 := isT_iff.1 (all_get v2 (j := i.toNat + 1) (by omega))
    have hs : s + (dif l).getD i.toNat 0 = l.getD (i + 1).toNat 0 - l.getD 0 0 := by
      rw [hg, a3, show (i + 1).toNat = i.toNat + 1 by omega]; omega
    rw [decide_eq_true hi, decide_eq_true a1, hs, w64 (n := i + 1) (by omega) (by omega), show (i + 1).toNat = i.toNat + 1 by omega, w64 (n := l.getD (i.toNat + 1) 0 - l.getD 0 0) (by omega) (by omega)]
    refine ⟨⟨⟨hv, a4⟩, ⟨by omega, by omega⟩, by rw [show (i + 1).toNat = i.toNat + 1 by omega]⟩, ?_, by simp⟩
    unfold periods_L1_m; omega
  · rw [decide_eq_false hi]
    by_cases h0 : l.length = 0
    · have : l = [] := List.eq_nil_of_length_eq_zero h0
      subst this
      rfl
    · have t0 := isT_iff.1 (all_get v2 (j := 0) (by omega))
      have t1 := isT_iff.1 (all_get v2 (j := l.length - 1) (by omega))
      have hs : s = l.getD (l.length - 1) 0 - l.getD 0 0 := by rw [a3, show i.toNat = l.length - 1 by omega]
      have he : ((l.length : Int) - 1).toNat = l.length - 1 := by omega
      rw [w64 (n := (l.length : Int) - 1) (by omega) (by omega), he, decide_eq_true (show 0 ≤ (l.length : Int) - 1 by omega), decide_eq_true (show (l.length : Int) - 1 < l.length by omega), decide_eq_true (show (0 : Int) < l.length by omega)]
      rw [show ((0 : Int)).toNat = 0 from rfl, w64 (n := l.getD (l.length - 1) 0 - l.getD 0 0) (by omega) (by omega), hs]
      simp [cnd]
set_option maxRecDepth 100000 in
theorem periods_L1_entry1 (l : List Int) : (((periods_L1_I l (0 : Int) (0 : Int)) ∧ (((0 : Int) = (0 : Int)) ∧ (((((List.length (if ((vE l) = Bool.true) then (dif l) else ([] : List Int))) : Nat) : Int) = (((List.length (if ((vE l) = Bool.true) then (dif l) else ([] : List Int))) : Nat) : Int)) ∧ (True ∧ (((0 : Int) = (0 : Int)) ∧ ((Bool.false = Bool.false) ∧ (True ∧ ((l = l) ∧ (((if ((vE l) = Bool.true) then (dif l) else ([] : List Int)) = (if ((vE l) = Bool.true) then (dif l) else ([] : List Int))) ∧ (((cond (((!(vE l)) || (!(decide ((if ((vE l) = Bool.true) then (0 : Int) else (1 : Int)) = (0 : Int))))) == Bool.false) (dif l) ([] : List Int)) = (cond (((!(vE l)) || (!(decide ((if ((vE l) = Bool.true) then (0 : Int) else (1 : Int)) = (0 : Int))))) == Bool.false) (dif l) ([] : List Int))) ∧ True))))))))))) = periods_L1_E l (periods_L1_S1 l) := by kernel_rfl
theorem periods_L1_1 (l : List Int) (p0 : (wfL .i64 l) = true) (h : ((periods_L1_I l (0 : Int) (0 : Int)) ∧ (((0 : Int) = (0 : Int)) ∧ (((((List.length (if ((vE l) = Bool.true) then (dif l) else ([] : List Int))) : Nat) : Int) = (((List.length (if ((vE l) = Bool.true) then (dif l) else ([] : List Int))) : Nat) : Int)) ∧ (True ∧ (((0 : Int) = (0 : Int)) ∧ ((Bool.false = Bool.false) ∧ (True ∧ ((l = l) ∧ (((if ((vE l) = Bool.true) then (dif l) else ([] : List Int)) = (if ((vE l) = Bool.true) then (dif l) else ([] : List Int))) ∧ (((cond (((!(vE l)) || (!(decide ((if ((vE l) = Bool.true) then (0 : Int) else (1 : Int)) = (0 : Int))))) == Bool.false) (dif l) ([] : List Int)) = (cond (((!(vE l)) || (!(decide ((if ((vE l) = Bool.true) then (0 : Int) else (1 : Int)) = (0 : Int))))) == Bool.false) (dif l) ([] : List Int))) ∧ True))))))))))) : LoopP (ex Try.prog (conOf [awake_e, sValid_e, rValid_e, sPer_e, rPer_e, equalI_e]) (subC (bodyOf Try.f6) [1, 1, 1, 1, 1, 1, 1, 0, 1, 0, 0])) (kont Try.prog (conOf [awake_e, sValid_e, rValid_e, sPer_e, rPer_e, equalI_e]) (bodyOf Try.f6) [1, 1, 1, 1, 1, 1, 1, 0, 1, 0] (retPost Try.prog Try.f6 1 (periods_res l))) (periods_L1_S1 l) := by
  have hE : periods_L1_E l (periods_L1_S1 l) := Eq.mp (periods_L1_entry1 l) h
  unfold periods_L1_E at hE
  obtain ⟨i, hE⟩ := getI_of hE
  obtain ⟨s, hE⟩ := getI_of hE
  refine loop_of (α := (Int) × (Int)) (fun xx_ => periods_L1_F l xx_.1 xx_.2) (fun xx_ => periods_L1_I l xx_.1 xx_.2) (fun xx_ => periods_L1_m l xx_.1 xx_.2) (fun xx_ => periods_L1_N l xx_.1 xx_.2) (fun xx_ => periods_L1_T l xx_.1 xx_.2) (fun xx_ s_ h => ?_) ⟨⟨i, s⟩, hE⟩ (fun xx_ => periods_L1_tree l xx_.1 xx_.2) (fun xx_ hI => periods_L1_round l xx_.1 xx_.2 p0 hI)
  unfold periods_L1_N at h
  obtain ⟨i, h⟩ := getI_of h
  obtain ⟨s, h⟩ := getI_of h
  exact ⟨⟨i, s⟩, h⟩
set_option maxRecDepth 100000 in
theorem periods_tree (l : List Int) : ((cnd (decide ((400 : Int) < (((List.length l) : Nat) : Int)))
  (Bool.true = Bool.true)
  (cnd (!(vE l))
    ((((!(vE l)) && (decide ((if ((vE l) = Bool.true) then (0 : Int) else (1 : Int)) = (1 : Int)))) && (decide ((((List.length (if ((vE l) = Bool.true) then (dif l) else ([] : List Int))) : Nat) : Int) = (0 : Int)))) = Bool.true)
    (cnd ((!(((!(vE l)) || (!(decide ((if ((vE l) = Bool.true) then (0 : Int) else (1 : Int)) = (0 : Int))))) == Bool.false)) || (vE l))
      (cnd ((!(((!(vE l)) || (!(decide ((if ((vE l) = Bool.true) then (0 : Int) else (1 : Int)) = (0 : Int))))) == Bool.false)) || (decide ((((List.length (if ((vE l) = Bool.true) then (dif l) else ([] : List Int))) : Nat) : Int) ≤ (1000000 : Int))))
        (cnd ((!(((!(vE l)) || (!(decide ((if ((vE l) = Bool.true) then (0 : Int) else (1 : Int)) = (0 : Int))))) == Bool.false)) || (decide ((((List.length (cond (((!(vE l)) || (!(decide ((if ((vE l) = Bool.true) then (0 : Int) else (1 : Int)) = (0 : Int))))) == Bool.false) (dif l) ([] : List Int))) : Nat) : Int) ≤ (1000000 : Int))))
          (cnd (((!(vE l)) || (!(decide ((if ((vE l) = Bool.true) then (0 : Int) else (1 : Int)) = (0 : Int))))) || (!(decide ((if ((vE l) = Bool.true) then (dif l) else ([] : List Int)) = (cond (((!(vE l)) || (!(decide ((if ((vE l) = Bool.true) then (0 : Int) else (1 : Int)) = (0 : Int))))) == Bool.false) (dif l) ([] : List Int))))))
            (Bool.false = Bool.true)
            (LoopP (ex Try.prog (conOf [awake_e, sValid_e, rValid_e, sPer_e, rPer_e, equalI_e]) (subC (bodyOf Try.f6) [1, 1, 1, 1, 1, 1, 1, 0, 1, 0, 0])) (kont Try.prog (conOf [awake_e, sValid_e, rValid_e, sPer_e, rPer_e, equalI_e]) (bodyOf Try.f6) [1, 1, 1, 1, 1, 1, 1, 0, 1, 0] (retPost Try.prog Try.f6 1 (periods_res l))) (periods_L1_S1 l)))
          False)
        False)
      False)))) = EXD Try.prog (conOf [awake_e, sValid_e, rValid_e, sPer_e, rPer_e, equalI_e]) Try.f6 [.cel (.row 0)] [.ints .i64 l] [] (periods_res l) := by kernel_rfl
theorem periods_holds (l : List Int) (p0 : (wfL .i64 l) = true) : (cnd (decide ((400 : Int) < (((List.length l) : Nat) : Int)))
  (Bool.true = Bool.true)
  (cnd (!(vE l))
    ((((!(vE l)) && (decide ((if ((vE l) = Bool.true) then (0 : Int) else (1 : Int)) = (1 : Int)))) && (decide ((((List.length (if ((vE l) = Bool.true) then (dif l) else ([] : List Int))) : Nat) : Int) = (0 : Int)))) = Bool.true)
    (cnd ((!(((!(vE l)) || (!(decide ((if ((vE l) = Bool.true) then (0 : Int) else (1 : Int)) = (0 : Int))))) == Bool.false)) || (vE l))
      (cnd ((!(((!(vE l)) || (!(decide ((if ((vE l) = Bool.true) then (0 : Int) else (1 : Int)) = (0 : Int))))) == Bool.false)) || (decide ((((List.length (if ((vE l) = Bool.true) then (dif l) else ([] : List Int))) : Nat) : Int) ≤ (1000000 : Int))))
        (cnd ((!(((!(vE l)) || (!(decide ((if ((vE l) = Bool.true) then (0 : Int) else (1 : Int)) = (0 : Int))))) == Bool.false)) || (decide ((((List.length (cond (((!(vE l)) || (!(decide ((if ((vE l) = Bool.true) then (0 : Int) else (1 : Int)) = (0 : Int))))) == Bool.false) (dif l) ([] : List Int))) : Nat) : Int) ≤ (1000000 : Int))))
          (cnd (((!(vE l)) || (!(decide ((if ((vE l) = Bool.true) then (0 : Int) else (1 : Int)) = (0 : Int))))) || (!(decide ((if ((vE l) = Bool.true) then (dif l) else ([] : List Int)) = (cond (((!(vE l)) || (!(decide ((if ((vE l) = Bool.true) then (0 : Int) else (1 : Int)) = (0 : Int))))) == Bool.false) (dif l) ([] : List Int))))))
            (Bool.false = Bool.true)
            (LoopP (ex Try.prog (conOf [awake_e, sValid_e, rValid_e, sPer_e, rPer_e, equalI_e]) (subC (bodyOf Try.f6) [1, 1, 1, 1, 1, 1, 1, 0, 1, 0, 0])) (kont Try.prog (conOf [awake_e, sValid_e, rValid_e, sPer_e, rPer_e, equalI_e]) (bodyOf Try.f6) [1, 1, 1, 1, 1, 1, 1, 0, 1, 0] (retPost Try.prog Try.f6 1 (periods_res l))) (periods_L1_S1 l)))
          False)
        False)
      False))) := by
  refine cnd_i (fun _ => rfl) (fun h => ?_)
  have h4 : (l.length : Int) ≤ 400 := by simpa using h
  cases hv : vE l with
  | false => simp [cnd]
  | true =>
    have hd := dif_len l
    have j : decide (((dif l).length : Int) ≤ 1000000) = true := by rw [decide_eq_true_eq]; omega
    simp only [if_true, decide_true, Bool.not_true, Bool.or_self, beq_self_eq_true, cond_true, j, Bool.or_true]
    exact periods_L1_1 l p0 ⟨⟨⟨hv, h4⟩, ⟨by omega, by omega⟩, by simp⟩, by simp⟩
set_option maxHeartbeats 2000000 in
theorem periods_ok : SoundEnt Try.prog periods_e := by
  refine ent_of_ex (Γ := (conOf [awake_e, sValid_e, rValid_e, sPer_e, rPer_e, equalI_e])) (conOf_sound (scons awake_ok (scons sValid_ok (scons rValid_ok (scons sPer_ok (scons rPer_ok (scons equalI_ok snil))))))) (by kernel_rfl) Try.func6 (by kernel_rfl) (by kernel_rfl) (fun args rows caps res h ho => ?_)
  change periods_go args rows caps = some res at h
  unfold periods_go at h
  split at h
  · simp only [Option.some.injEq] at h
    subst h
    rename_i q0_
    obtain ⟨p0, _⟩ := ho
    exact EX.of (periods_tree q0_) (periods_holds q0_ p0)
  · cases h
end Go.Proofs.Ythfliohfkhnpiaa

