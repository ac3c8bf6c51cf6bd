/- Noise: the reference's application; the law. -/
import Derived.Test.YthfliohfkhnpiaaJi
import Derived.Test.YthfliohfkhnpiaaJh
namespace Go.Proofs.Ythfliohfkhnpiaa
set_option linter.unusedVariables false
set_option linter.unusedSimpArgs false
open Go.RowKit

theorem hasV_cons (v x : Int) (l : List Int) : hasV v (x :: l) = (decide (x = v) || hasV v l) := by
  obtain ⟨h1, _, _⟩ := ixOf_bd v l
  unfold hasV
  rw [ixOf]
  by_cases h : x = v
  · rw [if_pos h, decide_eq_true h]; rfl
  · rw [if_neg h, decide_eq_false h, Bool.false_or]
    split
    · rename_i e; rw [e]
    · rw [decide_eq_decide]; omega
theorem incr_pw : ∀ {l : List Int}, incr l = true → l.Pairwise (· < ·)
  | [], _ => .nil
  | [_], _ => by simp
  | a :: b :: l, h => by
    simp only [incr, Bool.and_eq_true, decide_eq_true_eq] at h
    have ih := incr_pw h.2
    refine List.pairwise_cons.2 ⟨fun y hy => ?_, ih⟩
    rcases List.mem_cons.1 hy with rfl | hy
    · exact h.1
    · have := (List.pairwise_cons.1 ih).1 y hy
      omega
theorem incr_lt {l : List Int} (h : incr l = true) {i j : Nat} (hij : i < j) (hj : j < l.length) : l.getD i 0 < l.getD j 0 := by
  have := List.pairwise_iff_getElem.1 (incr_pw h) i j (by omega) hj hij
  rw [List.getD_eq_getElem?_getD, List.getD_eq_getElem?_getD, List.getElem?_eq_getElem hj, List.getElem?_eq_getElem (show i < l.length by omega)]
  exact this
theorem ins_at : ∀ (l : List Int) (a : Nat) (x : Int), a ≤ l.length → (∀ j, j < a → l.getD j 0 < x) → (a < l.length → x ≤ l.getD a 0) → ins l x = if a < l.length ∧ l.getD a 0 = x then l else l.take a ++ x :: l.drop a
  | [], a, x, h, _, _ => by
    have : a = 0 := by simpa using h
    subst this
    simp [ins]
  | b :: l, 0, x, _, _, h2 => by
    have h3 := h2 (by simp)
    simp only [List.getD_cons_zero] at h3 ⊢
    rw [ins, if_neg (by omega)]
    by_cases e : b = x
    · rw [if_pos e, if_pos ⟨by simp, e⟩]
    · rw [if_neg e, if_neg (fun h => e h.2)]
      simp
  | b :: l, a + 1, x, h, h1, h2 => by
    have h3 := h1 0 (by omega)
    simp only [List.getD_cons_zero] at h3
    have ih := ins_at l a x (by simpa using h) (fun j hj => by have := h1 (j + 1) (by omega); simpa using this) (fun hl => by have := h2 (by simpa using hl); simpa using this)
    rw [ins, if_pos h3, ih]
    simp only [List.length_cons, List.getD_cons_succ, Nat.add_lt_add_iff_right, List.take_succ_cons, List.drop_succ_cons]
    split
    · rfl
    · rfl
theorem ins_len (l : List Int) (x : Int) : (ins l x).length ≤ l.length + 1 := by
  induction l with
  | nil => simp [ins]
  | cons a l ih =>
    rw [ins]
    split
    · simp only [List.length_cons]; omega
    · split
      · simp
      · simp
def rhas_res (l : List Int) (v : Int) : CRes := ⟨[decide ((l.length : Int) ≤ 1000000)], .one (.cel (.bool (hasV v l))), []⟩
def rhas_go : List TV → List RowA → List (List CV) → Option CRes := fun args rows caps =>
  match args, rows, caps with
  | [.cel (.row 0), .cel (.int .i64 v)], [.ints .i64 l], [] => some (rhas_res l v)
  | _, _, _ => none
def rhas_e : Ent := ⟨87, [.ints .i64 []], rhas_go⟩
def rhas_L1_F (l : List Int) (v : Int) (i : Int) : St := ⟨18, [], [(5, (.one (.cel (.int .i64 i)))), (4, (.one (.cel (.bool Bool.false)))), (0, (.one (.cel (.row 0)))), (1, (.one (.cel (.int .i64 v))))], [], [⟨(.ints .i64 l), none⟩], 0⟩
def rhas_L1_I (l : List Int) (v : Int) (i : Int) : Prop := (0 ≤ i ∧ i ≤ l.length) ∧ (hasV v l = hasV v (l.drop i.toNat))
def rhas_L1_m (l : List Int) (v : Int) (i : Int) : Nat := (l.length - i).toNat
def rhas_L1_N (l : List Int) (v : Int) (i' : Int) (st_ : St) : Prop := getI st_ 5 fun i => rhas_L1_I l v i ∧ rhas_L1_m l v i < rhas_L1_m l v i' ∧ SubA st_ (rhas_L1_F l v i)
def rhas_L1_E (l : List Int) (v : Int) (st_ : St) : Prop := getI st_ 5 fun i => rhas_L1_I l v i ∧ SubA st_ (rhas_L1_F l v i)
def rhas_L1_S1 (l : List Int) (v : Int) : St := ⟨18, [], [(5, (.one (.cel (.int .i64 (0 : Int))))), (4, (.one (.cel (.bool Bool.false)))), (0, (.one (.cel (.row 0)))), (1, (.one (.cel (.int .i64 v))))], [], [⟨(.ints .i64 l), none⟩], 0⟩
def rhas_L1_T (l : List Int) (v : Int) (i : Int) : Prop := (cnd (decide (i < (((List.length l) : Nat) : Int)))
  (cnd (decide ((0 : Int) ≤ i))
    (cnd (decide (i < (((List.length l) : Nat) : Int)))
      (cnd (decide ((List.getD l (Int.toNat i) (0 : Int)) = v))
        (Bool.true = (hasV v l))
        ((rhas_L1_I l v (Go.IntKind.wrap Go.IntKind.i64 (i + (1 : Int)))) ∧ (((rhas_L1_m l v (Go.IntKind.wrap Go.IntKind.i64 (i + (1 : Int)))) < (rhas_L1_m l v i)) ∧ (((Go.IntKind.wrap Go.IntKind.i64 (i + (1 : Int))) = (Go.IntKind.wrap Go.IntKind.i64 (i + (1 : Int)))) ∧ ((Bool.false = Bool.false) ∧ (True ∧ ((v = v) ∧ ((l = l) ∧ True))))))))
      False)
    False)
  (Bool.false = (hasV v l)))
set_option maxRecDepth 100000 in
theorem rhas_L1_tree (l : List Int) (v : Int) (i : Int) : rhas_L1_T l v i = ex Try.prog (conOf []) (subC (bodyOf Try.f87) [1, 0, 1, 0, 0]) (nextE (rhas_L1_N l v i) (kont Try.prog (conOf []) (bodyOf Try.f87) [1, 0, 1, 0] (retPost Try.prog Try.f87 1 (rhas_res l v)))) (rhas_L1_F l v i) := by kernel_rfl
set_option maxRecDepth 100000 in
theorem rhas_L1_round (l : List Int) (v : Int) (i : Int) (p0 : (decide ((l.length : Int) ≤ 1000000)) = true) (hI_L1 : rhas_L1_I l v i) : rhas_L1_T l v i := by
  obtain ⟨⟨a1, a2⟩, a3⟩ := hI_L1
  simp only [decide_eq_true_eq] at p0
  unfold rhas_L1_T
  by_cases hi : i < l.length
  · have hF : hasV v l = hasV v (l.drop (i.toNat + 1)) → rhas_L1_I l v (i + 1) := fun h => ⟨⟨by omega, by omega⟩, by rw [show (i + 1).toNat = i.toNat + 1 by omega]; exact h⟩
    have hμ : rhas_L1_m l v (i + 1) < rhas_L1_m l v i := by unfold rhas_L1_m; omega
    rw [drop_consI a1 hi, hasV_cons] at a3
    rw [decide_eq_true hi, decide_eq_true a1, w64 (n := i + 1) (by omega) (by omega)]
    by_cases hx : l.getD i.toNat 0 = v
    · rw [decide_eq_true hx] at a3 ⊢
      rw [a3]
      rfl
    · rw [decide_eq_false hx] at a3 ⊢
      exact ⟨hF a3, hμ, by simp⟩
  · rw [decide_eq_false hi]
    rw [List.drop_eq_nil_of_le (by omega)] at a3
    rw [a3]
    rfl
set_option maxRecDepth 100000 in
theorem rhas_L1_entry1 (l : List Int) (v : Int) : (((rhas_L1_I l v (0 : Int)) ∧ (((0 : Int) = (0 : Int)) ∧ ((Bool.false = Bool.false) ∧ (True ∧ ((v = v) ∧ ((l = l) ∧ True))))))) = rhas_L1_E l v (rhas_L1_S1 l v) := by kernel_rfl
theorem rhas_L1_1 (l : List Int) (v : Int) (p0 : (decide ((l.length : Int) ≤ 1000000)) = true) (h : ((rhas_L1_I l v (0 : Int)) ∧ (((0 : Int) = (0 : Int)) ∧ ((Bool.false = Bool.false) ∧ (True ∧ ((v = v) ∧ ((l = l) ∧ True))))))) : LoopP (ex Try.prog (conOf []) (subC (bodyOf Try.f87) [1, 0, 1, 0, 0])) (kont Try.prog (conOf []) (bodyOf Try.f87) [1, 0, 1, 0] (retPost Try.prog Try.f87 1 (rhas_res l v))) (rhas_L1_S1 l v) := by
  have hE : rhas_L1_E l v (rhas_L1_S1 l v) := Eq.mp (rhas_L1_entry1 l v) h
  unfold rhas_L1_E at hE
  obtain ⟨i, hE⟩ := getI_of hE
  refine loop_of (α := (Int)) (fun xx_ => rhas_L1_F l v xx_) (fun xx_ => rhas_L1_I l v xx_) (fun xx_ => rhas_L1_m l v xx_) (fun xx_ => rhas_L1_N l v xx_) (fun xx_ => rhas_L1_T l v xx_) (fun xx_ s_ h => ?_) ⟨i, hE⟩ (fun xx_ => rhas_L1_tree l v xx_) (fun xx_ hI => rhas_L1_round l v xx_ p0 hI)
  unfold rhas_L1_N at h
  obtain ⟨i, h⟩ := getI_of h
  exact ⟨i, h⟩
set_option maxRecDepth 100000 in
theorem rhas_tree (l : List Int) (v : Int) : ((LoopP (ex Try.prog (conOf []) (subC (bodyOf Try.f87) [1, 0, 1, 0, 0])) (kont Try.prog (conOf []) (bodyOf Try.f87) [1, 0, 1, 0] (retPost Try.prog Try.f87 1 (rhas_res l v))) (rhas_L1_S1 l v))) = EXD Try.prog (conOf []) Try.f87 [.cel (.row 0), .cel (.int .i64 v)] [.ints .i64 l] [] (rhas_res l v) := by kernel_rfl
theorem rhas_holds (l : List Int) (v : Int) (p0 : (decide ((l.length : Int) ≤ 1000000)) = true) : (LoopP (ex Try.prog (conOf []) (subC (bodyOf Try.f87) [1, 0, 1, 0, 0])) (kont Try.prog (conOf []) (bodyOf Try.f87) [1, 0, 1, 0] (retPost Try.prog Try.f87 1 (rhas_res l v))) (rhas_L1_S1 l v)) := by
  exact rhas_L1_1 l v p0 ⟨⟨⟨by omega, by omega⟩, rfl⟩, by simp⟩
set_option maxHeartbeats 2000000 in
theorem rhas_ok : SoundEnt Try.prog rhas_e := by
  refine ent_of_ex (Γ := (conOf [])) (conOf_sound snil) (by kernel_rfl) Try.func87 (by kernel_rfl) (by kernel_rfl) (fun args rows caps res h ho => ?_)
  change rhas_go args rows caps = some res at h
  unfold rhas_go at h
  split at h
  · simp only [Option.some.injEq] at h
    subst h
    rename_i q1_ q0_
    obtain ⟨p0, _⟩ := ho
    exact EX.of (rhas_tree q0_ q1_) (rhas_holds q0_ q1_ p0)
  · cases h
def rput_res (l : List Int) (x : Int) : CRes := ⟨[decide ((l.length : Int) ≤ 1000000), incr l], .one (.cel (.row 1)), [.ints .i64 (ins l x)]⟩
def rput_go : List TV → List RowA → List (List CV) → Option CRes := fun args rows caps =>
  match args, rows, caps with
  | [.cel (.row 0), .cel (.int .i64 x)], [.ints .i64 l], [] => some (rput_res l x)
  | _, _, _ => none
def rput_e : Ent := ⟨88, [.ints .i64 []], rput_go⟩
def rput_L1_F (l : List Int) (x : Int) (a : Int) : St := ⟨68, [], [(5, (.one (.cel (.int .i64 a)))), (4, (.one (.cel .nilS))), (0, (.one (.cel (.row 0)))), (1, (.one (.cel (.int .i64 x))))], [], [⟨(.ints .i64 l), none⟩], 0⟩
def rput_L1_I (l : List Int) (x : Int) (a : Int) : Prop := (0 ≤ a ∧ a ≤ l.length) ∧ (a < l.length → x ≤ l.getD a.toNat 0)
def rput_L1_m (l : List Int) (x : Int) (a : Int) : Nat := a.toNat
def rput_L1_N (l : List Int) (x : Int) (a' : Int) (st_ : St) : Prop := getI st_ 5 fun a => rput_L1_I l x a ∧ rput_L1_m l x a < rput_L1_m l x a' ∧ SubA st_ (rput_L1_F l x a)
def rput_L1_E (l : List Int) (x : Int) (st_ : St) : Prop := getI st_ 5 fun a => rput_L1_I l x a ∧ SubA st_ (rput_L1_F l x a)
def rput_L1_S1 (l : List Int) (x : Int) : St := ⟨68, [], [(5, (.one (.cel (.int .i64 (((List.length l) : Nat) : Int))))), (10, (.one (.cel (.int .i64 (((List.length l) : Nat) : Int))))), (9, (.one (.cel (.row 0)))), (4, (.one (.cel .nilS))), (0, (.one (.cel (.row 0)))), (1, (.one (.cel (.int .i64 x))))], [], [⟨(.ints .i64 l), none⟩], 0⟩
def rput_L2_F (l : List Int) (x : Int) (a : Int) (i : Int) (o : List Int) : St := ⟨68, [], [(7, (.one (.cel (.int .i64 i)))), (6, (.one (.cel (.row 1)))), (5, (.one (.cel (.int .i64 a)))), (4, (.one (.cel .nilS))), (0, (.one (.cel (.row 0)))), (1, (.one (.cel (.int .i64 x))))], [], [⟨(.ints .i64 l), none⟩, ⟨(.ints .i64 o), some 3⟩], 0⟩
def rput_L2_I (l : List Int) (x : Int) (a : Int) (i : Int) (o : List Int) : Prop := (0 ≤ i ∧ i ≤ a) ∧ (o = l.take i.toNat) ∧ (∀ j : Nat, (j : Int) < a → l.getD j 0 < x) ∧ (¬ (a < l.length ∧ l.getD a.toNat 0 = x))
def rput_L2_m (l : List Int) (x : Int) (a : Int) (i : Int) (o : List Int) : Nat := (a - i).toNat
def rput_L2_N (l : List Int) (x : Int) (a : Int) (i' : Int) (o' : List Int) (st_ : St) : Prop := getI st_ 7 fun i => getR st_ 6 fun o => rput_L2_I l x a i o ∧ rput_L2_m l x a i o < rput_L2_m l x a i' o' ∧ SubA st_ (rput_L2_F l x a i o)
def rput_L2_E (l : List Int) (x : Int) (a : Int) (st_ : St) : Prop := getI st_ 7 fun i => getR st_ 6 fun o => rput_L2_I l x a i o ∧ SubA st_ (rput_L2_F l x a i o)
def rput_L2_S1 (l : List Int) (x : Int) (a : Int) : St := ⟨68, [28, 13], [(7, (.one (.cel (.int .i64 (0 : Int))))), (6, (.one (.cel .nilS))), (35, (.one (.cel (.bool ((decide (a < (((List.length l) : Nat) : Int))) && (decide ((List.getD l (Int.toNat a) (0 : Int)) = x))))))), (34, (.spec 28 Bool.true (.cel (.bool (decide ((List.getD l (Int.toNat a) (0 : Int)) = x)))))), (33, (.spec 28 Bool.true (.cel (.int .i64 x)))), (32, (.spec 28 Bool.true (.cel (.int .i64 (List.getD l (Int.toNat a) (0 : Int)))))), (31, (.spec 28 Bool.true (.cel (.elt 0 a 1 0)))), (30, (.spec 28 Bool.true (.cel (.int .i64 a)))), (29, (.spec 28 Bool.true (.cel (.row 0)))), (28, (.one (.cel (.bool (decide (a < (((List.length l) : Nat) : Int))))))), (27, (.one (.cel (.bool (decide (a < (((List.length l) : Nat) : Int))))))), (26, (.one (.cel (.int .i64 (((List.length l) : Nat) : Int))))), (25, (.one (.cel (.row 0)))), (24, (.one (.cel (.int .i64 a)))), (21, (.one (.cel (.bool ((decide ((0 : Int) < a)) && (decide (x ≤ (List.getD l (Int.toNat (Go.IntKind.wrap Go.IntKind.i64 (a - (1 : Int)))) (0 : Int))))))))), (20, (.spec 13 Bool.true (.cel (.bool (decide (x ≤ (List.getD l (Int.toNat (Go.IntKind.wrap Go.IntKind.i64 (a - (1 : Int)))) (0 : Int)))))))), (19, (.spec 13 Bool.true (.cel (.int .i64 x)))), (18, (.spec 13 Bool.true (.cel (.int .i64 (List.getD l (Int.toNat (Go.IntKind.wrap Go.IntKind.i64 (a - (1 : Int)))) (0 : Int)))))), (17, (.spec 13 Bool.true (.cel (.elt 0 (Go.IntKind.wrap Go.IntKind.i64 (a - (1 : Int))) 1 0)))), (16, (.spec 13 Bool.true (.cel (.int .i64 (Go.IntKind.wrap Go.IntKind.i64 (a - (1 : Int))))))), (15, (.spec 13 Bool.true (.cel (.int .i64 a)))), (14, (.spec 13 Bool.true (.cel (.row 0)))), (13, (.one (.cel (.bool (decide ((0 : Int) < a)))))), (12, (.one (.cel (.bool (decide ((0 : Int) < a)))))), (11, (.one (.cel (.int .i64 a)))), (5, (.one (.cel (.int .i64 a)))), (4, (.one (.cel .nilS))), (0, (.one (.cel (.row 0)))), (1, (.one (.cel (.int .i64 x))))], [], [⟨(.ints .i64 l), none⟩], 0⟩
def rput_L3_F (l : List Int) (x : Int) (a : Int) (i : Int) (o : List Int) (k : Int) (q : List Int) : St := ⟨68, [], [(8, (.one (.cel (.int .i64 k)))), (6, (.one (.cel (.row 1)))), (4, (.one (.cel .nilS))), (0, (.one (.cel (.row 0))))], [], [⟨(.ints .i64 l), none⟩, ⟨(.ints .i64 q), some 3⟩, ⟨(.ints .i64 [x]), some 3⟩], 0⟩
def rput_L3_I (l : List Int) (x : Int) (a : Int) (i : Int) (o : List Int) (k : Int) (q : List Int) : Prop := (a ≤ k ∧ k ≤ l.length) ∧ (q ++ l.drop k.toNat = ins l x) ∧ ((q.length : Int) = k + 1)
def rput_L3_m (l : List Int) (x : Int) (a : Int) (i : Int) (o : List Int) (k : Int) (q : List Int) : Nat := (l.length - k).toNat
def rput_L3_N (l : List Int) (x : Int) (a : Int) (i : Int) (o : List Int) (k' : Int) (q' : List Int) (st_ : St) : Prop := getI st_ 8 fun k => getWR st_ 1 fun q => rput_L3_I l x a i o k q ∧ rput_L3_m l x a i o k q < rput_L3_m l x a i o k' q' ∧ SubA st_ (rput_L3_F l x a i o k q)
def rput_L3_E (l : List Int) (x : Int) (a : Int) (i : Int) (o : List Int) (st_ : St) : Prop := getI st_ 8 fun k => getWR st_ 1 fun q => rput_L3_I l x a i o k q ∧ SubA st_ (rput_L3_F l x a i o k q)
def rput_L3_S1 (l : List Int) (x : Int) (a : Int) (i : Int) (o : List Int) : St := ⟨68, [], [(8, (.one (.cel (.int .i64 a)))), (53, (.one (.cel (.int .i64 a)))), (6, (.one (.cel (.row 1)))), (52, (.one (.cel (.row 1)))), (51, (.one (.cel (.row 2)))), (50, (.one (.cel (.int .i64 x)))), (49, (.one (.cel .junk))), (39, (.one (.cel (.bool (decide (i < a)))))), (38, (.one (.cel (.int .i64 a)))), (37, (.one (.cel (.int .i64 i)))), (7, (.one (.cel (.int .i64 i)))), (6, (.one (.cel .junk))), (5, (.one (.cel (.int .i64 a)))), (4, (.one (.cel .nilS))), (0, (.one (.cel (.row 0)))), (1, (.one (.cel (.int .i64 x))))], [], [⟨(.ints .i64 l), none⟩, ⟨(.ints .i64 (o ++ [x])), some 3⟩, ⟨(.ints .i64 [x]), some 3⟩], 0⟩
def rput_L3_T (l : List Int) (x : Int) (a : Int) (i : Int) (o : List Int) (k : Int) (q : List Int) : Prop := (cnd (decide (k < (((List.length l) : Nat) : Int)))
  (cnd (decide ((0 : Int) ≤ k))
    (cnd (decide (k < (((List.length l) : Nat) : Int)))
      (cnd (decide ((List.length (q ++ [(List.getD l (Int.toNat k) (0 : Int))])) ≤ 4294967296))
        ((rput_L3_I l x a i o (Go.IntKind.wrap Go.IntKind.i64 (k + (1 : Int))) (q ++ [(List.getD l (Int.toNat k) (0 : Int))])) ∧ (((rput_L3_m l x a i o (Go.IntKind.wrap Go.IntKind.i64 (k + (1 : Int))) (q ++ [(List.getD l (Int.toNat k) (0 : Int))])) < (rput_L3_m l x a i o k q)) ∧ (((Go.IntKind.wrap Go.IntKind.i64 (k + (1 : Int))) = (Go.IntKind.wrap Go.IntKind.i64 (k + (1 : Int)))) ∧ (True ∧ (True ∧ (True ∧ ((l = l) ∧ (((q ++ [(List.getD l (Int.toNat k) (0 : Int))]) = (q ++ [(List.getD l (Int.toNat k) (0 : Int))])) ∧ (([x] = [x]) ∧ True)))))))))
        False)
      False)
    False)
  (True ∧ ((q = (ins l x)) ∧ True)))
set_option maxRecDepth 100000 in
theorem rput_L3_tree (l : List Int) (x : Int) (a : Int) (i : Int) (o : List Int) (k : Int) (q : List Int) : rput_L3_T l x a i o k q = ex Try.prog (conOf []) (subC (bodyOf Try.f88) [1, 1, 1, 1, 1, 1, 1, 0, 1, 0, 0]) (nextE (rput_L3_N l x a i o k q) (kont Try.prog (conOf []) (bodyOf Try.f88) [1, 1, 1, 1, 1, 1, 1, 0, 1, 0] (retPost Try.prog Try.f88 1 (rput_res l x)))) (rput_L3_F l x a i o k q) := by kernel_rfl
set_option maxRecDepth 100000 in
theorem rput_L3_round (l : List Int) (x : Int) (a : Int) (i : Int) (o : List Int) (k : Int) (q : List Int) (p0 : (decide ((l.length : Int) ≤ 1000000)) = true) (p1 : (incr l) = true) (hI_L1 : rput_L1_I l x a) (hI_L2 : rput_L2_I l x a i o) (hI_L3 : rput_L3_I l x a i o k q) : rput_L3_T l x a i o k q := by
  obtain ⟨⟨a1, a2⟩, a3⟩ := hI_L1
  obtain ⟨⟨b1, b2⟩, b3⟩ := hI_L3
  have hp := p0
  simp only [decide_eq_true_eq] at hp
  unfold rput_L3_T
  by_cases hi : k < l.length
  · rw [drop_consI (by omega) hi] at b3
    rw [decide_eq_true hi, decide_eq_true (show 0 ≤ k by omega), w64 (n := k + 1) (by omega) (by omega), decide_eq_true (show (q ++ [l.getD k.toNat 0]).length ≤ 4294967296 by simp; omega)]
    refine ⟨⟨⟨by omega, by omega⟩, ?_, by simp; omega⟩, by unfold rput_L3_m; omega, by simp⟩
    rw [List.append_assoc, show (k + 1).toNat = k.toNat + 1 by omega]
    exact b3.1
  · rw [decide_eq_false hi]
    rw [List.drop_eq_nil_of_le (by omega), List.append_nil] at b3
    exact ⟨trivial, b3.1, trivial⟩
set_option maxRecDepth 100000 in
theorem rput_L3_entry1 (l : List Int) (x : Int) (a : Int) (i : Int) (o : List Int) : (((rput_L3_I l x a i o a (o ++ [x])) ∧ ((a = a) ∧ (True ∧ (True ∧ (True ∧ ((l = l) ∧ (((o ++ [x]) = (o ++ [x])) ∧ (([x] = [x]) ∧ True))))))))) = rput_L3_E l x a i o (rput_L3_S1 l x a i o) := by kernel_rfl
theorem rput_L3_1 (l : List Int) (x : Int) (a : Int) (i : Int) (o : List Int) (p0 : (decide ((l.length : Int) ≤ 1000000)) = true) (p1 : (incr l) = true) (hI_L1 : rput_L1_I l x a) (hI_L2 : rput_L2_I l x a i o) (h : ((rput_L3_I l x a i o a (o ++ [x])) ∧ ((a = a) ∧ (True ∧ (True ∧ (True ∧ ((l = l) ∧ (((o ++ [x]) = (o ++ [x])) ∧ (([x] = [x]) ∧ True))))))))) : LoopP (ex Try.prog (conOf []) (subC (bodyOf Try.f88) [1, 1, 1, 1, 1, 1, 1, 0, 1, 0, 0])) (kont Try.prog (conOf []) (bodyOf Try.f88) [1, 1, 1, 1, 1, 1, 1, 0, 1, 0] (retPost Try.prog Try.f88 1 (rput_res l x))) (rput_L3_S1 l x a i o) := by
  have hE : rput_L3_E l x a i o (rput_L3_S1 l x a i o) := Eq.mp (rput_L3_entry1 l x a i o) h
  unfold rput_L3_E at hE
  obtain ⟨k, hE⟩ := getI_of hE
  obtain ⟨q, hE⟩ := getWR_of hE
  refine loop_of (α := (Int) × (List Int)) (fun xx_ => rput_L3_F l x a i o xx_.1 xx_.2) (fun xx_ => rput_L3_I l x a i o xx_.1 xx_.2) (fun xx_ => rput_L3_m l x a i o xx_.1 xx_.2) (fun xx_ => rput_L3_N l x a i o xx_.1 xx_.2) (fun xx_ => rput_L3_T l x a i o xx_.1 xx_.2) (fun xx_ s_ h => ?_) ⟨⟨k, q⟩, hE⟩ (fun xx_ => rput_L3_tree l x a i o xx_.1 xx_.2) (fun xx_ hI => rput_L3_round l x a i o xx_.1 xx_.2 p0 p1 hI_L1 hI_L2 hI)
  unfold rput_L3_N at h
  obtain ⟨k, h⟩ := getI_of h
  obtain ⟨q, h⟩ := getWR_of h
  exact ⟨⟨k, q⟩, h⟩
def rput_L2_T (l : List Int) (x : Int) (a : Int) (i : Int) (o : List Int) : Prop := (cnd (decide (i < a))
  (cnd (decide ((0 : Int) ≤ i))
    (cnd (decide (i < (((List.length l) : Nat) : Int)))
      (cnd (decide ((List.length (o ++ [(List.getD l (Int.toNat i) (0 : Int))])) ≤ 4294967296))
        ((rput_L2_I l x a (Go.IntKind.wrap Go.IntKind.i64 (i + (1 : Int))) (o ++ [(List.getD l (Int.toNat i) (0 : Int))])) ∧ (((rput_L2_m l x a (Go.IntKind.wrap Go.IntKind.i64 (i + (1 : Int))) (o ++ [(List.getD l (Int.toNat i) (0 : Int))])) < (rput_L2_m l x a i o)) ∧ (((Go.IntKind.wrap Go.IntKind.i64 (i + (1 : Int))) = (Go.IntKind.wrap Go.IntKind.i64 (i + (1 : Int)))) ∧ (True ∧ ((a = a) ∧ (True ∧ (True ∧ ((x = x) ∧ ((l = l) ∧ (((o ++ [(List.getD l (Int.toNat i) (0 : Int))]) = (o ++ [(List.getD l (Int.toNat i) (0 : Int))])) ∧ True))))))))))
        False)
      False)
    False)
  (cnd (decide ((List.length (o ++ [x])) ≤ 4294967296))
    (LoopP (ex Try.prog (conOf []) (subC (bodyOf Try.f88) [1, 1, 1, 1, 1, 1, 1, 0, 1, 0, 0])) (kont Try.prog (conOf []) (bodyOf Try.f88) [1, 1, 1, 1, 1, 1, 1, 0, 1, 0] (retPost Try.prog Try.f88 1 (rput_res l x))) (rput_L3_S1 l x a i o))
    False))
set_option maxRecDepth 100000 in
theorem rput_L2_tree (l : List Int) (x : Int) (a : Int) (i : Int) (o : List Int) : rput_L2_T l x a i o = ex Try.prog (conOf []) (subC (bodyOf Try.f88) [1, 1, 1, 1, 1, 0, 1, 0, 0]) (nextE (rput_L2_N l x a i o) (kont Try.prog (conOf []) (bodyOf Try.f88) [1, 1, 1, 1, 1, 0, 1, 0] (retPost Try.prog Try.f88 1 (rput_res l x)))) (rput_L2_F l x a i o) := by kernel_rfl
set_option maxRecDepth 100000 in
theorem rput_L2_round (l : List Int) (x : Int) (a : Int) (i : Int) (o : List Int) (p0 : (decide ((l.length : Int) ≤ 1000000)) = true) (p1 : (incr l) = true) (hI_L1 : rput_L1_I l x a) (hI_L2 : rput_L2_I l x a i o) : rput_L2_T l x a i o := by
  obtain ⟨⟨a1, a2⟩, a3⟩ := hI_L1
  obtain ⟨⟨b1, b2⟩, b3, b4, b5⟩ := hI_L2
  have hp := p0
  simp only [decide_eq_true_eq] at hp
  have hol : (o.length : Int) = i := by rw [b3, List.length_take]; omega
  unfold rput_L2_T
  by_cases hi : i < a
  · rw [decide_eq_true hi, decide_eq_true b1, decide_eq_true (show i < ((l.length : Nat) : Int) by omega), w64 (n := i + 1) (by omega) (by omega), decide_eq_true (show (o ++ [l.getD i.toNat 0]).length ≤ 4294967296 by simp; omega)]
    refine ⟨⟨⟨by omega, by omega⟩, ?_, b4, b5⟩, by unfold rput_L2_m; omega, by simp⟩
    rw [take_snoc (d := 0) b1 (by omega), b3]
  · have e : i = a := by omega
    subst e
    rw [decide_eq_false hi, decide_eq_true (show (o ++ [x]).length ≤ 4294967296 by simp; omega)]
    refine rput_L3_1 l x i i o p0 p1 ⟨⟨a1, a2⟩, a3⟩ ⟨⟨b1, b2⟩, b3, b4, b5⟩ ⟨⟨⟨by omega, by omega⟩, ?_, by simp; omega⟩, by simp⟩
    rw [ins_at l i.toNat x (by omega) (fun j hj => b4 j (by omega)) (fun h => a3 (by omega)), if_neg (fun h => b5 ⟨by omega, h.2⟩), b3]
    simp
set_option maxRecDepth 100000 in
theorem rput_L2_entry1 (l : List Int) (x : Int) (a : Int) : (((rput_L2_I l x a (0 : Int) ([] : List Int)) ∧ (((0 : Int) = (0 : Int)) ∧ (True ∧ ((a = a) ∧ (True ∧ (True ∧ ((x = x) ∧ ((l = l) ∧ ((([] : List Int) = ([] : List Int)) ∧ True)))))))))) = rput_L2_E l x a (rput_L2_S1 l x a) := by kernel_rfl
theorem rput_L2_1 (l : List Int) (x : Int) (a : Int) (p0 : (decide ((l.length : Int) ≤ 1000000)) = true) (p1 : (incr l) = true) (hI_L1 : rput_L1_I l x a) (h : ((rput_L2_I l x a (0 : Int) ([] : List Int)) ∧ (((0 : Int) = (0 : Int)) ∧ (True ∧ ((a = a) ∧ (True ∧ (True ∧ ((x = x) ∧ ((l = l) ∧ ((([] : List Int) = ([] : List Int)) ∧ True)))))))))) : LoopP (ex Try.prog (conOf []) (subC (bodyOf Try.f88) [1, 1, 1, 1, 1, 0, 1, 0, 0])) (kont Try.prog (conOf []) (bodyOf Try.f88) [1, 1, 1, 1, 1, 0, 1, 0] (retPost Try.prog Try.f88 1 (rput_res l x))) (rput_L2_S1 l x a) := by
  have hE : rput_L2_E l x a (rput_L2_S1 l x a) := Eq.mp (rput_L2_entry1 l x a) h
  unfold rput_L2_E at hE
  obtain ⟨i, hE⟩ := getI_of hE
  obtain ⟨o, hE⟩ := getR_of hE
  refine loop_of (α := (Int) × (List Int)) (fun xx_ => rput_L2_F l x a xx_.1 xx_.2) (fun xx_ => rput_L2_I l x a xx_.1 xx_.2) (fun xx_ => rput_L2_m l x a xx_.1 xx_.2) (fun xx_ => rput_L2_N l x a xx_.1 xx_.2) (fun xx_ => rput_L2_T l x a xx_.1 xx_.2) (fun xx_ s_ h => ?_) ⟨⟨i, o⟩, hE⟩ (fun xx_ => rput_L2_tree l x a xx_.1 xx_.2) (fun xx_ hI => rput_L2_round l x a xx_.1 xx_.2 p0 p1 hI_L1 hI)
  unfold rput_L2_N at h
  obtain ⟨i, h⟩ := getI_of h
  obtain ⟨o, h⟩ := getR_of h
  exact ⟨⟨i, o⟩, h⟩
def rput_L1_T (l : List Int) (x : Int) (a : Int) : Prop := (cnd ((!((decide ((0 : Int) < a)) == Bool.true)) || (decide ((0 : Int) ≤ (Go.IntKind.wrap Go.IntKind.i64 (a - (1 : Int))))))
  (cnd ((!((decide ((0 : Int) < a)) == Bool.true)) || (decide ((Go.IntKind.wrap Go.IntKind.i64 (a - (1 : Int))) < (((List.length l) : Nat) : Int))))
    (cnd ((decide ((0 : Int) < a)) && (decide (x ≤ (List.getD l (Int.toNat (Go.IntKind.wrap Go.IntKind.i64 (a - (1 : Int)))) (0 : Int)))))
      ((rput_L1_I l x (Go.IntKind.wrap Go.IntKind.i64 (a - (1 : Int)))) ∧ (((rput_L1_m l x (Go.IntKind.wrap Go.IntKind.i64 (a - (1 : Int)))) < (rput_L1_m l x a)) ∧ (((Go.IntKind.wrap Go.IntKind.i64 (a - (1 : Int))) = (Go.IntKind.wrap Go.IntKind.i64 (a - (1 : Int)))) ∧ (True ∧ (True ∧ ((x = x) ∧ ((l = l) ∧ True)))))))
      (cnd ((!((decide (a < (((List.length l) : Nat) : Int))) == Bool.true)) || (decide ((0 : Int) ≤ a)))
        (cnd ((!((decide (a < (((List.length l) : Nat) : Int))) == Bool.true)) || (decide (a < (((List.length l) : Nat) : Int))))
          (cnd ((decide (a < (((List.length l) : Nat) : Int))) && (decide ((List.getD l (Int.toNat a) (0 : Int)) = x)))
            (True ∧ ((l = (ins l x)) ∧ True))
            (LoopP (ex Try.prog (conOf []) (subC (bodyOf Try.f88) [1, 1, 1, 1, 1, 0, 1, 0, 0])) (kont Try.prog (conOf []) (bodyOf Try.f88) [1, 1, 1, 1, 1, 0, 1, 0] (retPost Try.prog Try.f88 1 (rput_res l x))) (rput_L2_S1 l x a)))
          False)
        False))
    False)
  False)
set_option maxRecDepth 100000 in
theorem rput_L1_tree (l : List Int) (x : Int) (a : Int) : rput_L1_T l x a = ex Try.prog (conOf []) (subC (bodyOf Try.f88) [1, 1, 0, 0, 0]) (nextE (rput_L1_N l x a) (kont Try.prog (conOf []) (bodyOf Try.f88) [1, 1, 0, 0] (retPost Try.prog Try.f88 1 (rput_res l x)))) (rput_L1_F l x a) := by kernel_rfl
set_option maxRecDepth 100000 in
theorem rput_L1_round (l : List Int) (x : Int) (a : Int) (p0 : (decide ((l.length : Int) ≤ 1000000)) = true) (p1 : (incr l) = true) (hI_L1 : rput_L1_I l x a) : rput_L1_T l x a := by
  obtain ⟨⟨a1, a2⟩, a3⟩ := hI_L1
  have hp := p0
  simp only [decide_eq_true_eq] at hp
  unfold rput_L1_T
  have hF : 0 < a → x ≤ l.getD (a - 1).toNat 0 → rput_L1_I l x (a - 1) := fun h1 h2 => ⟨⟨by omega, by omega⟩, fun _ => h2⟩
  have hμ : 0 < a → rput_L1_m l x (a - 1) < rput_L1_m l x a := fun h => by unfold rput_L1_m; omega
  rw [w64 (n := a - 1) (by omega) (by omega)]
  by_cases h0 : 0 < a
  · rw [decide_eq_true h0, decide_eq_true (show 0 ≤ a - 1 by omega), decide_eq_true (show a - 1 < ((l.length : Nat) : Int) by omega)]
    by_cases hx : x ≤ l.getD (a - 1).toNat 0
    · rw [decide_eq_true hx]
      exact ⟨hF h0 hx, hμ h0, by simp⟩
    · rw [decide_eq_false hx]
      have hlt : ∀ j : Nat, (j : Int) < a → l.getD j 0 < x := fun j hj => by
        by_cases e : j = (a - 1).toNat
        · rw [e]; omega
        · have := incr_lt p1 (i := j) (j := (a - 1).toNat) (by omega) (by omega)
          omega
      by_cases hl : a < l.length
      · rw [decide_eq_true hl, decide_eq_true a1]
        by_cases he : l.getD a.toNat 0 = x
        · rw [decide_eq_true he]
          refine ⟨trivial, ?_, trivial⟩
          rw [ins_at l a.toNat x (by omega) (fun j hj => hlt j (by omega)) (fun _ => a3 hl), if_pos ⟨by omega, he⟩]
        · rw [decide_eq_false he]
          refine rput_L2_1 l x a p0 p1 ⟨⟨a1, a2⟩, a3⟩ ⟨⟨⟨by omega, by omega⟩, by simp, hlt, fun h => he h.2⟩, by simp⟩
      · rw [decide_eq_false hl]
        refine rput_L2_1 l x a p0 p1 ⟨⟨a1, a2⟩, a3⟩ ⟨⟨⟨by omega, by omega⟩, by simp, hlt, fun h => hl h.1⟩, by simp⟩
  · rw [decide_eq_false h0]
    have hlt : ∀ j : Nat, (j : Int) < a → l.getD j 0 < x := fun j hj => by omega
    by_cases hl : a < l.length
    · rw [decide_eq_true hl, decide_eq_true a1]
      by_cases he : l.getD a.toNat 0 = x
      · rw [decide_eq_true he]
        refine ⟨trivial, ?_, trivial⟩
        rw [ins_at l a.toNat x (by omega) (fun j hj => hlt j (by omega)) (fun _ => a3 hl), if_pos ⟨by omega, he⟩]
      · rw [decide_eq_false he]
        refine rput_L2_1 l x a p0 p1 ⟨⟨a1, a2⟩, a3⟩ ⟨⟨⟨by omega, by omega⟩, by simp, hlt, fun h => he h.2⟩, by simp⟩
    · rw [decide_eq_false hl]
      refine rput_L2_1 l x a p0 p1 ⟨⟨a1, a2⟩, a3⟩ ⟨⟨⟨by omega, by omega⟩, by simp, hlt, fun h => hl h.1⟩, by simp⟩
set_option maxRecDepth 100000 in
theorem rput_L1_entry1 (l : List Int) (x : Int) : (((rput_L1_I l x (((List.length l) : Nat) : Int)) ∧ (((((List.length l) : Nat) : Int) = (((List.length l) : Nat) : Int)) ∧ (True ∧ (True ∧ ((x = x) ∧ ((l = l) ∧ True))))))) = rput_L1_E l x (rput_L1_S1 l x) := by kernel_rfl
theorem rput_L1_1 (l : List Int) (x : Int) (p0 : (decide ((l.length : Int) ≤ 1000000)) = true) (p1 : (incr l) = true) (h : ((rput_L1_I l x (((List.length l) : Nat) : Int)) ∧ (((((List.length l) : Nat) : Int) = (((List.length l) : Nat) : Int)) ∧ (True ∧ (True ∧ ((x = x) ∧ ((l = l) ∧ True))))))) : LoopP (ex Try.prog (conOf []) (subC (bodyOf Try.f88) [1, 1, 0, 0, 0])) (kont Try.prog (conOf []) (bodyOf Try.f88) [1, 1, 0, 0] (retPost Try.prog Try.f88 1 (rput_res l x))) (rput_L1_S1 l x) := by
  have hE : rput_L1_E l x (rput_L1_S1 l x) := Eq.mp (rput_L1_entry1 l x) h
  unfold rput_L1_E at hE
  obtain ⟨a, hE⟩ := getI_of hE
  refine loop_of (α := (Int)) (fun xx_ => rput_L1_F l x xx_) (fun xx_ => rput_L1_I l x xx_) (fun xx_ => rput_L1_m l x xx_) (fun xx_ => rput_L1_N l x xx_) (fun xx_ => rput_L1_T l x xx_) (fun xx_ s_ h => ?_) ⟨a, hE⟩ (fun xx_ => rput_L1_tree l x xx_) (fun xx_ hI => rput_L1_round l x xx_ p0 p1 hI)
  unfold rput_L1_N at h
  obtain ⟨a, h⟩ := getI_of h
  exact ⟨a, h⟩
set_option maxRecDepth 100000 in
theorem rput_tree (l : List Int) (x : Int) : ((LoopP (ex Try.prog (conOf []) (subC (bodyOf Try.f88) [1, 1, 0, 0, 0])) (kont Try.prog (conOf []) (bodyOf Try.f88) [1, 1, 0, 0] (retPost Try.prog Try.f88 1 (rput_res l x))) (rput_L1_S1 l x))) = EXD Try.prog (conOf []) Try.f88 [.cel (.row 0), .cel (.int .i64 x)] [.ints .i64 l] [] (rput_res l x) := by kernel_rfl
theorem rput_holds (l : List Int) (x : Int) (p0 : (decide ((l.length : Int) ≤ 1000000)) = true) (p1 : (incr l) = true) : (LoopP (ex Try.prog (conOf []) (subC (bodyOf Try.f88) [1, 1, 0, 0, 0])) (kont Try.prog (conOf []) (bodyOf Try.f88) [1, 1, 0, 0] (retPost Try.prog Try.f88 1 (rput_res l x))) (rput_L1_S1 l x)) := by
  simp only [decide_eq_true_eq] at p0
  exact rput_L1_1 l x (decide_eq_true p0) p1 ⟨⟨⟨by omega, by omega⟩, fun h => by omega⟩, by simp⟩
set_option maxHeartbeats 2000000 in
theorem rput_ok : SoundEnt Try.prog rput_e := by
  refine ent_of_ex (Γ := (conOf [])) (conOf_sound snil) (by kernel_rfl) Try.func88 (by kernel_rfl) (by kernel_rfl) (fun args rows caps res h ho => ?_)
  change rput_go args rows caps = some res at h
  unfold rput_go at h
  split at h
  · simp only [Option.some.injEq] at h
    subst h
    rename_i q1_ q0_
    obtain ⟨p0, p1, _⟩ := ho
    exact EX.of (rput_tree q0_ q1_) (rput_holds q0_ q1_ p0 p1)
  · cases h
theorem ap_two {l j d u : List Int} (w1 : vE l = true) (w2 : lngB j d u = false) (h : badN l j d = true ∨ (rawL l j d u).all isT = false) : apE l j d u = 2 := by
  unfold apE
  rw [if_pos w1, w2]
  rcases h with h | h
  · rw [h]; rfl
  · rw [h]; cases badN l j d <;> rfl
theorem ap_ok {l j d u : List Int} (w1 : vE l = true) (w2 : lngB j d u = false) (w3 : badN l j d = false) (h : (rawL l j d u).all isT = true) : apE l j d u = if 1000 < (nrm (rawL l j d u)).length then 5 else 0 := by
  unfold apE
  rw [if_pos w1, w2, w3, h]
  rfl
theorem incr_ins {o : List Int} (h : incr o = true) (x : Int) : incr (ins o x) = true := incr_of (ins_asc o x (incr_pw h))
def rapply_res (l : List Int) (j : List Int) (d : List Int) (u : List Int) : CRes := ⟨[], .tup [.cel (.row 4), .cel (.int .i64 (apE l j d u))], [.ints .i64 (apL l j d u)]⟩
def rapply_go : List TV → List RowA → List (List CV) → Option CRes := fun args rows caps =>
  match args, rows, caps with
  | [.cel (.row 0), .agg [.row 1, .row 2, .row 3]], [.ints .i64 l, .ints .i64 j, .ints .i64 d, .ints .i64 u], [] => some (rapply_res l j d u)
  | _, _, _ => none
def rapply_e : Ent := ⟨36, [.ints .i64 [], .ints .i64 [], .ints .i64 [], .ints .i64 []], rapply_go⟩
def rapply_L1_F (l : List Int) (j : List Int) (d : List Int) (u : List Int) (q : Int) : St := ⟨83, [], [(6, (.one (.cel (.int .i64 q)))), (5, (.one (.cel (.int .i64 (0 : Int))))), (4, (.one (.cel .nilS))), (3, (.one (.cel (.ptr 0 0)))), (0, (.one (.cel (.row 0))))], [[(.row 1), (.row 2), (.row 3)]], [⟨(.ints .i64 l), none⟩, ⟨(.ints .i64 j), none⟩, ⟨(.ints .i64 d), none⟩, ⟨(.ints .i64 u), none⟩], 0⟩
def rapply_L1_I (l : List Int) (j : List Int) (d : List Int) (u : List Int) (q : Int) : Prop := (vE l = true ∧ lngB j d u = false ∧ j.all isJ = true ∧ u.all isT = true) ∧ (0 ≤ q ∧ q ≤ d.length) ∧ (d.any (fun x => outB l.length x) = (d.drop q.toNat).any (fun x => outB l.length x))
def rapply_L1_m (l : List Int) (j : List Int) (d : List Int) (u : List Int) (q : Int) : Nat := (d.length - q).toNat
def rapply_L1_N (l : List Int) (j : List Int) (d : List Int) (u : List Int) (q' : Int) (st_ : St) : Prop := getI st_ 6 fun q => rapply_L1_I l j d u q ∧ rapply_L1_m l j d u q < rapply_L1_m l j d u q' ∧ SubA st_ (rapply_L1_F l j d u q)
def rapply_L1_E (l : List Int) (j : List Int) (d : List Int) (u : List Int) (st_ : St) : Prop := getI st_ 6 fun q => rapply_L1_I l j d u q ∧ SubA st_ (rapply_L1_F l j d u q)
def rapply_L1_S1 (l : List Int) (j : List Int) (d : List Int) (u : List Int) : St := ⟨83, [], [(6, (.one (.cel (.int .i64 (0 : Int))))), (17, (.one (.cel (.bool (!((List.all j isJ) && (List.all u isT))))))), (16, (.one (.agg [(.row 1), (.row 2), (.row 3)]))), (15, (.one (.cel (.bool (lngB j d u))))), (14, (.one (.agg [(.row 1), (.row 2), (.row 3)]))), (13, (.one (.cel (.bool (!(vE l)))))), (12, (.one (.cel (.bool (vE l))))), (11, (.one (.cel (.row 0)))), (5, (.one (.cel (.int .i64 (0 : Int))))), (4, (.one (.cel .nilS))), (3, (.one (.cel (.ptr 0 0)))), (0, (.one (.cel (.row 0)))), (1, (.one (.agg [(.row 1), (.row 2), (.row 3)])))], [[(.row 1), (.row 2), (.row 3)]], [⟨(.ints .i64 l), none⟩, ⟨(.ints .i64 j), none⟩, ⟨(.ints .i64 d), none⟩, ⟨(.ints .i64 u), none⟩], 0⟩
def rapply_L2_F (l : List Int) (j : List Int) (d : List Int) (u : List Int) (q : Int) (i : Int) (o : List Int) : St := ⟨83, [], [(8, (.one (.cel (.int .i64 i)))), (7, (.one (.cel (.row 4)))), (5, (.one (.cel (.int .i64 (0 : Int))))), (4, (.one (.cel .nilS))), (3, (.one (.cel (.ptr 0 0)))), (0, (.one (.cel (.row 0))))], [[(.row 1), (.row 2), (.row 3)]], [⟨(.ints .i64 l), none⟩, ⟨(.ints .i64 j), none⟩, ⟨(.ints .i64 d), none⟩, ⟨(.ints .i64 u), none⟩, ⟨(.ints .i64 o), none⟩], 0⟩
def rapply_L2_I (l : List Int) (j : List Int) (d : List Int) (u : List Int) (q : Int) (i : Int) (o : List Int) : Prop := (d.any (fun x => outB l.length x) = false) ∧ (0 ≤ i ∧ i ≤ l.length) ∧ (nrm (kpt j d 0 l) = (kpt j d i (l.drop i.toNat)).foldl ins o) ∧ ((kpt j d 0 l).all isT = (kpt j d i (l.drop i.toNat)).all isT) ∧ (incr o = true ∧ (o.length : Int) ≤ i)
def rapply_L2_m (l : List Int) (j : List Int) (d : List Int) (u : List Int) (q : Int) (i : Int) (o : List Int) : Nat := (l.length - i).toNat
def rapply_L2_N (l : List Int) (j : List Int) (d : List Int) (u : List Int) (q : Int) (i' : Int) (o' : List Int) (st_ : St) : Prop := getI st_ 8 fun i => getR st_ 7 fun o => rapply_L2_I l j d u q i o ∧ rapply_L2_m l j d u q i o < rapply_L2_m l j d u q i' o' ∧ SubA st_ (rapply_L2_F l j d u q i o)
def rapply_L2_E (l : List Int) (j : List Int) (d : List Int) (u : List Int) (q : Int) (st_ : St) : Prop := getI st_ 8 fun i => getR st_ 7 fun o => rapply_L2_I l j d u q i o ∧ SubA st_ (rapply_L2_F l j d u q i o)
def rapply_L2_S1 (l : List Int) (j : List Int) (d : List Int) (u : List Int) (q : Int) : St := ⟨83, [], [(8, (.one (.cel (.int .i64 (0 : Int))))), (7, (.one (.cel .nilS))), (22, (.one (.cel (.bool (decide (q < (((List.length d) : Nat) : Int))))))), (21, (.one (.cel (.int .i64 (((List.length d) : Nat) : Int))))), (20, (.one (.cel (.row 2)))), (19, (.one (.cel (.ptr 0 1)))), (18, (.one (.cel (.int .i64 q)))), (6, (.one (.cel (.int .i64 q)))), (5, (.one (.cel (.int .i64 (0 : Int))))), (4, (.one (.cel .nilS))), (3, (.one (.cel (.ptr 0 0)))), (0, (.one (.cel (.row 0))))], [[(.row 1), (.row 2), (.row 3)]], [⟨(.ints .i64 l), none⟩, ⟨(.ints .i64 j), none⟩, ⟨(.ints .i64 d), none⟩, ⟨(.ints .i64 u), none⟩], 0⟩
def rapply_L3_F (l : List Int) (j : List Int) (d : List Int) (u : List Int) (q : Int) (i : Int) (o : List Int) (k : Int) (r : List Int) : St := ⟨83, [], [(10, (.one (.cel (.int .i64 k)))), (7, (.one (.cel (.row 5)))), (5, (.one (.cel (.int .i64 (0 : Int))))), (4, (.one (.cel .nilS))), (3, (.one (.cel (.ptr 0 0))))], [[(.row 1), (.row 2), (.row 3)]], [⟨(.ints .i64 l), none⟩, ⟨(.ints .i64 j), none⟩, ⟨(.ints .i64 d), none⟩, ⟨(.ints .i64 u), none⟩, ⟨(.ints .i64 o), none⟩, ⟨(.ints .i64 r), none⟩], 0⟩
def rapply_L3_I (l : List Int) (j : List Int) (d : List Int) (u : List Int) (q : Int) (i : Int) (o : List Int) (k : Int) (r : List Int) : Prop := ((kpt j d 0 l).all isT = true) ∧ (0 ≤ k ∧ k ≤ u.length) ∧ (nrm (rawL l j d u) = (u.drop k.toNat).foldl ins r) ∧ (incr r = true ∧ (r.length : Int) ≤ 1000 + k)
def rapply_L3_m (l : List Int) (j : List Int) (d : List Int) (u : List Int) (q : Int) (i : Int) (o : List Int) (k : Int) (r : List Int) : Nat := (u.length - k).toNat
def rapply_L3_N (l : List Int) (j : List Int) (d : List Int) (u : List Int) (q : Int) (i : Int) (o : List Int) (k' : Int) (r' : List Int) (st_ : St) : Prop := getI st_ 10 fun k => getR st_ 7 fun r => rapply_L3_I l j d u q i o k r ∧ rapply_L3_m l j d u q i o k r < rapply_L3_m l j d u q i o k' r' ∧ SubA st_ (rapply_L3_F l j d u q i o k r)
def rapply_L3_E (l : List Int) (j : List Int) (d : List Int) (u : List Int) (q : Int) (i : Int) (o : List Int) (st_ : St) : Prop := getI st_ 10 fun k => getR st_ 7 fun r => rapply_L3_I l j d u q i o k r ∧ SubA st_ (rapply_L3_F l j d u q i o k r)
def rapply_L3_S1 (l : List Int) (j : List Int) (d : List Int) (u : List Int) (q : Int) (i : Int) (o : List Int) : St := ⟨83, [], [(10, (.one (.cel (.int .i64 (0 : Int))))), (44, (.one (.cel (.bool (decide (i < (((List.length l) : Nat) : Int))))))), (43, (.one (.cel (.int .i64 (((List.length l) : Nat) : Int))))), (42, (.one (.cel (.row 0)))), (41, (.one (.cel (.int .i64 i)))), (8, (.one (.cel (.int .i64 i)))), (7, (.one (.cel (.row 4)))), (5, (.one (.cel (.int .i64 (0 : Int))))), (4, (.one (.cel .nilS))), (3, (.one (.cel (.ptr 0 0)))), (0, (.one (.cel (.row 0))))], [[(.row 1), (.row 2), (.row 3)]], [⟨(.ints .i64 l), none⟩, ⟨(.ints .i64 j), none⟩, ⟨(.ints .i64 d), none⟩, ⟨(.ints .i64 u), none⟩, ⟨(.ints .i64 o), none⟩], 0⟩
def rapply_L3_T (l : List Int) (j : List Int) (d : List Int) (u : List Int) (q : Int) (i : Int) (o : List Int) (k : Int) (r : List Int) : Prop := (cnd (decide (k < (((List.length u) : Nat) : Int)))
  (cnd (decide ((0 : Int) ≤ k))
    (cnd (decide (k < (((List.length u) : Nat) : Int)))
      (cnd (decide ((((List.length r) : Nat) : Int) ≤ (1000000 : Int)))
        (cnd (incr r)
          ((rapply_L3_I l j d u q i o (Go.IntKind.wrap Go.IntKind.i64 (k + (1 : Int))) (ins r (List.getD u (Int.toNat k) (0 : Int)))) ∧ (((rapply_L3_m l j d u q i o (Go.IntKind.wrap Go.IntKind.i64 (k + (1 : Int))) (ins r (List.getD u (Int.toNat k) (0 : Int)))) < (rapply_L3_m l j d u q i o k r)) ∧ (((Go.IntKind.wrap Go.IntKind.i64 (k + (1 : Int))) = (Go.IntKind.wrap Go.IntKind.i64 (k + (1 : Int)))) ∧ (True ∧ (((0 : Int) = (0 : Int)) ∧ (True ∧ (True ∧ ((True ∧ (True ∧ True)) ∧ ((l = l) ∧ ((j = j) ∧ ((d = d) ∧ ((u = u) ∧ ((o = o) ∧ (((ins r (List.getD u (Int.toNat k) (0 : Int))) = (ins r (List.getD u (Int.toNat k) (0 : Int)))) ∧ True))))))))))))))
          False)
        False)
      False)
    False)
  (cnd (decide ((1000 : Int) < (((List.length r) : Nat) : Int)))
    ((True ∧ ((5 : Int) = (apE l j d u))) ∧ (((apL l j d u) = ([] : List Int)) ∧ True))
    ((True ∧ ((0 : Int) = (apE l j d u))) ∧ ((r = (apL l j d u)) ∧ True))))
set_option maxRecDepth 100000 in
theorem rapply_L3_tree (l : List Int) (j : List Int) (d : List Int) (u : List Int) (q : Int) (i : Int) (o : List Int) (k : Int) (r : List Int) : rapply_L3_T l j d u q i o k r = ex Try.prog (conOf [rValid_e, rlong_e, rfar_e, rhas_e, rmoved_e, rtime18_e, rput_e]) (subC (bodyOf Try.f36) [1, 1, 1, 1, 1, 1, 1, 0, 1, 0, 0]) (nextE (rapply_L3_N l j d u q i o k r) (kont Try.prog (conOf [rValid_e, rlong_e, rfar_e, rhas_e, rmoved_e, rtime18_e, rput_e]) (bodyOf Try.f36) [1, 1, 1, 1, 1, 1, 1, 0, 1, 0] (retPost Try.prog Try.f36 4 (rapply_res l j d u)))) (rapply_L3_F l j d u q i o k r) := by kernel_rfl
set_option maxRecDepth 100000 in
theorem rapply_L3_round (l : List Int) (j : List Int) (d : List Int) (u : List Int) (q : Int) (i : Int) (o : List Int) (k : Int) (r : List Int) (hI_L1 : rapply_L1_I l j d u q) (hI_L2 : rapply_L2_I l j d u q i o) (hI_L3 : rapply_L3_I l j d u q i o k r) : rapply_L3_T l j d u q i o k r := by
  obtain ⟨⟨w1, w2, w3, w4⟩, wx⟩ := hI_L1
  obtain ⟨b1, _⟩ := hI_L2
  obtain ⟨c1, ⟨c2, c3⟩, c4, c5, c6⟩ := hI_L3
  have hlen : j.length ≤ 1000 ∧ d.length ≤ 1000 ∧ u.length ≤ 1000 := by
    have h := w2
    unfold lngB at h
    simp only [Bool.or_eq_false_iff, decide_eq_false_iff_not] at h
    omega
  have hbad : badN l j d = false := by unfold badN; rw [w3, b1]; rfl
  unfold rapply_L3_T
  by_cases hi : k < u.length
  · rw [drop_consI c2 hi, List.foldl_cons] at c4
    have hil := ins_len r (u.getD k.toNat 0)
    rw [decide_eq_true hi, decide_eq_true c2, w64 (n := k + 1) (by omega) (by omega), decide_eq_true (show (r.length : Int) ≤ 1000000 by omega), c5]
    exact ⟨⟨c1, ⟨by omega, by omega⟩, by rw [show (k + 1).toNat = k.toNat + 1 by omega]; exact c4, incr_ins c5 _, by omega⟩, by unfold rapply_L3_m; omega, by simp⟩
  · rw [decide_eq_false hi]
    rw [List.drop_eq_nil_of_le (by omega), List.foldl_nil] at c4
    have hall : (rawL l j d u).all isT = true := by unfold rawL; rw [List.all_append, c1, w4]; rfl
    have hE := ap_ok w1 w2 hbad hall
    rw [c4] at hE
    by_cases hn : (1000 : Int) < r.length
    · rw [if_pos (by omega)] at hE
      rw [decide_eq_true hn]
      exact ⟨⟨trivial, hE.symm⟩, by unfold apL; rw [hE]; rfl, trivial⟩
    · rw [if_neg (by omega)] at hE
      rw [decide_eq_false hn]
      exact ⟨⟨trivial, hE.symm⟩, by unfold apL; rw [hE, if_pos rfl, c4], trivial⟩
set_option maxRecDepth 100000 in
theorem rapply_L3_entry1 (l : List Int) (j : List Int) (d : List Int) (u : List Int) (q : Int) (i : Int) (o : List Int) : (((rapply_L3_I l j d u q i o (0 : Int) o) ∧ (((0 : Int) = (0 : Int)) ∧ (True ∧ (((0 : Int) = (0 : Int)) ∧ (True ∧ (True ∧ ((True ∧ (True ∧ True)) ∧ ((l = l) ∧ ((j = j) ∧ ((d = d) ∧ ((u = u) ∧ ((o = o) ∧ ((o = o) ∧ True)))))))))))))) = rapply_L3_E l j d u q i o (rapply_L3_S1 l j d u q i o) := by kernel_rfl
theorem rapply_L3_1 (l : List Int) (j : List Int) (d : List Int) (u : List Int) (q : Int) (i : Int) (o : List Int) (hI_L1 : rapply_L1_I l j d u q) (hI_L2 : rapply_L2_I l j d u q i o) (h : ((rapply_L3_I l j d u q i o (0 : Int) o) ∧ (((0 : Int) = (0 : Int)) ∧ (True ∧ (((0 : Int) = (0 : Int)) ∧ (True ∧ (True ∧ ((True ∧ (True ∧ True)) ∧ ((l = l) ∧ ((j = j) ∧ ((d = d) ∧ ((u = u) ∧ ((o = o) ∧ ((o = o) ∧ True)))))))))))))) : LoopP (ex Try.prog (conOf [rValid_e, rlong_e, rfar_e, rhas_e, rmoved_e, rtime18_e, rput_e]) (subC (bodyOf Try.f36) [1, 1, 1, 1, 1, 1, 1, 0, 1, 0, 0])) (kont Try.prog (conOf [rValid_e, rlong_e, rfar_e, rhas_e, rmoved_e, rtime18_e, rput_e]) (bodyOf Try.f36) [1, 1, 1, 1, 1, 1, 1, 0, 1, 0] (retPost Try.prog Try.f36 4 (rapply_res l j d u))) (rapply_L3_S1 l j d u q i o) := by
  have hE : rapply_L3_E l j d u q i o (rapply_L3_S1 l j d u q i o) := Eq.mp (rapply_L3_entry1 l j d u q i o) h
  unfold rapply_L3_E at hE
  obtain ⟨k, hE⟩ := getI_of hE
  obtain ⟨r, hE⟩ := getR_of hE
  refine loop_of (α := (Int) × (List Int)) (fun xx_ => rapply_L3_F l j d u q i o xx_.1 xx_.2) (fun xx_ => rapply_L3_I l j d u q i o xx_.1 xx_.2) (fun xx_ => rapply_L3_m l j d u q i o xx_.1 xx_.2) (fun xx_ => rapply_L3_N l j d u q i o xx_.1 xx_.2) (fun xx_ => rapply_L3_T l j d u q i o xx_.1 xx_.2) (fun xx_ s_ h => ?_) ⟨⟨k, r⟩, hE⟩ (fun xx_ => rapply_L3_tree l j d u q i o xx_.1 xx_.2) (fun xx_ hI => rapply_L3_round l j d u q i o xx_.1 xx_.2 hI_L1 hI_L2 hI)
  unfold rapply_L3_N at h
  obtain ⟨k, h⟩ := getI_of h
  obtain ⟨r, h⟩ := getR_of h
  exact ⟨⟨k, r⟩, h⟩
def rapply_L2_T (l : List Int) (j : List Int) (d : List Int) (u : List Int) (q : Int) (i : Int) (o : List Int) : Prop := (cnd (decide (i < (((List.length l) : Nat) : Int)))
  (cnd (decide ((((List.length d) : Nat) : Int) ≤ (1000000 : Int)))
    (cnd (hasV i d)
      ((rapply_L2_I l j d u q (Go.IntKind.wrap Go.IntKind.i64 (i + (1 : Int))) o) ∧ (((rapply_L2_m l j d u q (Go.IntKind.wrap Go.IntKind.i64 (i + (1 : Int))) o) < (rapply_L2_m l j d u q i o)) ∧ (((Go.IntKind.wrap Go.IntKind.i64 (i + (1 : Int))) = (Go.IntKind.wrap Go.IntKind.i64 (i + (1 : Int)))) ∧ (True ∧ (((0 : Int) = (0 : Int)) ∧ (True ∧ (True ∧ (True ∧ ((True ∧ (True ∧ True)) ∧ ((l = l) ∧ ((j = j) ∧ ((d = d) ∧ ((u = u) ∧ ((o = o) ∧ True))))))))))))))
      (cnd (decide ((0 : Int) ≤ i))
        (cnd (decide (i < (((List.length l) : Nat) : Int)))
          (cnd (decide ((0 : Int) ≤ i))
            (cnd (!(isT (Go.IntKind.wrap Go.IntKind.i64 ((List.getD l (Int.toNat i) (0 : Int)) + (mvd j i)))))
              ((True ∧ ((2 : Int) = (apE l j d u))) ∧ (((apL l j d u) = ([] : List Int)) ∧ True))
              (cnd (decide ((((List.length o) : Nat) : Int) ≤ (1000000 : Int)))
                (cnd (incr o)
                  ((rapply_L2_I l j d u q (Go.IntKind.wrap Go.IntKind.i64 (i + (1 : Int))) (ins o (Go.IntKind.wrap Go.IntKind.i64 ((List.getD l (Int.toNat i) (0 : Int)) + (mvd j i))))) ∧ (((rapply_L2_m l j d u q (Go.IntKind.wrap Go.IntKind.i64 (i + (1 : Int))) (ins o (Go.IntKind.wrap Go.IntKind.i64 ((List.getD l (Int.toNat i) (0 : Int)) + (mvd j i))))) < (rapply_L2_m l j d u q i o)) ∧ (((Go.IntKind.wrap Go.IntKind.i64 (i + (1 : Int))) = (Go.IntKind.wrap Go.IntKind.i64 (i + (1 : Int)))) ∧ (True ∧ (((0 : Int) = (0 : Int)) ∧ (True ∧ (True ∧ (True ∧ ((True ∧ (True ∧ True)) ∧ ((l = l) ∧ ((j = j) ∧ ((d = d) ∧ ((u = u) ∧ (((ins o (Go.IntKind.wrap Go.IntKind.i64 ((List.getD l (Int.toNat i) (0 : Int)) + (mvd j i)))) = (ins o (Go.IntKind.wrap Go.IntKind.i64 ((List.getD l (Int.toNat i) (0 : Int)) + (mvd j i))))) ∧ True))))))))))))))
                  False)
                False))
            False)
          False)
        False))
    False)
  (LoopP (ex Try.prog (conOf [rValid_e, rlong_e, rfar_e, rhas_e, rmoved_e, rtime18_e, rput_e]) (subC (bodyOf Try.f36) [1, 1, 1, 1, 1, 1, 1, 0, 1, 0, 0])) (kont Try.prog (conOf [rValid_e, rlong_e, rfar_e, rhas_e, rmoved_e, rtime18_e, rput_e]) (bodyOf Try.f36) [1, 1, 1, 1, 1, 1, 1, 0, 1, 0] (retPost Try.prog Try.f36 4 (rapply_res l j d u))) (rapply_L3_S1 l j d u q i o)))
set_option maxRecDepth 100000 in
theorem rapply_L2_tree (l : List Int) (j : List Int) (d : List Int) (u : List Int) (q : Int) (i : Int) (o : List Int) : rapply_L2_T l j d u q i o = ex Try.prog (conOf [rValid_e, rlong_e, rfar_e, rhas_e, rmoved_e, rtime18_e, rput_e]) (subC (bodyOf Try.f36) [1, 1, 1, 1, 1, 1, 0, 1, 0, 0]) (nextE (rapply_L2_N l j d u q i o) (kont Try.prog (conOf [rValid_e, rlong_e, rfar_e, rhas_e, rmoved_e, rtime18_e, rput_e]) (bodyOf Try.f36) [1, 1, 1, 1, 1, 1, 0, 1, 0] (retPost Try.prog Try.f36 4 (rapply_res l j d u)))) (rapply_L2_F l j d u q i o) := by kernel_rfl
set_option maxRecDepth 100000 in
theorem rapply_L2_round (l : List Int) (j : List Int) (d : List Int) (u : List Int) (q : Int) (i : Int) (o : List Int) (hI_L1 : rapply_L1_I l j d u q) (hI_L2 : rapply_L2_I l j d u q i o) : rapply_L2_T l j d u q i o := by
  obtain ⟨⟨w1, w2, w3, w4⟩, wx⟩ := hI_L1
  have hI2 := hI_L2
  obtain ⟨b1, ⟨b2, b3⟩, b4, b5, b6, b7⟩ := hI_L2
  obtain ⟨v1, v2, v3⟩ := vE_iff.1 w1
  have hlen : j.length ≤ 1000 ∧ d.length ≤ 1000 ∧ u.length ≤ 1000 := by
    have h := w2
    unfold lngB at h
    simp only [Bool.or_eq_false_iff, decide_eq_false_iff_not] at h
    omega
  have hbad : badN l j d = false := by unfold badN; rw [w3, b1]; rfl
  have hF : ∀ o' : List Int, i < l.length → nrm (kpt j d 0 l) = (kpt j d (i + 1) (l.drop (i.toNat + 1))).foldl ins o' → (kpt j d 0 l).all isT = (kpt j d (i + 1) (l.drop (i.toNat + 1))).all isT → incr o' = true → (o'.length : Int) ≤ i + 1 → rapply_L2_I l j d u q (i + 1) o' := fun o' h0 h1 h2 h3 h4 => ⟨b1, ⟨by omega, by omega⟩, by rw [show (i + 1).toNat = i.toNat + 1 by omega]; exact h1, by rw [show (i + 1).toNat = i.toNat + 1 by omega]; exact h2, h3, h4⟩
  have hμ : ∀ o', i < l.length → rapply_L2_m l j d u q (i + 1) o' < rapply_L2_m l j d u q i o := fun o' h => by unfold rapply_L2_m; omega
  unfold rapply_L2_T
  by_cases hi : i < l.length
  · rw [drop_consI b2 hi, kpt] at b4 b5
    have t0 := isT_iff.1 (all_get v2 (j := i.toNat) (by omega))
    have hJ := isJ_iff.1 (mvd_J w3 i)
    rw [decide_eq_true hi, decide_eq_true b2, decide_eq_true (show (d.length : Int) ≤ 1000000 by omega), w64 (n := i + 1) (by omega) (by omega), w64 (n := l.getD i.toNat 0 + mvd j i) (by omega) (by omega), decide_eq_true (show (o.length : Int) ≤ 1000000 by omega), b6]
    cases hv : hasV i d with
    | true =>
      rw [hv, if_pos rfl] at b4 b5
      exact ⟨hF _ hi b4 b5 b6 (by omega), hμ _ hi, by simp⟩
    | false =>
      rw [hv, if_neg (by decide)] at b4 b5
      rw [List.all_cons] at b5
      rw [List.foldl_cons] at b4
      have hil := ins_len o (l.getD i.toNat 0 + mvd j i)
      cases ht : isT (l.getD i.toNat 0 + mvd j i) with
      | false =>
        rw [ht, Bool.false_and] at b5
        have hE : apE l j d u = 2 := ap_two w1 w2 (.inr (by unfold rawL; rw [List.all_append, b5]; rfl))
        exact ⟨⟨trivial, hE.symm⟩, by unfold apL; rw [hE]; rfl, trivial⟩
      | true =>
        rw [ht, Bool.true_and] at b5
        exact ⟨hF _ hi b4 b5 (incr_ins b6 _) (by omega), hμ _ hi, by simp⟩
  · rw [decide_eq_false hi]
    rw [List.drop_eq_nil_of_le (by omega), kpt] at b4 b5
    rw [List.foldl_nil] at b4
    rw [List.all_nil] at b5
    refine rapply_L3_1 l j d u q i o ⟨⟨w1, w2, w3, w4⟩, wx⟩ hI2 ⟨⟨b5, ⟨by omega, by omega⟩, ?_, b6, by omega⟩, by simp⟩
    unfold nrm rawL
    rw [List.foldl_append]
    unfold nrm at b4
    rw [b4]
    rfl
set_option maxRecDepth 100000 in
theorem rapply_L2_entry1 (l : List Int) (j : List Int) (d : List Int) (u : List Int) (q : Int) : (((rapply_L2_I l j d u q (0 : Int) ([] : List Int)) ∧ (((0 : Int) = (0 : Int)) ∧ (True ∧ (((0 : Int) = (0 : Int)) ∧ (True ∧ (True ∧ (True ∧ ((True ∧ (True ∧ True)) ∧ ((l = l) ∧ ((j = j) ∧ ((d = d) ∧ ((u = u) ∧ ((([] : List Int) = ([] : List Int)) ∧ True)))))))))))))) = rapply_L2_E l j d u q (rapply_L2_S1 l j d u q) := by kernel_rfl
theorem rapply_L2_1 (l : List Int) (j : List Int) (d : List Int) (u : List Int) (q : Int) (hI_L1 : rapply_L1_I l j d u q) (h : ((rapply_L2_I l j d u q (0 : Int) ([] : List Int)) ∧ (((0 : Int) = (0 : Int)) ∧ (True ∧ (((0 : Int) = (0 : Int)) ∧ (True ∧ (True ∧ (True ∧ ((True ∧ (True ∧ True)) ∧ ((l = l) ∧ ((j = j) ∧ ((d = d) ∧ ((u = u) ∧ ((([] : List Int) = ([] : List Int)) ∧ True)))))))))))))) : LoopP (ex Try.prog (conOf [rValid_e, rlong_e, rfar_e, rhas_e, rmoved_e, rtime18_e, rput_e]) (subC (bodyOf Try.f36) [1, 1, 1, 1, 1, 1, 0, 1, 0, 0])) (kont Try.prog (conOf [rValid_e, rlong_e, rfar_e, rhas_e, rmoved_e, rtime18_e, rput_e]) (bodyOf Try.f36) [1, 1, 1, 1, 1, 1, 0, 1, 0] (retPost Try.prog Try.f36 4 (rapply_res l j d u))) (rapply_L2_S1 l j d u q) := by
  have hE : rapply_L2_E l j d u q (rapply_L2_S1 l j d u q) := Eq.mp (rapply_L2_entry1 l j d u q) h
  unfold rapply_L2_E at hE
  obtain ⟨i, hE⟩ := getI_of hE
  obtain ⟨o, hE⟩ := getR_of hE
  refine loop_of (α := (Int) × (List Int)) (fun xx_ => rapply_L2_F l j d u q xx_.1 xx_.2) (fun xx_ => rapply_L2_I l j d u q xx_.1 xx_.2) (fun xx_ => rapply_L2_m l j d u q xx_.1 xx_.2) (fun xx_ => rapply_L2_N l j d u q xx_.1 xx_.2) (fun xx_ => rapply_L2_T l j d u q xx_.1 xx_.2) (fun xx_ s_ h => ?_) ⟨⟨i, o⟩, hE⟩ (fun xx_ => rapply_L2_tree l j d u q xx_.1 xx_.2) (fun xx_ hI => rapply_L2_round l j d u q xx_.1 xx_.2 hI_L1 hI)
  unfold rapply_L2_N at h
  obtain ⟨i, h⟩ := getI_of h
  obtain ⟨o, h⟩ := getR_of h
  exact ⟨⟨i, o⟩, h⟩
def rapply_L1_T (l : List Int) (j : List Int) (d : List Int) (u : List Int) (q : Int) : Prop := (cnd (decide (q < (((List.length d) : Nat) : Int)))
  (cnd (decide ((0 : Int) ≤ q))
    (cnd (decide (q < (((List.length d) : Nat) : Int)))
      (cnd ((!((decide ((List.getD d (Int.toNat q) (0 : Int)) < (0 : Int))) == Bool.false)) || (decide ((0 : Int) ≤ q)))
        (cnd ((!((decide ((List.getD d (Int.toNat q) (0 : Int)) < (0 : Int))) == Bool.false)) || (decide (q < (((List.length d) : Nat) : Int))))
          (cnd ((decide ((List.getD d (Int.toNat q) (0 : Int)) < (0 : Int))) || (decide ((((List.length l) : Nat) : Int) ≤ (List.getD d (Int.toNat q) (0 : Int)))))
            ((True ∧ ((2 : Int) = (apE l j d u))) ∧ (((apL l j d u) = ([] : List Int)) ∧ True))
            ((rapply_L1_I l j d u (Go.IntKind.wrap Go.IntKind.i64 (q + (1 : Int)))) ∧ (((rapply_L1_m l j d u (Go.IntKind.wrap Go.IntKind.i64 (q + (1 : Int)))) < (rapply_L1_m l j d u q)) ∧ (((Go.IntKind.wrap Go.IntKind.i64 (q + (1 : Int))) = (Go.IntKind.wrap Go.IntKind.i64 (q + (1 : Int)))) ∧ (((0 : Int) = (0 : Int)) ∧ (True ∧ (True ∧ (True ∧ ((True ∧ (True ∧ True)) ∧ ((l = l) ∧ ((j = j) ∧ ((d = d) ∧ ((u = u) ∧ True)))))))))))))
          False)
        False)
      False)
    False)
  (LoopP (ex Try.prog (conOf [rValid_e, rlong_e, rfar_e, rhas_e, rmoved_e, rtime18_e, rput_e]) (subC (bodyOf Try.f36) [1, 1, 1, 1, 1, 1, 0, 1, 0, 0])) (kont Try.prog (conOf [rValid_e, rlong_e, rfar_e, rhas_e, rmoved_e, rtime18_e, rput_e]) (bodyOf Try.f36) [1, 1, 1, 1, 1, 1, 0, 1, 0] (retPost Try.prog Try.f36 4 (rapply_res l j d u))) (rapply_L2_S1 l j d u q)))
set_option maxRecDepth 100000 in
theorem rapply_L1_tree (l : List Int) (j : List Int) (d : List Int) (u : List Int) (q : Int) : rapply_L1_T l j d u q = ex Try.prog (conOf [rValid_e, rlong_e, rfar_e, rhas_e, rmoved_e, rtime18_e, rput_e]) (subC (bodyOf Try.f36) [1, 1, 1, 1, 0, 1, 0, 0]) (nextE (rapply_L1_N l j d u q) (kont Try.prog (conOf [rValid_e, rlong_e, rfar_e, rhas_e, rmoved_e, rtime18_e, rput_e]) (bodyOf Try.f36) [1, 1, 1, 1, 0, 1, 0] (retPost Try.prog Try.f36 4 (rapply_res l j d u)))) (rapply_L1_F l j d u q) := by kernel_rfl
set_option maxRecDepth 100000 in
theorem rapply_L1_round (l : List Int) (j : List Int) (d : List Int) (u : List Int) (q : Int)  (hI_L1 : rapply_L1_I l j d u q) : rapply_L1_T l j d u q := by
  obtain ⟨⟨w1, w2, w3, w4⟩, ⟨a1, a2⟩, a3⟩ := hI_L1
  have hlen : j.length ≤ 1000 ∧ d.length ≤ 1000 ∧ u.length ≤ 1000 := by
    have h := w2
    unfold lngB at h
    simp only [Bool.or_eq_false_iff, decide_eq_false_iff_not] at h
    omega
  unfold rapply_L1_T
  by_cases hi : q < d.length
  · rw [drop_consI a1 hi, List.any_cons] at a3
    have hF : d.any (fun x => outB l.length x) = (d.drop (q.toNat + 1)).any (fun x => outB l.length x) → rapply_L1_I l j d u (q + 1) := fun h => ⟨⟨w1, w2, w3, w4⟩, ⟨by omega, by omega⟩, by rw [show (q + 1).toNat = q.toNat + 1 by omega]; exact h⟩
    have hμ : rapply_L1_m l j d u (q + 1) < rapply_L1_m l j d u q := by unfold rapply_L1_m; omega
    have ho : (decide (d.getD q.toNat 0 < 0) || decide (((l.length : Nat) : Int) ≤ d.getD q.toNat 0)) = outB l.length (d.getD q.toNat 0) := rfl
    rw [ho, decide_eq_true hi, decide_eq_true a1, w64 (n := q + 1) (by omega) (by omega), Bool.or_true]
    cases hc : outB l.length (d.getD q.toNat 0) with
    | true =>
      rw [hc, Bool.true_or] at a3
      have hE : apE l j d u = 2 := ap_two w1 w2 (.inl (by unfold badN; rw [a3, Bool.or_true]))
      exact ⟨⟨trivial, hE.symm⟩, by unfold apL; rw [hE]; rfl, trivial⟩
    | false =>
      rw [hc, Bool.false_or] at a3
      exact ⟨hF a3, hμ, by simp⟩
  · rw [decide_eq_false hi]
    rw [List.drop_eq_nil_of_le (by omega), List.any_nil] at a3
    exact rapply_L2_1 l j d u q ⟨⟨w1, w2, w3, w4⟩, ⟨a1, a2⟩, by rw [List.drop_eq_nil_of_le (by omega)]; exact a3⟩ ⟨⟨a3, ⟨by omega, by omega⟩, rfl, rfl, rfl, by simp⟩, by simp⟩
set_option maxRecDepth 100000 in
theorem rapply_L1_entry1 (l : List Int) (j : List Int) (d : List Int) (u : List Int) : (((rapply_L1_I l j d u (0 : Int)) ∧ (((0 : Int) = (0 : Int)) ∧ (((0 : Int) = (0 : Int)) ∧ (True ∧ (True ∧ (True ∧ ((True ∧ (True ∧ True)) ∧ ((l = l) ∧ ((j = j) ∧ ((d = d) ∧ ((u = u) ∧ True)))))))))))) = rapply_L1_E l j d u (rapply_L1_S1 l j d u) := by kernel_rfl
theorem rapply_L1_1 (l : List Int) (j : List Int) (d : List Int) (u : List Int)  (h : ((rapply_L1_I l j d u (0 : Int)) ∧ (((0 : Int) = (0 : Int)) ∧ (((0 : Int) = (0 : Int)) ∧ (True ∧ (True ∧ (True ∧ ((True ∧ (True ∧ True)) ∧ ((l = l) ∧ ((j = j) ∧ ((d = d) ∧ ((u = u) ∧ True)))))))))))) : LoopP (ex Try.prog (conOf [rValid_e, rlong_e, rfar_e, rhas_e, rmoved_e, rtime18_e, rput_e]) (subC (bodyOf Try.f36) [1, 1, 1, 1, 0, 1, 0, 0])) (kont Try.prog (conOf [rValid_e, rlong_e, rfar_e, rhas_e, rmoved_e, rtime18_e, rput_e]) (bodyOf Try.f36) [1, 1, 1, 1, 0, 1, 0] (retPost Try.prog Try.f36 4 (rapply_res l j d u))) (rapply_L1_S1 l j d u) := by
  have hE : rapply_L1_E l j d u (rapply_L1_S1 l j d u) := Eq.mp (rapply_L1_entry1 l j d u) h
  unfold rapply_L1_E at hE
  obtain ⟨q, hE⟩ := getI_of hE
  refine loop_of (α := (Int)) (fun xx_ => rapply_L1_F l j d u xx_) (fun xx_ => rapply_L1_I l j d u xx_) (fun xx_ => rapply_L1_m l j d u xx_) (fun xx_ => rapply_L1_N l j d u xx_) (fun xx_ => rapply_L1_T l j d u xx_) (fun xx_ s_ h => ?_) ⟨q, hE⟩ (fun xx_ => rapply_L1_tree l j d u xx_) (fun xx_ hI => rapply_L1_round l j d u xx_  hI)
  unfold rapply_L1_N at h
  obtain ⟨q, h⟩ := getI_of h
  exact ⟨q, h⟩
set_option maxRecDepth 100000 in
theorem rapply_tree (l : List Int) (j : List Int) (d : List Int) (u : List Int) : ((cnd (!(vE l))
  ((True ∧ ((1 : Int) = (apE l j d u))) ∧ (((apL l j d u) = ([] : List Int)) ∧ True))
  (cnd (lngB j d u)
    ((True ∧ ((5 : Int) = (apE l j d u))) ∧ (((apL l j d u) = ([] : List Int)) ∧ True))
    (cnd (decide ((((List.length j) : Nat) : Int) ≤ (1000000 : Int)))
      (cnd (decide ((((List.length u) : Nat) : Int) ≤ (1000000 : Int)))
        (cnd (!((List.all j isJ) && (List.all u isT)))
          ((True ∧ ((2 : Int) = (apE l j d u))) ∧ (((apL l j d u) = ([] : List Int)) ∧ True))
          (LoopP (ex Try.prog (conOf [rValid_e, rlong_e, rfar_e, rhas_e, rmoved_e, rtime18_e, rput_e]) (subC (bodyOf Try.f36) [1, 1, 1, 1, 0, 1, 0, 0])) (kont Try.prog (conOf [rValid_e, rlong_e, rfar_e, rhas_e, rmoved_e, rtime18_e, rput_e]) (bodyOf Try.f36) [1, 1, 1, 1, 0, 1, 0] (retPost Try.prog Try.f36 4 (rapply_res l j d u))) (rapply_L1_S1 l j d u)))
        False)
      False)))) = EXD Try.prog (conOf [rValid_e, rlong_e, rfar_e, rhas_e, rmoved_e, rtime18_e, rput_e]) Try.f36 [.cel (.row 0), .agg [.row 1, .row 2, .row 3]] [.ints .i64 l, .ints .i64 j, .ints .i64 d, .ints .i64 u] [] (rapply_res l j d u) := by kernel_rfl
theorem rapply_holds (l : List Int) (j : List Int) (d : List Int) (u : List Int)  : (cnd (!(vE l))
  ((True ∧ ((1 : Int) = (apE l j d u))) ∧ (((apL l j d u) = ([] : List Int)) ∧ True))
  (cnd (lngB j d u)
    ((True ∧ ((5 : Int) = (apE l j d u))) ∧ (((apL l j d u) = ([] : List Int)) ∧ True))
    (cnd (decide ((((List.length j) : Nat) : Int) ≤ (1000000 : Int)))
      (cnd (decide ((((List.length u) : Nat) : Int) ≤ (1000000 : Int)))
        (cnd (!((List.all j isJ) && (List.all u isT)))
          ((True ∧ ((2 : Int) = (apE l j d u))) ∧ (((apL l j d u) = ([] : List Int)) ∧ True))
          (LoopP (ex Try.prog (conOf [rValid_e, rlong_e, rfar_e, rhas_e, rmoved_e, rtime18_e, rput_e]) (subC (bodyOf Try.f36) [1, 1, 1, 1, 0, 1, 0, 0])) (kont Try.prog (conOf [rValid_e, rlong_e, rfar_e, rhas_e, rmoved_e, rtime18_e, rput_e]) (bodyOf Try.f36) [1, 1, 1, 1, 0, 1, 0] (retPost Try.prog Try.f36 4 (rapply_res l j d u))) (rapply_L1_S1 l j d u)))
        False)
      False))) := by
  cases w1 : vE l with
  | false =>
    have hE : apE l j d u = 1 := by unfold apE; rw [w1]; rfl
    exact ⟨⟨trivial, hE.symm⟩, by unfold apL; rw [hE]; rfl, trivial⟩
  | true =>
    cases w2 : lngB j d u with
    | true =>
      have hE : apE l j d u = 5 := by unfold apE; rw [w1, w2]; rfl
      exact ⟨⟨trivial, hE.symm⟩, by unfold apL; rw [hE]; rfl, trivial⟩
    | false =>
      have hlen : j.length ≤ 1000 ∧ d.length ≤ 1000 ∧ u.length ≤ 1000 := by
        have h := w2
        unfold lngB at h
        simp only [Bool.or_eq_false_iff, decide_eq_false_iff_not] at h
        omega
      rw [decide_eq_true (show (j.length : Int) ≤ 1000000 by omega), decide_eq_true (show (u.length : Int) ≤ 1000000 by omega)]
      cases w3 : j.all isJ with
      | false =>
        have hE : apE l j d u = 2 := ap_two w1 w2 (.inl (by unfold badN; rw [w3]; rfl))
        exact ⟨⟨trivial, hE.symm⟩, by unfold apL; rw [hE]; rfl, trivial⟩
      | true =>
        cases w4 : u.all isT with
        | false =>
          have hE : apE l j d u = 2 := ap_two w1 w2 (.inr (by unfold rawL; rw [List.all_append, w4, Bool.and_false]))
          exact ⟨⟨trivial, hE.symm⟩, by unfold apL; rw [hE]; rfl, trivial⟩
        | true => exact rapply_L1_1 l j d u ⟨⟨⟨w1, w2, w3, w4⟩, ⟨by omega, by omega⟩, by simp⟩, by simp⟩
set_option maxHeartbeats 2000000 in
theorem rapply_ok : SoundEnt Try.prog rapply_e := by
  refine ent_of_ex (Γ := (conOf [rValid_e, rlong_e, rfar_e, rhas_e, rmoved_e, rtime18_e, rput_e])) (conOf_sound (scons rValid_ok (scons rlong_ok (scons rfar_ok (scons rhas_ok (scons rmoved_ok (scons rtime18_ok (scons rput_ok snil)))))))) (by kernel_rfl) Try.func36 (by kernel_rfl) (by kernel_rfl) (fun args rows caps res h ho => ?_)
  change rapply_go args rows caps = some res at h
  unfold rapply_go at h
  split at h
  · simp only [Option.some.injEq] at h
    subst h
    rename_i q0_ q1_ q2_ q3_
    skip
    exact EX.of (rapply_tree q0_ q1_ q2_ q3_) (rapply_holds q0_ q1_ q2_ q3_)
  · cases h
theorem apL_len {l j d u : List Int} : (apL l j d u).length ≤ 1000 := by
  unfold apL
  split
  · rename_i h
    unfold apE at h
    split at h
    · split at h
      · omega
      · split at h
        · omega
        · split at h
          · split at h
            · omega
            · omega
          · omega
    · omega
  · simp
def applies_res (l : List Int) (j : List Int) (d : List Int) (u : List Int) : CRes := ⟨[wfL .i64 l, wfL .i64 j, wfL .i64 d, wfL .i64 u, lenB l, lenB j, lenB d, lenB u], .one (.cel (.bool (true))), []⟩
def applies_go : List TV → List RowA → List (List CV) → Option CRes := fun args rows caps =>
  match args, rows, caps with
  | [.cel (.row 0), .agg [.row 1, .row 2, .row 3]], [.ints .i64 l, .ints .i64 j, .ints .i64 d, .ints .i64 u], [] => some (applies_res l j d u)
  | _, _, _ => none
def applies_e : Ent := ⟨10, [.ints .i64 [], .ints .i64 [], .ints .i64 [], .ints .i64 []], applies_go⟩
set_option maxRecDepth 100000 in
theorem applies_tree (l : List Int) (j : List Int) (d : List Int) (u : List Int) : ((cnd ((decide ((400 : Int) < (((List.length l) : Nat) : Int))) || (!(shB j d u)))
  (Bool.true = Bool.true)
  (cnd ((!((decide ((apE l j d u) = (apE l j d u))) == Bool.true)) || (decide ((((List.length (apL l j d u)) : Nat) : Int) ≤ (1000000 : Int))))
    (cnd ((!((decide ((apE l j d u) = (apE l j d u))) == Bool.true)) || (decide ((((List.length (apL l j d u)) : Nat) : Int) ≤ (1000000 : Int))))
      (((decide ((apE l j d u) = (apE l j d u))) && (decide ((apL l j d u) = (apL l j d u)))) = Bool.true)
      False)
    False))) = EXD Try.prog (conOf [awake_e, short_e, apply_e, rapply_e, equalI_e]) Try.f10 [.cel (.row 0), .agg [.row 1, .row 2, .row 3]] [.ints .i64 l, .ints .i64 j, .ints .i64 d, .ints .i64 u] [] (applies_res l j d u) := by kernel_rfl
theorem applies_holds (l : List Int) (j : List Int) (d : List Int) (u : List Int) (p0 : (wfL .i64 l) = true) (p1 : (wfL .i64 j) = true) (p2 : (wfL .i64 d) = true) (p3 : (wfL .i64 u) = true) (p4 : (lenB l) = true) (p5 : (lenB j) = true) (p6 : (lenB d) = true) (p7 : (lenB u) = true) : (cnd ((decide ((400 : Int) < (((List.length l) : Nat) : Int))) || (!(shB j d u)))
  (Bool.true = Bool.true)
  (cnd ((!((decide ((apE l j d u) = (apE l j d u))) == Bool.true)) || (decide ((((List.length (apL l j d u)) : Nat) : Int) ≤ (1000000 : Int))))
    (cnd ((!((decide ((apE l j d u) = (apE l j d u))) == Bool.true)) || (decide ((((List.length (apL l j d u)) : Nat) : Int) ≤ (1000000 : Int))))
      (((decide ((apE l j d u) = (apE l j d u))) && (decide ((apL l j d u) = (apL l j d u)))) = Bool.true)
      False)
    False)) := by
  have h := apL_len (l := l) (j := j) (d := d) (u := u)
  rw [decide_eq_true (show ((apL l j d u).length : Int) ≤ 1000000 by omega), Bool.or_true]
  simp only [decide_true, Bool.and_self]
  refine cnd_i (fun _ => trivial) (fun _ => by simp [cnd])
set_option maxHeartbeats 2000000 in
theorem applies_ok : SoundEnt Try.prog applies_e := by
  refine ent_of_ex (Γ := (conOf [awake_e, short_e, apply_e, rapply_e, equalI_e])) (conOf_sound (scons awake_ok (scons short_ok (scons apply_ok (scons rapply_ok (scons equalI_ok snil)))))) (by kernel_rfl) Try.func10 (by kernel_rfl) (by kernel_rfl) (fun args rows caps res h ho => ?_)
  change applies_go args rows caps = some res at h
  unfold applies_go at h
  split at h
  · simp only [Option.some.injEq] at h
    subst h
    rename_i q0_ q1_ q2_ q3_
    obtain ⟨p0, p1, p2, p3, p4, p5, p6, p7, _⟩ := ho
    exact EX.of (applies_tree q0_ q1_ q2_ q3_) (applies_holds q0_ q1_ q2_ q3_ p0 p1 p2 p3 p4 p5 p6 p7)
  · cases h
end Go.Proofs.Ythfliohfkhnpiaa

