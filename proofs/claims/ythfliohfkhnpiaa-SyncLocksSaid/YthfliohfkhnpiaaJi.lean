/- Noise: the program's application. -/
import Derived.Test.YthfliohfkhnpiaaJf
import Derived.Test.YthfliohfkhnpiaaSi
import Derived.Test.YthfliohfkhnpiaaSs
namespace Go.Proofs.Ythfliohfkhnpiaa
set_option linter.unusedVariables false
set_option linter.unusedSimpArgs false
open Go.RowKit

def outB (n : Int) (x : Int) : Bool := decide (x < 0) || decide (n ≤ x)
def app1_res (x : Int) (e : List Int) : CRes := ⟨[], .one (.cel (.bool (outB e.length x))), []⟩
def app1_go : List TV → List RowA → List (List CV) → Option CRes := fun args rows caps =>
  match args, rows, caps with
  | [.cel (.int .i64 x), .cel (.ptr 0 0)], [.ints .i64 e], [[.row 0]] => some (app1_res x e)
  | _, _, _ => none
def app1_e : Ent := ⟨49, [.ints .i64 []], app1_go⟩
set_option maxRecDepth 100000 in
theorem app1_tree (x : Int) (e : List Int) : ((((decide (x < (0 : Int))) || (decide ((((List.length e) : Nat) : Int) ≤ x))) = (outB (((List.length e) : Nat) : Int) x))) = EXD Try.prog (conOf []) Try.f49 [.cel (.int .i64 x), .cel (.ptr 0 0)] [.ints .i64 e] [[.row 0]] (app1_res x e) := by kernel_rfl
theorem app1_holds (x : Int) (e : List Int)  : (((decide (x < (0 : Int))) || (decide ((((List.length e) : Nat) : Int) ≤ x))) = (outB (((List.length e) : Nat) : Int) x)) := by
  rfl
set_option maxHeartbeats 2000000 in
theorem app1_ok : SoundEnt Try.prog app1_e := by
  refine ent_of_ex (Γ := (conOf [])) (conOf_sound snil) (by kernel_rfl) Try.func49 (by kernel_rfl) (by kernel_rfl) (fun args rows caps res h ho => ?_)
  change app1_go args rows caps = some res at h
  unfold app1_go at h
  split at h
  · simp only [Option.some.injEq] at h
    subst h
    rename_i q0_ q1_
    skip
    exact EX.of (app1_tree q0_ q1_) (app1_holds q0_ q1_)
  · cases h
def app2_res (x : Int) : CRes := ⟨[], .one (.cel (.bool (!isT x))), []⟩
def app2_go : List TV → List RowA → List (List CV) → Option CRes := fun args rows caps =>
  match args, rows, caps with
  | [.cel (.int .i64 x)], [], [] => some (app2_res x)
  | _, _, _ => none
def app2_e : Ent := ⟨51, [], app2_go⟩
set_option maxRecDepth 100000 in
theorem app2_tree (x : Int) : (((!(isT x)) = (!(isT x)))) = EXD Try.prog (conOf [stime_e]) Try.f51 [.cel (.int .i64 x)] [] [] (app2_res x) := by kernel_rfl
theorem app2_holds (x : Int)  : ((!(isT x)) = (!(isT x))) := by
  rfl
set_option maxHeartbeats 2000000 in
theorem app2_ok : SoundEnt Try.prog app2_e := by
  refine ent_of_ex (Γ := (conOf [stime_e])) (conOf_sound (scons stime_ok snil)) (by kernel_rfl) Try.func51 (by kernel_rfl) (by kernel_rfl) (fun args rows caps res h ho => ?_)
  change app2_go args rows caps = some res at h
  unfold app2_go at h
  split at h
  · simp only [Option.some.injEq] at h
    subst h
    rename_i q0_
    skip
    exact EX.of (app2_tree q0_) (app2_holds q0_)
  · cases h
def app1_ifn_res (l : List Int) (e : List Int) : CRes := ⟨[decide ((l.length : Int) ≤ 1000000)], .one (.cel (.int .i64 (fb (fun x => outB e.length x) l))), []⟩
def app1_ifn_go : List TV → List RowA → List (List CV) → Option CRes := fun args rows caps =>
  match args, rows, caps with
  | [.cel (.row 0), .cel (.clo 49 [0])], [.ints .i64 l, .ints .i64 e], [[.row 1]] => some (app1_ifn_res l e)
  | _, _, _ => none
def app1_ifn_e : Ent := ⟨94, [.ints .i64 [], .ints .i64 []], app1_ifn_go⟩
def app1_ifn_L1_F (l : List Int) (e : List Int) (i : Int) : St := ⟨19, [], [(8, (.one (.cel (.int .i64 i)))), (7, (.one (.cel (.int .i64 (((List.length l) : Nat) : Int))))), (4, (.one (.cel (.int .i64 (0 : Int))))), (0, (.one (.cel (.row 0)))), (1, (.one (.cel (.clo 49 [0]))))], [[(.row 1)]], [⟨(.ints .i64 l), none⟩, ⟨(.ints .i64 e), none⟩], 1⟩
def app1_ifn_L1_I (l : List Int) (e : List Int) (i : Int) : Prop := (0 ≤ i ∧ i ≤ l.length ∧ (l.length : Int) ≤ 1000000) ∧ (fb (fun x => outB e.length x) l = (if fb (fun x => outB e.length x) (l.drop i.toNat) = -1 then -1 else fb (fun x => outB e.length x) (l.drop i.toNat) + i))
def app1_ifn_L1_m (l : List Int) (e : List Int) (i : Int) : Nat := (l.length - i).toNat
def app1_ifn_L1_N (l : List Int) (e : List Int) (i' : Int) (st_ : St) : Prop := getI st_ 8 fun i => app1_ifn_L1_I l e i ∧ app1_ifn_L1_m l e i < app1_ifn_L1_m l e i' ∧ SubA st_ (app1_ifn_L1_F l e i)
def app1_ifn_L1_E (l : List Int) (e : List Int) (st_ : St) : Prop := getI st_ 8 fun i => app1_ifn_L1_I l e i ∧ SubA st_ (app1_ifn_L1_F l e i)
def app1_ifn_L1_S1 (l : List Int) (e : List Int) : St := ⟨19, [], [(8, (.one (.cel (.int .i64 (0 : Int))))), (7, (.one (.cel (.int .i64 (((List.length l) : Nat) : Int))))), (6, (.one (.cel (.row 0)))), (4, (.one (.cel (.int .i64 (0 : Int))))), (0, (.one (.cel (.row 0)))), (1, (.one (.cel (.clo 49 [0]))))], [[(.row 1)]], [⟨(.ints .i64 l), none⟩, ⟨(.ints .i64 e), none⟩], 1⟩
def app1_ifn_L1_T (l : List Int) (e : List Int) (i : Int) : Prop := (cnd (decide (i < (((List.length l) : Nat) : Int)))
  (cnd (decide ((0 : Int) ≤ i))
    (cnd (decide (i < (((List.length l) : Nat) : Int)))
      (cnd (outB (((List.length e) : Nat) : Int) (List.getD l (Int.toNat i) (0 : Int)))
        (i = (fb (fun x => (outB (((List.length e) : Nat) : Int) x)) l))
        ((app1_ifn_L1_I l e (Go.IntKind.wrap Go.IntKind.i64 (i + (1 : Int)))) ∧ (((app1_ifn_L1_m l e (Go.IntKind.wrap Go.IntKind.i64 (i + (1 : Int)))) < (app1_ifn_L1_m l e i)) ∧ (((Go.IntKind.wrap Go.IntKind.i64 (i + (1 : Int))) = (Go.IntKind.wrap Go.IntKind.i64 (i + (1 : Int)))) ∧ (((((List.length l) : Nat) : Int) = (((List.length l) : Nat) : Int)) ∧ (((0 : Int) = (0 : Int)) ∧ (True ∧ (True ∧ (True ∧ ((l = l) ∧ ((e = e) ∧ True)))))))))))
      False)
    False)
  ((-(1 : Int)) = (fb (fun x => (outB (((List.length e) : Nat) : Int) x)) l)))
set_option maxRecDepth 100000 in
theorem app1_ifn_L1_tree (l : List Int) (e : List Int) (i : Int) : app1_ifn_L1_T l e i = ex Try.prog (conOf [app1_e]) (subC (bodyOf Try.f94) [1, 0, 1, 0, 0]) (nextE (app1_ifn_L1_N l e i) (kont Try.prog (conOf [app1_e]) (bodyOf Try.f94) [1, 0, 1, 0] (retPost Try.prog Try.f94 2 (app1_ifn_res l e)))) (app1_ifn_L1_F l e i) := by kernel_rfl
set_option maxRecDepth 100000 in
theorem app1_ifn_L1_round (l : List Int) (e : List Int) (i : Int) (p0 : (decide ((l.length : Int) ≤ 1000000)) = true) (hI_L1 : app1_ifn_L1_I l e i) : app1_ifn_L1_T l e i := by
  obtain ⟨⟨a1, a2, a3⟩, a4⟩ := hI_L1
  unfold app1_ifn_L1_T
  by_cases hi : i < l.length
  · have hd := drop_consG (d := 0) (l := l) (i := i) a1 hi
    obtain ⟨b1, b2, b3⟩ := fb_bd (fun x => outB e.length x) (l.drop (i.toNat + 1))
    have e1 : (i + 1).toNat = i.toNat + 1 := by omega
    rw [hd] at a4
    rw [w64 (n := i + 1) (by omega) (by omega), decide_eq_true hi, decide_eq_true a1]
    have hF : ∀ i' : Int, 0 ≤ i' ∧ i' ≤ l.length ∧ (l.length : Int) ≤ 1000000 → fb (fun x => outB e.length x) l = (if fb (fun x => outB e.length x) (l.drop i'.toNat) = -1 then -1 else fb (fun x => outB e.length x) (l.drop i'.toNat) + i') → app1_ifn_L1_I l e i' := fun i' h1 h2 => ⟨h1, h2⟩
    have hμ : app1_ifn_L1_m l e (i + 1) < app1_ifn_L1_m l e i := by unfold app1_ifn_L1_m; omega
    generalize l.getD i.toNat 0 = x at *
    rw [fb_cons] at a4
    cases hx : (outB e.length x) with
    | true =>
      rw [hx] at a4
      rw [if_pos rfl, if_neg (by decide), Int.zero_add] at a4
      exact a4.symm
    | false =>
      rw [hx] at a4
      refine ⟨hF _ ⟨by omega, by omega, a3⟩ ?_, hμ, by simp⟩
      rw [e1]
      simp only [Bool.false_eq_true, if_false] at a4
      generalize fb (fun x => outB e.length x) (l.drop (i.toNat + 1)) = y at *
      by_cases hy : y = -1
      · rw [if_pos hy] at a4 ⊢
        simpa using a4
      · rw [if_neg hy] at a4 ⊢
        rw [if_neg (by omega)] at a4
        omega
  · rw [decide_eq_false hi]
    have e : l.drop i.toNat = [] := List.drop_eq_nil_of_le (by omega)
    rw [e] at a4
    simp [fb] at a4
    exact a4.symm
set_option maxRecDepth 100000 in
theorem app1_ifn_L1_entry1 (l : List Int) (e : List Int) : (((app1_ifn_L1_I l e (0 : Int)) ∧ (((0 : Int) = (0 : Int)) ∧ (((((List.length l) : Nat) : Int) = (((List.length l) : Nat) : Int)) ∧ (((0 : Int) = (0 : Int)) ∧ (True ∧ (True ∧ (True ∧ ((l = l) ∧ ((e = e) ∧ True)))))))))) = app1_ifn_L1_E l e (app1_ifn_L1_S1 l e) := by kernel_rfl
theorem app1_ifn_L1_1 (l : List Int) (e : List Int) (p0 : (decide ((l.length : Int) ≤ 1000000)) = true) (h : ((app1_ifn_L1_I l e (0 : Int)) ∧ (((0 : Int) = (0 : Int)) ∧ (((((List.length l) : Nat) : Int) = (((List.length l) : Nat) : Int)) ∧ (((0 : Int) = (0 : Int)) ∧ (True ∧ (True ∧ (True ∧ ((l = l) ∧ ((e = e) ∧ True)))))))))) : LoopP (ex Try.prog (conOf [app1_e]) (subC (bodyOf Try.f94) [1, 0, 1, 0, 0])) (kont Try.prog (conOf [app1_e]) (bodyOf Try.f94) [1, 0, 1, 0] (retPost Try.prog Try.f94 2 (app1_ifn_res l e))) (app1_ifn_L1_S1 l e) := by
  have hE : app1_ifn_L1_E l e (app1_ifn_L1_S1 l e) := Eq.mp (app1_ifn_L1_entry1 l e) h
  unfold app1_ifn_L1_E at hE
  obtain ⟨i, hE⟩ := getI_of hE
  refine loop_of (α := (Int)) (fun xx_ => app1_ifn_L1_F l e xx_) (fun xx_ => app1_ifn_L1_I l e xx_) (fun xx_ => app1_ifn_L1_m l e xx_) (fun xx_ => app1_ifn_L1_N l e xx_) (fun xx_ => app1_ifn_L1_T l e xx_) (fun xx_ s_ h => ?_) ⟨i, hE⟩ (fun xx_ => app1_ifn_L1_tree l e xx_) (fun xx_ hI => app1_ifn_L1_round l e xx_ p0 hI)
  unfold app1_ifn_L1_N at h
  obtain ⟨i, h⟩ := getI_of h
  exact ⟨i, h⟩
set_option maxRecDepth 100000 in
theorem app1_ifn_tree (l : List Int) (e : List Int) : ((LoopP (ex Try.prog (conOf [app1_e]) (subC (bodyOf Try.f94) [1, 0, 1, 0, 0])) (kont Try.prog (conOf [app1_e]) (bodyOf Try.f94) [1, 0, 1, 0] (retPost Try.prog Try.f94 2 (app1_ifn_res l e))) (app1_ifn_L1_S1 l e))) = EXD Try.prog (conOf [app1_e]) Try.f94 [.cel (.row 0), .cel (.clo 49 [0])] [.ints .i64 l, .ints .i64 e] [[.row 1]] (app1_ifn_res l e) := by kernel_rfl
theorem app1_ifn_holds (l : List Int) (e : List Int) (p0 : (decide ((l.length : Int) ≤ 1000000)) = true) : (LoopP (ex Try.prog (conOf [app1_e]) (subC (bodyOf Try.f94) [1, 0, 1, 0, 0])) (kont Try.prog (conOf [app1_e]) (bodyOf Try.f94) [1, 0, 1, 0] (retPost Try.prog Try.f94 2 (app1_ifn_res l e))) (app1_ifn_L1_S1 l e)) := by
  have q0 := p0
  simp only [decide_eq_true_eq] at p0
  have b := (fb_bd (fun x => outB e.length x) l).1
  refine app1_ifn_L1_1 l e q0  ⟨⟨⟨by omega, by omega, by omega⟩, ?_⟩, by simp⟩
  simp
set_option maxHeartbeats 2000000 in
theorem app1_ifn_ok : SoundEnt Try.prog app1_ifn_e := by
  refine ent_of_ex (Γ := (conOf [app1_e])) (conOf_sound (scons app1_ok snil)) (by kernel_rfl) Try.func94 (by kernel_rfl) (by kernel_rfl) (fun args rows caps res h ho => ?_)
  change app1_ifn_go args rows caps = some res at h
  unfold app1_ifn_go at h
  split at h
  · simp only [Option.some.injEq] at h
    subst h
    rename_i q0_ q1_
    obtain ⟨p0, _⟩ := ho
    exact EX.of (app1_ifn_tree q0_ q1_) (app1_ifn_holds q0_ q1_ p0)
  · cases h
def app1_cfn_res (l : List Int) (e : List Int) : CRes := ⟨[decide ((l.length : Int) ≤ 1000000)], .one (.cel (.bool (l.any (fun x => outB e.length x)))), []⟩
def app1_cfn_go : List TV → List RowA → List (List CV) → Option CRes := fun args rows caps =>
  match args, rows, caps with
  | [.cel (.row 0), .cel (.clo 49 [0])], [.ints .i64 l, .ints .i64 e], [[.row 1]] => some (app1_cfn_res l e)
  | _, _, _ => none
def app1_cfn_e : Ent := ⟨42, [.ints .i64 [], .ints .i64 []], app1_cfn_go⟩
set_option maxRecDepth 100000 in
theorem app1_cfn_tree (l : List Int) (e : List Int) : ((cnd (decide ((((List.length l) : Nat) : Int) ≤ (1000000 : Int)))
  ((decide ((0 : Int) ≤ (fb (fun x => (outB (((List.length e) : Nat) : Int) x)) l))) = (List.any l (fun x => (outB (((List.length e) : Nat) : Int) x))))
  False)) = EXD Try.prog (conOf [app1_ifn_e]) Try.f42 [.cel (.row 0), .cel (.clo 49 [0])] [.ints .i64 l, .ints .i64 e] [[.row 1]] (app1_cfn_res l e) := by kernel_rfl
theorem app1_cfn_holds (l : List Int) (e : List Int) (p0 : (decide ((l.length : Int) ≤ 1000000)) = true) : (cnd (decide ((((List.length l) : Nat) : Int) ≤ (1000000 : Int)))
  ((decide ((0 : Int) ≤ (fb (fun x => (outB (((List.length e) : Nat) : Int) x)) l))) = (List.any l (fun x => (outB (((List.length e) : Nat) : Int) x))))
  False) := by
  obtain ⟨b1, b2, b3⟩ := fb_bd (fun x => outB e.length x) l
  rw [p0]
  show decide (0 ≤ fb (fun x => outB e.length x) l) = l.any (fun x => outB e.length x)
  cases h : l.any (fun x => outB e.length x) with
  | false => rw [b3.2 h]; rfl
  | true =>
    have : ¬ fb (fun x => outB e.length x) l = -1 := fun e => by rw [b3.1 e] at h; cases h
    rw [decide_eq_true_eq]
    omega
set_option maxHeartbeats 2000000 in
theorem app1_cfn_ok : SoundEnt Try.prog app1_cfn_e := by
  refine ent_of_ex (Γ := (conOf [app1_ifn_e])) (conOf_sound (scons app1_ifn_ok snil)) (by kernel_rfl) Try.func42 (by kernel_rfl) (by kernel_rfl) (fun args rows caps res h ho => ?_)
  change app1_cfn_go args rows caps = some res at h
  unfold app1_cfn_go at h
  split at h
  · simp only [Option.some.injEq] at h
    subst h
    rename_i q0_ q1_
    obtain ⟨p0, _⟩ := ho
    exact EX.of (app1_cfn_tree q0_ q1_) (app1_cfn_holds q0_ q1_ p0)
  · cases h
def app2_ifn_res (l : List Int) : CRes := ⟨[decide ((l.length : Int) ≤ 1000000)], .one (.cel (.int .i64 (fb (fun x => !isT x) l))), []⟩
def app2_ifn_go : List TV → List RowA → List (List CV) → Option CRes := fun args rows caps =>
  match args, rows, caps with
  | [.cel (.row 0), .cel (.fn 51)], [.ints .i64 l], [] => some (app2_ifn_res l)
  | _, _, _ => none
def app2_ifn_e : Ent := ⟨94, [.ints .i64 []], app2_ifn_go⟩
def app2_ifn_L1_F (l : List Int) (i : Int) : St := ⟨19, [], [(8, (.one (.cel (.int .i64 i)))), (7, (.one (.cel (.int .i64 (((List.length l) : Nat) : Int))))), (4, (.one (.cel (.int .i64 (0 : Int))))), (0, (.one (.cel (.row 0)))), (1, (.one (.cel (.fn 51))))], [], [⟨(.ints .i64 l), none⟩], 0⟩
def app2_ifn_L1_I (l : List Int) (i : Int) : Prop := (0 ≤ i ∧ i ≤ l.length ∧ (l.length : Int) ≤ 1000000) ∧ (fb (fun x => !isT x) l = (if fb (fun x => !isT x) (l.drop i.toNat) = -1 then -1 else fb (fun x => !isT x) (l.drop i.toNat) + i))
def app2_ifn_L1_m (l : List Int) (i : Int) : Nat := (l.length - i).toNat
def app2_ifn_L1_N (l : List Int) (i' : Int) (st_ : St) : Prop := getI st_ 8 fun i => app2_ifn_L1_I l i ∧ app2_ifn_L1_m l i < app2_ifn_L1_m l i' ∧ SubA st_ (app2_ifn_L1_F l i)
def app2_ifn_L1_E (l : List Int) (st_ : St) : Prop := getI st_ 8 fun i => app2_ifn_L1_I l i ∧ SubA st_ (app2_ifn_L1_F l i)
def app2_ifn_L1_S1 (l : List Int) : St := ⟨19, [], [(8, (.one (.cel (.int .i64 (0 : Int))))), (7, (.one (.cel (.int .i64 (((List.length l) : Nat) : Int))))), (6, (.one (.cel (.row 0)))), (4, (.one (.cel (.int .i64 (0 : Int))))), (0, (.one (.cel (.row 0)))), (1, (.one (.cel (.fn 51))))], [], [⟨(.ints .i64 l), none⟩], 0⟩
def app2_ifn_L1_T (l : List Int) (i : Int) : Prop := (cnd (decide (i < (((List.length l) : Nat) : Int)))
  (cnd (decide ((0 : Int) ≤ i))
    (cnd (decide (i < (((List.length l) : Nat) : Int)))
      (cnd (!(isT (List.getD l (Int.toNat i) (0 : Int))))
        (i = (fb (fun x => (!(isT x))) l))
        ((app2_ifn_L1_I l (Go.IntKind.wrap Go.IntKind.i64 (i + (1 : Int)))) ∧ (((app2_ifn_L1_m l (Go.IntKind.wrap Go.IntKind.i64 (i + (1 : Int)))) < (app2_ifn_L1_m l i)) ∧ (((Go.IntKind.wrap Go.IntKind.i64 (i + (1 : Int))) = (Go.IntKind.wrap Go.IntKind.i64 (i + (1 : Int)))) ∧ (((((List.length l) : Nat) : Int) = (((List.length l) : Nat) : Int)) ∧ (((0 : Int) = (0 : Int)) ∧ (True ∧ (True ∧ ((l = l) ∧ True)))))))))
      False)
    False)
  ((-(1 : Int)) = (fb (fun x => (!(isT x))) l)))
set_option maxRecDepth 100000 in
theorem app2_ifn_L1_tree (l : List Int) (i : Int) : app2_ifn_L1_T l i = ex Try.prog (conOf [app2_e]) (subC (bodyOf Try.f94) [1, 0, 1, 0, 0]) (nextE (app2_ifn_L1_N l i) (kont Try.prog (conOf [app2_e]) (bodyOf Try.f94) [1, 0, 1, 0] (retPost Try.prog Try.f94 1 (app2_ifn_res l)))) (app2_ifn_L1_F l i) := by kernel_rfl
set_option maxRecDepth 100000 in
theorem app2_ifn_L1_round (l : List Int) (i : Int) (p0 : (decide ((l.length : Int) ≤ 1000000)) = true) (hI_L1 : app2_ifn_L1_I l i) : app2_ifn_L1_T l i := by
  obtain ⟨⟨a1, a2, a3⟩, a4⟩ := hI_L1
  unfold app2_ifn_L1_T
  by_cases hi : i < l.length
  · have hd := drop_consG (d := 0) (l := l) (i := i) a1 hi
    obtain ⟨b1, b2, b3⟩ := fb_bd (fun x => !isT x) (l.drop (i.toNat + 1))
    have e1 : (i + 1).toNat = i.toNat + 1 := by omega
    rw [hd] at a4
    rw [w64 (n := i + 1) (by omega) (by omega), decide_eq_true hi, decide_eq_true a1]
    have hF : ∀ i' : Int, 0 ≤ i' ∧ i' ≤ l.length ∧ (l.length : Int) ≤ 1000000 → fb (fun x => !isT x) l = (if fb (fun x => !isT x) (l.drop i'.toNat) = -1 then -1 else fb (fun x => !isT x) (l.drop i'.toNat) + i') → app2_ifn_L1_I l i' := fun i' h1 h2 => ⟨h1, h2⟩
    have hμ : app2_ifn_L1_m l (i + 1) < app2_ifn_L1_m l i := by unfold app2_ifn_L1_m; omega
    generalize l.getD i.toNat 0 = x at *
    rw [fb_cons] at a4
    cases hx : (!isT x) with
    | true =>
      rw [hx] at a4
      rw [if_pos rfl, if_neg (by decide), Int.zero_add] at a4
      exact a4.symm
    | false =>
      rw [hx] at a4
      refine ⟨hF _ ⟨by omega, by omega, a3⟩ ?_, hμ, by simp⟩
      rw [e1]
      simp only [Bool.false_eq_true, if_false] at a4
      generalize fb (fun x => !isT x) (l.drop (i.toNat + 1)) = y at *
      by_cases hy : y = -1
      · rw [if_pos hy] at a4 ⊢
        simpa using a4
      · rw [if_neg hy] at a4 ⊢
        rw [if_neg (by omega)] at a4
        omega
  · rw [decide_eq_false hi]
    have e : l.drop i.toNat = [] := List.drop_eq_nil_of_le (by omega)
    rw [e] at a4
    simp [fb] at a4
    exact a4.symm
set_option maxRecDepth 100000 in
theorem app2_ifn_L1_entry1 (l : List Int) : (((app2_ifn_L1_I l (0 : Int)) ∧ (((0 : Int) = (0 : Int)) ∧ (((((List.length l) : Nat) : Int) = (((List.length l) : Nat) : Int)) ∧ (((0 : Int) = (0 : Int)) ∧ (True ∧ (True ∧ ((l = l) ∧ True)))))))) = app2_ifn_L1_E l (app2_ifn_L1_S1 l) := by kernel_rfl
theorem app2_ifn_L1_1 (l : List Int) (p0 : (decide ((l.length : Int) ≤ 1000000)) = true) (h : ((app2_ifn_L1_I l (0 : Int)) ∧ (((0 : Int) = (0 : Int)) ∧ (((((List.length l) : Nat) : Int) = (((List.length l) : Nat) : Int)) ∧ (((0 : Int) = (0 : Int)) ∧ (True ∧ (True ∧ ((l = l) ∧ True)))))))) : LoopP (ex Try.prog (conOf [app2_e]) (subC (bodyOf Try.f94) [1, 0, 1, 0, 0])) (kont Try.prog (conOf [app2_e]) (bodyOf Try.f94) [1, 0, 1, 0] (retPost Try.prog Try.f94 1 (app2_ifn_res l))) (app2_ifn_L1_S1 l) := by
  have hE : app2_ifn_L1_E l (app2_ifn_L1_S1 l) := Eq.mp (app2_ifn_L1_entry1 l) h
  unfold app2_ifn_L1_E at hE
  obtain ⟨i, hE⟩ := getI_of hE
  refine loop_of (α := (Int)) (fun xx_ => app2_ifn_L1_F l xx_) (fun xx_ => app2_ifn_L1_I l xx_) (fun xx_ => app2_ifn_L1_m l xx_) (fun xx_ => app2_ifn_L1_N l xx_) (fun xx_ => app2_ifn_L1_T l xx_) (fun xx_ s_ h => ?_) ⟨i, hE⟩ (fun xx_ => app2_ifn_L1_tree l xx_) (fun xx_ hI => app2_ifn_L1_round l xx_ p0 hI)
  unfold app2_ifn_L1_N at h
  obtain ⟨i, h⟩ := getI_of h
  exact ⟨i, h⟩
set_option maxRecDepth 100000 in
theorem app2_ifn_tree (l : List Int) : ((LoopP (ex Try.prog (conOf [app2_e]) (subC (bodyOf Try.f94) [1, 0, 1, 0, 0])) (kont Try.prog (conOf [app2_e]) (bodyOf Try.f94) [1, 0, 1, 0] (retPost Try.prog Try.f94 1 (app2_ifn_res l))) (app2_ifn_L1_S1 l))) = EXD Try.prog (conOf [app2_e]) Try.f94 [.cel (.row 0), .cel (.fn 51)] [.ints .i64 l] [] (app2_ifn_res l) := by kernel_rfl
theorem app2_ifn_holds (l : List Int) (p0 : (decide ((l.length : Int) ≤ 1000000)) = true) : (LoopP (ex Try.prog (conOf [app2_e]) (subC (bodyOf Try.f94) [1, 0, 1, 0, 0])) (kont Try.prog (conOf [app2_e]) (bodyOf Try.f94) [1, 0, 1, 0] (retPost Try.prog Try.f94 1 (app2_ifn_res l))) (app2_ifn_L1_S1 l)) := by
  have q0 := p0
  simp only [decide_eq_true_eq] at p0
  have b := (fb_bd (fun x => !isT x) l).1
  refine app2_ifn_L1_1 l q0  ⟨⟨⟨by omega, by omega, by omega⟩, ?_⟩, by simp⟩
  simp
set_option maxHeartbeats 2000000 in
theorem app2_ifn_ok : SoundEnt Try.prog app2_ifn_e := by
  refine ent_of_ex (Γ := (conOf [app2_e])) (conOf_sound (scons app2_ok snil)) (by kernel_rfl) Try.func94 (by kernel_rfl) (by kernel_rfl) (fun args rows caps res h ho => ?_)
  change app2_ifn_go args rows caps = some res at h
  unfold app2_ifn_go at h
  split at h
  · simp only [Option.some.injEq] at h
    subst h
    rename_i q0_
    obtain ⟨p0, _⟩ := ho
    exact EX.of (app2_ifn_tree q0_) (app2_ifn_holds q0_ p0)
  · cases h
def app2_cfn_res (l : List Int) : CRes := ⟨[decide ((l.length : Int) ≤ 1000000)], .one (.cel (.bool (l.any (fun x => !isT x)))), []⟩
def app2_cfn_go : List TV → List RowA → List (List CV) → Option CRes := fun args rows caps =>
  match args, rows, caps with
  | [.cel (.row 0), .cel (.fn 51)], [.ints .i64 l], [] => some (app2_cfn_res l)
  | _, _, _ => none
def app2_cfn_e : Ent := ⟨42, [.ints .i64 []], app2_cfn_go⟩
set_option maxRecDepth 100000 in
theorem app2_cfn_tree (l : List Int) : ((cnd (decide ((((List.length l) : Nat) : Int) ≤ (1000000 : Int)))
  ((decide ((0 : Int) ≤ (fb (fun x => (!(isT x))) l))) = (List.any l (fun x => (!(isT x)))))
  False)) = EXD Try.prog (conOf [app2_ifn_e]) Try.f42 [.cel (.row 0), .cel (.fn 51)] [.ints .i64 l] [] (app2_cfn_res l) := by kernel_rfl
theorem app2_cfn_holds (l : List Int) (p0 : (decide ((l.length : Int) ≤ 1000000)) = true) : (cnd (decide ((((List.length l) : Nat) : Int) ≤ (1000000 : Int)))
  ((decide ((0 : Int) ≤ (fb (fun x => (!(isT x))) l))) = (List.any l (fun x => (!(isT x)))))
  False) := by
  obtain ⟨b1, b2, b3⟩ := fb_bd (fun x => !isT x) l
  rw [p0]
  show decide (0 ≤ fb (fun x => !isT x) l) = l.any (fun x => !isT x)
  cases h : l.any (fun x => !isT x) with
  | false => rw [b3.2 h]; rfl
  | true =>
    have : ¬ fb (fun x => !isT x) l = -1 := fun e => by rw [b3.1 e] at h; cases h
    rw [decide_eq_true_eq]
    omega
set_option maxHeartbeats 2000000 in
theorem app2_cfn_ok : SoundEnt Try.prog app2_cfn_e := by
  refine ent_of_ex (Γ := (conOf [app2_ifn_e])) (conOf_sound (scons app2_ifn_ok snil)) (by kernel_rfl) Try.func42 (by kernel_rfl) (by kernel_rfl) (fun args rows caps res h ho => ?_)
  change app2_cfn_go args rows caps = some res at h
  unfold app2_cfn_go at h
  split at h
  · simp only [Option.some.injEq] at h
    subst h
    rename_i q0_
    obtain ⟨p0, _⟩ := ho
    exact EX.of (app2_cfn_tree q0_) (app2_cfn_holds q0_ p0)
  · cases h
/-- The edges that are not left out, moved. -/
def kpt (j d : List Int) : Int → List Int → List Int
  | _, [] => []
  | i, t :: l => if hasV i d then kpt j d (i + 1) l else (t + mvd j i) :: kpt j d (i + 1) l
theorem kpt_len (j d : List Int) : ∀ (l : List Int) (i : Int), (kpt j d i l).length ≤ l.length
  | [], _ => by simp [kpt]
  | t :: l, i => by
    have := kpt_len j d l (i + 1)
    rw [kpt]
    split
    · simp only [List.length_cons]; omega
    · simp only [List.length_cons]; omega
/-- A time is put into an ascending list. -/
def ins : List Int → Int → List Int
  | [], x => [x]
  | a :: l, x => if a < x then a :: ins l x else if a = x then a :: l else x :: a :: l
theorem ins_mem : ∀ (l : List Int) (x y : Int), y ∈ ins l x ↔ y = x ∨ y ∈ l
  | [], x, y => by simp [ins]
  | a :: l, x, y => by
    rw [ins]
    split
    · rw [List.mem_cons, List.mem_cons, ins_mem l x y]
      constructor
      · rintro (h | h | h) <;> simp [h]
      · rintro (h | h | h) <;> simp [h]
    · split
      · rename_i h1 h2
        rw [h2]
        simp
      · simp
theorem ins_asc : ∀ (l : List Int) (x : Int), l.Pairwise (· < ·) → (ins l x).Pairwise (· < ·)
  | [], x, _ => by simp [ins]
  | a :: l, x, h => by
    obtain ⟨h1, h2⟩ := List.pairwise_cons.1 h
    rw [ins]
    split
    · rename_i hx
      refine List.pairwise_cons.2 ⟨fun y hy => ?_, ins_asc l x h2⟩
      rcases (ins_mem l x y).1 hy with e | e
      · omega
      · exact h1 y e
    · split
      · exact h
      · rename_i h3 h4
        refine List.pairwise_cons.2 ⟨fun y hy => ?_, h⟩
        rcases List.mem_cons.1 hy with e | e
        · omega
        · have := h1 y e; omega
theorem asc_ext : ∀ {l m : List Int}, l.Pairwise (· < ·) → m.Pairwise (· < ·) → (∀ x, x ∈ l ↔ x ∈ m) → l = m
  | [], [], _, _, _ => rfl
  | [], b :: m, _, _, h => by have := (h b).2 (by simp); simp at this
  | a :: l, [], _, _, h => by have := (h a).1 (by simp); simp at this
  | a :: l, b :: m, hl, hm, h => by
    obtain ⟨l1, l2⟩ := List.pairwise_cons.1 hl
    obtain ⟨m1, m2⟩ := List.pairwise_cons.1 hm
    have e : a = b := by
      rcases List.mem_cons.1 ((h a).1 (by simp)) with e | e
      · exact e
      · rcases List.mem_cons.1 ((h b).2 (by simp)) with e' | e'
        · exact e'.symm
        · have := m1 a e; have := l1 b e'; omega
    subst e
    congr 1
    refine asc_ext l2 m2 fun x => ⟨fun hx => ?_, fun hx => ?_⟩
    · rcases List.mem_cons.1 ((h x).1 (by simp [hx])) with e | e
      · have := l1 x hx; omega
      · exact e
    · rcases List.mem_cons.1 ((h x).2 (by simp [hx])) with e | e
      · have := m1 x hx; omega
      · exact e
def nrm (l : List Int) : List Int := l.foldl ins []
theorem foldl_ins : ∀ (l o : List Int), o.Pairwise (· < ·) → (l.foldl ins o).Pairwise (· < ·) ∧ ∀ x, x ∈ l.foldl ins o ↔ x ∈ o ∨ x ∈ l
  | [], o, h => ⟨h, fun x => by simp⟩
  | a :: l, o, h => by
    obtain ⟨h1, h2⟩ := foldl_ins l (ins o a) (ins_asc o a h)
    refine ⟨h1, fun x => ?_⟩
    rw [List.foldl_cons, h2, ins_mem, List.mem_cons]
    constructor
    · rintro ((h | h) | h) <;> simp [h]
    · rintro (h | h | h) <;> simp [h]
theorem nrm_asc (l : List Int) : (nrm l).Pairwise (· < ·) := (foldl_ins l [] (by simp)).1
theorem nrm_mem (l : List Int) (x : Int) : x ∈ nrm l ↔ x ∈ l := by
  have := (foldl_ins l [] (by simp)).2 x
  unfold nrm
  simpa using this
theorem cmp_upTo (d : Array Int) : ∀ m, m ≤ d.size → (∀ i j, i ≤ j → j < d.size → d[i]! ≤ d[j]!) → (Lib.compactUpTo d m).Pairwise (· < ·) ∧ (∀ x, x ∈ Lib.compactUpTo d m ↔ ∃ j, j < m ∧ d[j]! = x)
  | 0, _, _ => by simp [Lib.compactUpTo]
  | m + 1, hm, hs => by
    obtain ⟨h1, h2⟩ := cmp_upTo d m (by omega) hs
    rw [Lib.compactUpTo_succ]
    by_cases hk : Lib.keeps d m = true
    · rw [if_pos hk]
      have hk' : m = 0 ∨ d[m]! ≠ d[m - 1]! := by simpa [Lib.keeps] using hk
      refine ⟨List.pairwise_append.2 ⟨h1, by simp, fun x hx y hy => ?_⟩, fun x => ?_⟩
      · obtain ⟨j, hj, rfl⟩ := (h2 x).1 hx
        simp only [List.mem_singleton] at hy
        subst hy
        rcases hk' with h | h
        · omega
        · have a1 := hs j (m - 1) (by omega) (by omega)
          have a2 := hs (m - 1) m (by omega) (by omega)
          omega
      · rw [List.mem_append, h2, List.mem_singleton]
        constructor
        · rintro (⟨j, hj, h⟩ | h)
          · exact ⟨j, by omega, h⟩
          · exact ⟨m, by omega, h.symm⟩
        · rintro ⟨j, hj, h⟩
          by_cases e : j = m
          · subst e; exact .inr h.symm
          · exact .inl ⟨j, by omega, h⟩
    · rw [if_neg hk, List.append_nil]
      have hk' : ¬ m = 0 ∧ d[m]! = d[m - 1]! := by simpa [Lib.keeps] using hk
      refine ⟨h1, fun x => ?_⟩
      rw [h2]
      constructor
      · rintro ⟨j, hj, h⟩
        exact ⟨j, by omega, h⟩
      · rintro ⟨j, hj, h⟩
        by_cases e : j = m
        · subst e; exact ⟨j - 1, by omega, by rw [← hk'.2]; exact h⟩
        · exact ⟨j, by omega, h⟩
theorem arr_get {l : List Int} {i : Nat} (h : i < l.length) : l.toArray[i]! = l[i] := by
  simp [getElem!_pos, h]
/-- Sorted and compacted: as if put in one by one. -/
theorem cmp_srt (l : List Int) : cmpL (srt l) = nrm l := by
  have hperm : (srt l).Perm l := List.mergeSort_perm l _
  have hsort : (srt l).Pairwise (fun a b => decide (a ≤ b) = true) := List.pairwise_mergeSort (by simp; omega) (by simp; omega) l
  have hs : ∀ i j, i ≤ j → j < (srt l).toArray.size → (srt l).toArray[i]! ≤ (srt l).toArray[j]! := by
    intro i j hij hj
    simp only [List.size_toArray] at hj
    rw [arr_get (show i < (srt l).length by omega), arr_get hj]
    by_cases e : i = j
    · subst e; exact Int.le_refl _
    · have := List.pairwise_iff_getElem.1 hsort i j (by omega) hj (by omega)
      simpa using this
  obtain ⟨h1, h2⟩ := cmp_upTo (srt l).toArray (srt l).length (by simp) hs
  refine asc_ext h1 (nrm_asc l) fun x => ?_
  rw [nrm_mem, ← hperm.mem_iff]
  unfold cmpL Lib.compact
  rw [h2, List.mem_iff_getElem]
  constructor
  · rintro ⟨j, hj, h⟩
    rw [arr_get hj] at h
    exact ⟨j, hj, h⟩
  · rintro ⟨j, hj, h⟩
    exact ⟨j, hj, by rw [arr_get hj]; exact h⟩
def rawL (l j d u : List Int) : List Int := kpt j d 0 l ++ u
def badN (l j d : List Int) : Bool := !j.all isJ || d.any (fun x => outB l.length x)
def apE (l j d u : List Int) : Int := if vE l then (if lngB j d u then 5 else if badN l j d then 2 else if (rawL l j d u).all isT then (if 1000 < (nrm (rawL l j d u)).length then 5 else 0) else 2) else 1
def apL (l j d u : List Int) : List Int := if apE l j d u = 0 then nrm (rawL l j d u) else []
def apply_res (l : List Int) (j : List Int) (d : List Int) (u : List Int) : CRes := ⟨[], .tup [.cel (.row 4), .cel (.int .i64 (apE l j d u))], [.ints .i64 (apL l j d u)]⟩
def apply_go : List TV → List RowA → List (List CV) → Option CRes := fun args rows caps =>
  match args, rows, caps with
  | [.cel (.row 0), .agg [.row 1, .row 2, .row 3]], [.ints .i64 l, .ints .i64 j, .ints .i64 d, .ints .i64 u], [] => some (apply_res l j d u)
  | _, _, _ => none
def apply_e : Ent := ⟨16, [.ints .i64 [], .ints .i64 [], .ints .i64 [], .ints .i64 []], apply_go⟩
def apply_L1_F (l : List Int) (j : List Int) (d : List Int) (u : List Int) (i : Int) (o : List Int) : St := ⟨60, [], [(27, (.one (.cel (.int .i64 i)))), (26, (.one (.cel (.int .i64 (((List.length l) : Nat) : Int))))), (25, (.one (.cel (.row 0)))), (6, (.one (.cel (.row 4)))), (5, (.one (.cel (.int .i64 (0 : Int))))), (4, (.one (.cel .nilS))), (3, (.one (.cel (.ptr 1 0))))], [[(.row 0)], [(.row 1), (.row 2), (.row 3)]], [⟨(.ints .i64 l), none⟩, ⟨(.ints .i64 j), none⟩, ⟨(.ints .i64 d), none⟩, ⟨(.ints .i64 u), none⟩, ⟨(.ints .i64 o), some 3⟩], 0⟩
def apply_L1_I (l : List Int) (j : List Int) (d : List Int) (u : List Int) (i : Int) (o : List Int) : Prop := (vE l = true ∧ lngB j d u = false ∧ badN l j d = false) ∧ (0 ≤ i ∧ i ≤ l.length ∧ (o.length : Int) ≤ i) ∧ (o ++ kpt j d i (l.drop i.toNat) = kpt j d 0 l)
def apply_L1_m (l : List Int) (j : List Int) (d : List Int) (u : List Int) (i : Int) (o : List Int) : Nat := (l.length - i).toNat
def apply_L1_N (l : List Int) (j : List Int) (d : List Int) (u : List Int) (i' : Int) (o' : List Int) (st_ : St) : Prop := getI st_ 27 fun i => getR st_ 6 fun o => apply_L1_I l j d u i o ∧ apply_L1_m l j d u i o < apply_L1_m l j d u i' o' ∧ SubA st_ (apply_L1_F l j d u i o)
def apply_L1_E (l : List Int) (j : List Int) (d : List Int) (u : List Int) (st_ : St) : Prop := getI st_ 27 fun i => getR st_ 6 fun o => apply_L1_I l j d u i o ∧ SubA st_ (apply_L1_F l j d u i o)
def apply_L1_S1 (l : List Int) (j : List Int) (d : List Int) (u : List Int) : St := ⟨60, [19], [(27, (.one (.cel (.int .i64 (0 : Int))))), (26, (.one (.cel (.int .i64 (((List.length l) : Nat) : Int))))), (25, (.one (.cel (.row 0)))), (6, (.one (.cel .nilS))), (16, (.one (.cel (.bool ((List.any j (fun x => (!(isJ x)))) || (List.any d (fun x => (outB (((List.length l) : Nat) : Int) x)))))))), (24, (.one (.cel (.bool ((List.any j (fun x => (!(isJ x)))) || (List.any d (fun x => (outB (((List.length l) : Nat) : Int) x)))))))), (23, (.spec 19 Bool.false (.cel (.bool (List.any d (fun x => (outB (((List.length l) : Nat) : Int) x))))))), (22, (.spec 19 Bool.false (.cel (.clo 49 [0])))), (21, (.spec 19 Bool.false (.cel (.row 2)))), (20, (.spec 19 Bool.false (.cel (.ptr 1 1)))), (19, (.one (.cel (.bool (List.any j (fun x => (!(isJ x)))))))), (18, (.one (.cel (.bool (List.any j (fun x => (!(isJ x)))))))), (17, (.one (.agg [(.row 1), (.row 2), (.row 3)]))), (13, (.one (.cel (.bool (lngB j d u))))), (15, (.one (.cel (.bool (lngB j d u))))), (14, (.one (.agg [(.row 1), (.row 2), (.row 3)]))), (9, (.one (.cel (.bool (!(vE l)))))), (12, (.one (.cel (.bool (!(vE l)))))), (11, (.one (.cel (.bool (vE l))))), (10, (.one (.cel (.row 0)))), (5, (.one (.cel (.int .i64 (0 : Int))))), (4, (.one (.cel .nilS))), (3, (.one (.cel (.ptr 1 0)))), (2, (.one (.cel (.ptr 0 0)))), (0, (.one (.cel (.row 0)))), (1, (.one (.agg [(.row 1), (.row 2), (.row 3)])))], [[(.row 0)], [(.row 1), (.row 2), (.row 3)]], [⟨(.ints .i64 l), none⟩, ⟨(.ints .i64 j), none⟩, ⟨(.ints .i64 d), none⟩, ⟨(.ints .i64 u), none⟩], 0⟩
def apply_L1_T (l : List Int) (j : List Int) (d : List Int) (u : List Int) (i : Int) (o : List Int) : Prop := (cnd (decide (i < (((List.length l) : Nat) : Int)))
  (cnd (decide ((0 : Int) ≤ i))
    (cnd (decide (i < (((List.length l) : Nat) : Int)))
      (cnd (decide ((((List.length d) : Nat) : Int) ≤ (1000000 : Int)))
        (cnd (!(hasV i d))
          (cnd (decide ((0 : Int) ≤ i))
            (cnd (decide ((List.length (o ++ [(Go.IntKind.wrap Go.IntKind.i64 ((List.getD l (Int.toNat i) (0 : Int)) + (mvd j i)))])) ≤ 4294967296))
              ((apply_L1_I l j d u (Go.IntKind.wrap Go.IntKind.i64 (i + (1 : Int))) (o ++ [(Go.IntKind.wrap Go.IntKind.i64 ((List.getD l (Int.toNat i) (0 : Int)) + (mvd j i)))])) ∧ (((apply_L1_m l j d u (Go.IntKind.wrap Go.IntKind.i64 (i + (1 : Int))) (o ++ [(Go.IntKind.wrap Go.IntKind.i64 ((List.getD l (Int.toNat i) (0 : Int)) + (mvd j i)))])) < (apply_L1_m l j d u i o)) ∧ (((Go.IntKind.wrap Go.IntKind.i64 (i + (1 : Int))) = (Go.IntKind.wrap Go.IntKind.i64 (i + (1 : Int)))) ∧ (((((List.length l) : Nat) : Int) = (((List.length l) : Nat) : Int)) ∧ (True ∧ (True ∧ (((0 : Int) = (0 : Int)) ∧ (True ∧ (True ∧ (True ∧ ((True ∧ (True ∧ True)) ∧ ((l = l) ∧ ((j = j) ∧ ((d = d) ∧ ((u = u) ∧ (((o ++ [(Go.IntKind.wrap Go.IntKind.i64 ((List.getD l (Int.toNat i) (0 : Int)) + (mvd j i)))]) = (o ++ [(Go.IntKind.wrap Go.IntKind.i64 ((List.getD l (Int.toNat i) (0 : Int)) + (mvd j i)))])) ∧ True))))))))))))))))
              False)
            False)
          ((apply_L1_I l j d u (Go.IntKind.wrap Go.IntKind.i64 (i + (1 : Int))) o) ∧ (((apply_L1_m l j d u (Go.IntKind.wrap Go.IntKind.i64 (i + (1 : Int))) o) < (apply_L1_m l j d u i o)) ∧ (((Go.IntKind.wrap Go.IntKind.i64 (i + (1 : Int))) = (Go.IntKind.wrap Go.IntKind.i64 (i + (1 : Int)))) ∧ (((((List.length l) : Nat) : Int) = (((List.length l) : Nat) : Int)) ∧ (True ∧ (True ∧ (((0 : Int) = (0 : Int)) ∧ (True ∧ (True ∧ (True ∧ ((True ∧ (True ∧ True)) ∧ ((l = l) ∧ ((j = j) ∧ ((d = d) ∧ ((u = u) ∧ ((o = o) ∧ True)))))))))))))))))
        False)
      False)
    False)
  (cnd (decide ((List.length (o ++ u)) ≤ 4294967296))
    (cnd (decide ((((List.length (o ++ u)) : Nat) : Int) ≤ (1000000 : Int)))
      (cnd (List.any (o ++ u) (fun x => (!(isT x))))
        ((True ∧ ((2 : Int) = (apE l j d u))) ∧ (((apL l j d u) = ([] : List Int)) ∧ True))
        (cnd (decide ((((List.length (o ++ u)) : Nat) : Int) ≤ (1000000 : Int)))
          (cnd (decide ((((List.length (srt (o ++ u))) : Nat) : Int) ≤ (1000000 : Int)))
            (cnd (decide ((1000 : Int) < (((List.length (cmpL (srt (o ++ u)))) : Nat) : Int)))
              ((True ∧ ((5 : Int) = (apE l j d u))) ∧ (((apL l j d u) = ([] : List Int)) ∧ True))
              ((True ∧ ((0 : Int) = (apE l j d u))) ∧ (((cmpL (srt (o ++ u))) = (apL l j d u)) ∧ True)))
            False)
          False))
      False)
    False))
set_option maxRecDepth 100000 in
theorem apply_L1_tree (l : List Int) (j : List Int) (d : List Int) (u : List Int) (i : Int) (o : List Int) : apply_L1_T l j d u i o = ex Try.prog (inlOf Try.prog [sValid_e, long_e, shaky_e, app1_cfn_e, scontains_e, moved_e, app2_cfn_e] [] [sortS, compS]) (subC (bodyOf Try.f16) [1, 1, 1, 0, 1, 0, 0]) (nextE (apply_L1_N l j d u i o) (kont Try.prog (inlOf Try.prog [sValid_e, long_e, shaky_e, app1_cfn_e, scontains_e, moved_e, app2_cfn_e] [] [sortS, compS]) (bodyOf Try.f16) [1, 1, 1, 0, 1, 0] (retPost Try.prog Try.f16 4 (apply_res l j d u)))) (apply_L1_F l j d u i o) := by kernel_rfl
set_option maxRecDepth 100000 in
theorem apply_L1_round (l : List Int) (j : List Int) (d : List Int) (u : List Int) (i : Int) (o : List Int)  (hI_L1 : apply_L1_I l j d u i o) : apply_L1_T l j d u i o := by
  obtain ⟨⟨w1, w2, w3⟩, ⟨a1, a2, a3⟩, a4⟩ := hI_L1
  obtain ⟨v1, v2, v3⟩ := vE_iff.1 w1
  have hlen : j.length ≤ 1000 ∧ d.length ≤ 1000 ∧ u.length ≤ 1000 := by
    unfold lngB at w2
    simp only [Bool.or_eq_false_iff, decide_eq_false_iff_not] at w2
    omega
  have hj : j.all isJ = true := by
    unfold badN at w3
    simp only [Bool.or_eq_false_iff, Bool.not_eq_false'] at w3
    exact w3.1
  have hF : ∀ o' : List Int, i < l.length → (o'.length : Int) ≤ i + 1 → o' ++ kpt j d (i + 1) (l.drop (i.toNat + 1)) = kpt j d 0 l → apply_L1_I l j d u (i + 1) o' := fun o' h1 h2 h3 => ⟨⟨w1, w2, w3⟩, ⟨by omega, by omega, h2⟩, by rw [show (i + 1).toNat = i.toNat + 1 by omega]; exact h3⟩
  have hμ : ∀ o', i < l.length → apply_L1_m l j d u (i + 1) o' < apply_L1_m l j d u i o := fun o' h => by unfold apply_L1_m; omega
  unfold apply_L1_T
  by_cases hi : i < l.length
  · rw [drop_consI a1 hi, kpt] at a4
    have t0 := isT_iff.1 (all_get v2 (j := i.toNat) (by omega))
    have hJ := isJ_iff.1 (mvd_J hj i)
    rw [decide_eq_true hi, decide_eq_true a1, decide_eq_true (show (d.length : Int) ≤ 1000000 by omega), w64 (n := i + 1) (by omega) (by omega), w64 (n := l.getD i.toNat 0 + mvd j i) (by omega) (by omega)]
    have hl1 : (o ++ [l.getD i.toNat 0 + mvd j i]).length = o.length + 1 := by simp
    cases hv : hasV i d with
    | true =>
      rw [hv, if_pos rfl] at a4
      exact ⟨hF _ hi (by omega) a4, hμ _ hi, by simp⟩
    | false =>
      rw [hv] at a4
      rw [decide_eq_true (show (o ++ [l.getD i.toNat 0 + mvd j i]).length ≤ 4294967296 by omega)]
      refine ⟨hF _ hi (by omega) ?_, hμ _ hi, by simp⟩
      rw [List.append_assoc]
      exact a4
  · rw [decide_eq_false hi]
    rw [List.drop_eq_nil_of_le (by omega), kpt, List.append_nil] at a4
    have hR : o ++ u = rawL l j d u := by unfold rawL; rw [a4]
    have hl2 : (rawL l j d u).length ≤ 2000 := by
      rw [← hR, List.length_append]
      omega
    have hs2 := srt_len (rawL l j d u)
    rw [hR, any_not, cmp_srt, decide_eq_true (show (rawL l j d u).length ≤ 4294967296 by omega), decide_eq_true (show ((rawL l j d u).length : Int) ≤ 1000000 by omega), decide_eq_true (show ((srt (rawL l j d u)).length : Int) ≤ 1000000 by omega)]
    cases hT : (rawL l j d u).all isT with
    | false =>
      have hE : apE l j d u = 2 := by unfold apE; rw [if_pos w1, w2, w3, hT]; rfl
      exact ⟨⟨trivial, hE.symm⟩, by unfold apL; rw [hE]; rfl, trivial⟩
    | true =>
      by_cases hn : (1000 : Int) < (nrm (rawL l j d u)).length
      · have hE : apE l j d u = 5 := by
          unfold apE
          rw [if_pos w1, w2, w3, hT]
          simp only [Bool.false_eq_true, if_false, if_true]
          rw [if_pos (by omega)]
        rw [decide_eq_true hn]
        exact ⟨⟨trivial, hE.symm⟩, by unfold apL; rw [hE]; rfl, trivial⟩
      · have hE : apE l j d u = 0 := by
          unfold apE
          rw [if_pos w1, w2, w3, hT]
          simp only [Bool.false_eq_true, if_false, if_true]
          rw [if_neg (by omega)]
        rw [decide_eq_false hn]
        exact ⟨⟨trivial, hE.symm⟩, by unfold apL; rw [hE]; rfl, trivial⟩
set_option maxRecDepth 100000 in
theorem apply_L1_entry1 (l : List Int) (j : List Int) (d : List Int) (u : List Int) : (((apply_L1_I l j d u (0 : Int) ([] : List Int)) ∧ (((0 : Int) = (0 : Int)) ∧ (((((List.length l) : Nat) : Int) = (((List.length l) : Nat) : Int)) ∧ (True ∧ (True ∧ (((0 : Int) = (0 : Int)) ∧ (True ∧ (True ∧ (True ∧ ((True ∧ (True ∧ True)) ∧ ((l = l) ∧ ((j = j) ∧ ((d = d) ∧ ((u = u) ∧ ((([] : List Int) = ([] : List Int)) ∧ True)))))))))))))))) = apply_L1_E l j d u (apply_L1_S1 l j d u) := by kernel_rfl
theorem apply_L1_1 (l : List Int) (j : List Int) (d : List Int) (u : List Int)  (h : ((apply_L1_I l j d u (0 : Int) ([] : List Int)) ∧ (((0 : Int) = (0 : Int)) ∧ (((((List.length l) : Nat) : Int) = (((List.length l) : Nat) : Int)) ∧ (True ∧ (True ∧ (((0 : Int) = (0 : Int)) ∧ (True ∧ (True ∧ (True ∧ ((True ∧ (True ∧ True)) ∧ ((l = l) ∧ ((j = j) ∧ ((d = d) ∧ ((u = u) ∧ ((([] : List Int) = ([] : List Int)) ∧ True)))))))))))))))) : LoopP (ex Try.prog (inlOf Try.prog [sValid_e, long_e, shaky_e, app1_cfn_e, scontains_e, moved_e, app2_cfn_e] [] [sortS, compS]) (subC (bodyOf Try.f16) [1, 1, 1, 0, 1, 0, 0])) (kont Try.prog (inlOf Try.prog [sValid_e, long_e, shaky_e, app1_cfn_e, scontains_e, moved_e, app2_cfn_e] [] [sortS, compS]) (bodyOf Try.f16) [1, 1, 1, 0, 1, 0] (retPost Try.prog Try.f16 4 (apply_res l j d u))) (apply_L1_S1 l j d u) := by
  have hE : apply_L1_E l j d u (apply_L1_S1 l j d u) := Eq.mp (apply_L1_entry1 l j d u) h
  unfold apply_L1_E at hE
  obtain ⟨i, hE⟩ := getI_of hE
  obtain ⟨o, hE⟩ := getR_of hE
  refine loop_of (α := (Int) × (List Int)) (fun xx_ => apply_L1_F l j d u xx_.1 xx_.2) (fun xx_ => apply_L1_I l j d u xx_.1 xx_.2) (fun xx_ => apply_L1_m l j d u xx_.1 xx_.2) (fun xx_ => apply_L1_N l j d u xx_.1 xx_.2) (fun xx_ => apply_L1_T l j d u xx_.1 xx_.2) (fun xx_ s_ h => ?_) ⟨⟨i, o⟩, hE⟩ (fun xx_ => apply_L1_tree l j d u xx_.1 xx_.2) (fun xx_ hI => apply_L1_round l j d u xx_.1 xx_.2  hI)
  unfold apply_L1_N at h
  obtain ⟨i, h⟩ := getI_of h
  obtain ⟨o, h⟩ := getR_of h
  exact ⟨⟨i, o⟩, h⟩
set_option maxRecDepth 100000 in
theorem apply_tree (l : List Int) (j : List Int) (d : List Int) (u : List Int) : ((cnd (!(vE l))
  ((True ∧ ((1 : Int) = (apE l j d u))) ∧ (((apL l j d u) = ([] : List Int)) ∧ True))
  (cnd (lngB j d u)
    ((True ∧ ((5 : Int) = (apE l j d u))) ∧ (((apL l j d u) = ([] : List Int)) ∧ True))
    (cnd (decide ((((List.length j) : Nat) : Int) ≤ (1000000 : Int)))
      (cnd ((!((List.any j (fun x => (!(isJ x)))) == Bool.false)) || (decide ((((List.length d) : Nat) : Int) ≤ (1000000 : Int))))
        (cnd ((List.any j (fun x => (!(isJ x)))) || (List.any d (fun x => (outB (((List.length l) : Nat) : Int) x))))
          ((True ∧ ((2 : Int) = (apE l j d u))) ∧ (((apL l j d u) = ([] : List Int)) ∧ True))
          (LoopP (ex Try.prog (inlOf Try.prog [sValid_e, long_e, shaky_e, app1_cfn_e, scontains_e, moved_e, app2_cfn_e] [] [sortS, compS]) (subC (bodyOf Try.f16) [1, 1, 1, 0, 1, 0, 0])) (kont Try.prog (inlOf Try.prog [sValid_e, long_e, shaky_e, app1_cfn_e, scontains_e, moved_e, app2_cfn_e] [] [sortS, compS]) (bodyOf Try.f16) [1, 1, 1, 0, 1, 0] (retPost Try.prog Try.f16 4 (apply_res l j d u))) (apply_L1_S1 l j d u)))
        False)
      False)))) = EXD Try.prog (inlOf Try.prog [sValid_e, long_e, shaky_e, app1_cfn_e, scontains_e, moved_e, app2_cfn_e] [] [sortS, compS]) Try.f16 [.cel (.row 0), .agg [.row 1, .row 2, .row 3]] [.ints .i64 l, .ints .i64 j, .ints .i64 d, .ints .i64 u] [] (apply_res l j d u) := by kernel_rfl
theorem apply_holds (l : List Int) (j : List Int) (d : List Int) (u : List Int)  : (cnd (!(vE l))
  ((True ∧ ((1 : Int) = (apE l j d u))) ∧ (((apL l j d u) = ([] : List Int)) ∧ True))
  (cnd (lngB j d u)
    ((True ∧ ((5 : Int) = (apE l j d u))) ∧ (((apL l j d u) = ([] : List Int)) ∧ True))
    (cnd (decide ((((List.length j) : Nat) : Int) ≤ (1000000 : Int)))
      (cnd ((!((List.any j (fun x => (!(isJ x)))) == Bool.false)) || (decide ((((List.length d) : Nat) : Int) ≤ (1000000 : Int))))
        (cnd ((List.any j (fun x => (!(isJ x)))) || (List.any d (fun x => (outB (((List.length l) : Nat) : Int) x))))
          ((True ∧ ((2 : Int) = (apE l j d u))) ∧ (((apL l j d u) = ([] : List Int)) ∧ True))
          (LoopP (ex Try.prog (inlOf Try.prog [sValid_e, long_e, shaky_e, app1_cfn_e, scontains_e, moved_e, app2_cfn_e] [] [sortS, compS]) (subC (bodyOf Try.f16) [1, 1, 1, 0, 1, 0, 0])) (kont Try.prog (inlOf Try.prog [sValid_e, long_e, shaky_e, app1_cfn_e, scontains_e, moved_e, app2_cfn_e] [] [sortS, compS]) (bodyOf Try.f16) [1, 1, 1, 0, 1, 0] (retPost Try.prog Try.f16 4 (apply_res l j d u))) (apply_L1_S1 l j d u)))
        False)
      False))) := by
  cases w1 : vE l with
  | false =>
    have hE : apE l j d u = 1 := by unfold apE; rw [w1]; rfl
    exact ⟨⟨trivial, hE.symm⟩, by unfold apL; rw [hE]; rfl, trivial⟩
  | true =>
    cases w2 : lngB j d u with
    | true =>
      have hE : apE l j d u = 5 := by unfold apE; rw [w1, w2]; rfl
      exact ⟨⟨trivial, hE.symm⟩, by unfold apL; rw [hE]; rfl, trivial⟩
    | false =>
      have hlen : j.length ≤ 1000 ∧ d.length ≤ 1000 ∧ u.length ≤ 1000 := by
        unfold lngB at w2
        simp only [Bool.or_eq_false_iff, decide_eq_false_iff_not] at w2
        omega
      rw [decide_eq_true (show (j.length : Int) ≤ 1000000 by omega), decide_eq_true (show (d.length : Int) ≤ 1000000 by omega), any_not, Bool.or_true]
      cases w3 : (!j.all isJ || d.any (fun x => outB l.length x)) with
      | true =>
        have hE : apE l j d u = 2 := by unfold apE badN; rw [w1, w2, w3]; rfl
        exact ⟨⟨trivial, hE.symm⟩, by unfold apL; rw [hE]; rfl, trivial⟩
      | false =>
        exact apply_L1_1 l j d u ⟨⟨⟨w1, w2, w3⟩, ⟨by omega, by omega, by simp⟩, by simp⟩, by simp⟩
set_option maxHeartbeats 2000000 in
theorem apply_ok : SoundEnt Try.prog apply_e := by
  refine ent_of_ex (Γ := (inlOf Try.prog [sValid_e, long_e, shaky_e, app1_cfn_e, scontains_e, moved_e, app2_cfn_e] [] [sortS, compS])) (inlOf_sound (scons sValid_ok (scons long_ok (scons shaky_ok (scons app1_cfn_ok (scons scontains_ok (scons moved_ok (scons app2_cfn_ok snil))))))) (by kernel_rfl) trivial (spcons sortS_ok (spcons compS_ok spnil))) (by kernel_rfl) Try.func16 (by kernel_rfl) (by kernel_rfl) (fun args rows caps res h ho => ?_)
  change apply_go args rows caps = some res at h
  unfold apply_go at h
  split at h
  · simp only [Option.some.injEq] at h
    subst h
    rename_i q0_ q1_ q2_ q3_
    skip
    exact EX.of (apply_tree q0_ q1_ q2_ q3_) (apply_holds q0_ q1_ q2_ q3_)
  · cases h
end Go.Proofs.Ythfliohfkhnpiaa

