/- Knocking of all cylinders. -/
import Derived.Test.YtoklfnonbfcdlaaK2
import Derived.Test.YtoklfnonbfcdlaaOr
import Derived.Test.YtoklfnonbfcdlaaFb
namespace Go.Proofs.Ytoklfnonbfcdlaa
set_option linter.unusedVariables false
set_option linter.unusedSimpArgs false
open Go.RowKit

def stK (x : List Int) (n : Int) : List Int := [stR (x.getD 0 0) (x.getD 1 0) (x.getD 2 0) n, stN (x.getD 1 0) n, stQ (x.getD 1 0) (x.getD 2 0) n]
def allL : List (List Int) → List Int → List (List Int)
  | x :: l, n :: m => stK x n :: allL l m
  | _, _ => []
def kB (x : List Int) : Bool := knockB (List.getD x 0 0) (List.getD x (0 + 1) 0) (List.getD x ((0 + 1) + 1) 0)
def all1_res (r : Int) (n : Int) (q : Int) : CRes := ⟨[], .one (.cel (.bool (!knockB r n q))), []⟩
def all1_go : List TV → List RowA → List (List CV) → Option CRes := fun args rows caps =>
  match args, rows, caps with
  | [.agg [.int .i64 r, .int .i64 n, .int .i64 q]], [], [] => some (all1_res r n q)
  | _, _, _ => none
def all1_e : Ent := ⟨29, [], all1_go⟩
set_option maxRecDepth 100000 in
theorem all1_tree (r : Int) (n : Int) (q : Int) : (((!(knockB r n q)) = (!(knockB r n q)))) = EXD Try.prog (conOf [valid_e]) Try.f29 [.agg [.int .i64 r, .int .i64 n, .int .i64 q]] [] [] (all1_res r n q) := by kernel_rfl
theorem all1_holds (r : Int) (n : Int) (q : Int)  : ((!(knockB r n q)) = (!(knockB r n q))) := by
  rfl
set_option maxHeartbeats 2000000 in
theorem all1_ok : SoundEnt Try.prog all1_e := by
  refine ent_of_ex (Γ := (conOf [valid_e])) (conOf_sound (scons valid_ok snil)) (by kernel_rfl) Try.func29 (by kernel_rfl) (by kernel_rfl) (fun args rows caps res h ho => ?_)
  change all1_go args rows caps = some res at h
  unfold all1_go at h
  split at h
  · simp only [Option.some.injEq] at h
    subst h
    rename_i q0_ q1_ q2_
    skip
    exact EX.of (all1_tree q0_ q1_ q2_) (all1_holds q0_ q1_ q2_)
  · cases h
def all2_res (n : Int) : CRes := ⟨[], .one (.cel (.bool (!intensityB n))), []⟩
def all2_go : List TV → List RowA → List (List CV) → Option CRes := fun args rows caps =>
  match args, rows, caps with
  | [.cel (.int .i64 n)], [], [] => some (all2_res n)
  | _, _, _ => none
def all2_e : Ent := ⟨30, [], all2_go⟩
set_option maxRecDepth 100000 in
theorem all2_tree (n : Int) : (((!(intensityB n)) = (!(intensityB n)))) = EXD Try.prog (conOf [intensity_e]) Try.f30 [.cel (.int .i64 n)] [] [] (all2_res n) := by kernel_rfl
theorem all2_holds (n : Int)  : ((!(intensityB n)) = (!(intensityB n))) := by
  rfl
set_option maxHeartbeats 2000000 in
theorem all2_ok : SoundEnt Try.prog all2_e := by
  refine ent_of_ex (Γ := (conOf [intensity_e])) (conOf_sound (scons intensity_ok snil)) (by kernel_rfl) Try.func30 (by kernel_rfl) (by kernel_rfl) (fun args rows caps res h ho => ?_)
  change all2_go args rows caps = some res at h
  unfold all2_go at h
  split at h
  · simp only [Option.some.injEq] at h
    subst h
    rename_i q0_
    skip
    exact EX.of (all2_tree q0_) (all2_holds q0_)
  · cases h
def all1_ifn_res (l : List (List Int)) : CRes := ⟨[decide ((l.length : Int) ≤ 1000000)], .one (.cel (.int .i64 (fb (fun x => !knockB (List.getD x 0 0) (List.getD x (0 + 1) 0) (List.getD x ((0 + 1) + 1) 0)) l))), []⟩
def all1_ifn_go : List TV → List RowA → List (List CV) → Option CRes := fun args rows caps =>
  match args, rows, caps with
  | [.cel (.row 0), .cel (.fn 29)], [.recs [.int .i64, .int .i64, .int .i64] l], [] => some (all1_ifn_res l)
  | _, _, _ => none
def all1_ifn_e : Ent := ⟨37, [.recs [.int .i64, .int .i64, .int .i64] []], all1_ifn_go⟩
def all1_ifn_L1_F (l : List (List Int)) (i : Int) : St := ⟨19, [], [(8, (.one (.cel (.int .i64 i)))), (7, (.one (.cel (.int .i64 (((List.length l) : Nat) : Int))))), (4, (.one (.cel (.int .i64 (0 : Int))))), (0, (.one (.cel (.row 0)))), (1, (.one (.cel (.fn 29))))], [], [⟨(.recs [.int .i64, .int .i64, .int .i64] l), none⟩], 0⟩
def all1_ifn_L1_I (l : List (List Int)) (i : Int) : Prop := (0 ≤ i ∧ i ≤ l.length ∧ (l.length : Int) ≤ 1000000) ∧ (fb (fun x => !knockB (List.getD x 0 0) (List.getD x (0 + 1) 0) (List.getD x ((0 + 1) + 1) 0)) l = (if fb (fun x => !knockB (List.getD x 0 0) (List.getD x (0 + 1) 0) (List.getD x ((0 + 1) + 1) 0)) (l.drop i.toNat) = -1 then -1 else fb (fun x => !knockB (List.getD x 0 0) (List.getD x (0 + 1) 0) (List.getD x ((0 + 1) + 1) 0)) (l.drop i.toNat) + i))
def all1_ifn_L1_m (l : List (List Int)) (i : Int) : Nat := (l.length - i).toNat
def all1_ifn_L1_N (l : List (List Int)) (i' : Int) (st_ : St) : Prop := getI st_ 8 fun i => all1_ifn_L1_I l i ∧ all1_ifn_L1_m l i < all1_ifn_L1_m l i' ∧ SubA st_ (all1_ifn_L1_F l i)
def all1_ifn_L1_E (l : List (List Int)) (st_ : St) : Prop := getI st_ 8 fun i => all1_ifn_L1_I l i ∧ SubA st_ (all1_ifn_L1_F l i)
def all1_ifn_L1_S1 (l : List (List Int)) : St := ⟨19, [], [(8, (.one (.cel (.int .i64 (0 : Int))))), (7, (.one (.cel (.int .i64 (((List.length l) : Nat) : Int))))), (6, (.one (.cel (.row 0)))), (4, (.one (.cel (.int .i64 (0 : Int))))), (0, (.one (.cel (.row 0)))), (1, (.one (.cel (.fn 29))))], [], [⟨(.recs [.int .i64, .int .i64, .int .i64] l), none⟩], 0⟩
def all1_ifn_L1_T (l : List (List Int)) (i : Int) : Prop := (cnd (decide (i < (((List.length l) : Nat) : Int)))
  (cnd (decide ((0 : Int) ≤ i))
    (cnd (decide (i < (((List.length l) : Nat) : Int)))
      (cnd (!(knockB (List.getD (List.getD l (Int.toNat i) ([] : List Int)) 0 (0 : Int)) (List.getD (List.getD l (Int.toNat i) ([] : List Int)) (0 + 1) (0 : Int)) (List.getD (List.getD l (Int.toNat i) ([] : List Int)) ((0 + 1) + 1) (0 : Int))))
        (i = (fb (fun x => (!(knockB (List.getD x 0 (0 : Int)) (List.getD x (0 + 1) (0 : Int)) (List.getD x ((0 + 1) + 1) (0 : Int))))) l))
        ((all1_ifn_L1_I l (Go.IntKind.wrap Go.IntKind.i64 (i + (1 : Int)))) ∧ (((all1_ifn_L1_m l (Go.IntKind.wrap Go.IntKind.i64 (i + (1 : Int)))) < (all1_ifn_L1_m l i)) ∧ (((Go.IntKind.wrap Go.IntKind.i64 (i + (1 : Int))) = (Go.IntKind.wrap Go.IntKind.i64 (i + (1 : Int)))) ∧ (((((List.length l) : Nat) : Int) = (((List.length l) : Nat) : Int)) ∧ (((0 : Int) = (0 : Int)) ∧ (True ∧ (True ∧ ((l = l) ∧ True)))))))))
      False)
    False)
  ((-(1 : Int)) = (fb (fun x => (!(knockB (List.getD x 0 (0 : Int)) (List.getD x (0 + 1) (0 : Int)) (List.getD x ((0 + 1) + 1) (0 : Int))))) l)))
set_option maxRecDepth 100000 in
theorem all1_ifn_L1_tree (l : List (List Int)) (i : Int) : all1_ifn_L1_T l i = ex Try.prog (conOf [all1_e]) (subC (bodyOf Try.f37) [1, 0, 1, 0, 0]) (nextE (all1_ifn_L1_N l i) (kont Try.prog (conOf [all1_e]) (bodyOf Try.f37) [1, 0, 1, 0] (retPost Try.prog Try.f37 1 (all1_ifn_res l)))) (all1_ifn_L1_F l i) := by kernel_rfl
set_option maxRecDepth 100000 in
theorem all1_ifn_L1_round (l : List (List Int)) (i : Int) (p0 : (decide ((l.length : Int) ≤ 1000000)) = true) (hI_L1 : all1_ifn_L1_I l i) : all1_ifn_L1_T l i := by
  obtain ⟨⟨a1, a2, a3⟩, a4⟩ := hI_L1
  unfold all1_ifn_L1_T
  by_cases hi : i < l.length
  · have hd := drop_consG (d := []) (l := l) (i := i) a1 hi
    obtain ⟨b1, b2, b3⟩ := fb_bd (fun x => !knockB (List.getD x 0 0) (List.getD x (0 + 1) 0) (List.getD x ((0 + 1) + 1) 0)) (l.drop (i.toNat + 1))
    have e1 : (i + 1).toNat = i.toNat + 1 := by omega
    rw [hd] at a4
    rw [w64 (n := i + 1) (by omega) (by omega), decide_eq_true hi, decide_eq_true a1]
    have hF : ∀ i' : Int, 0 ≤ i' ∧ i' ≤ l.length ∧ (l.length : Int) ≤ 1000000 → fb (fun x => !knockB (List.getD x 0 0) (List.getD x (0 + 1) 0) (List.getD x ((0 + 1) + 1) 0)) l = (if fb (fun x => !knockB (List.getD x 0 0) (List.getD x (0 + 1) 0) (List.getD x ((0 + 1) + 1) 0)) (l.drop i'.toNat) = -1 then -1 else fb (fun x => !knockB (List.getD x 0 0) (List.getD x (0 + 1) 0) (List.getD x ((0 + 1) + 1) 0)) (l.drop i'.toNat) + i') → all1_ifn_L1_I l i' := fun i' h1 h2 => ⟨h1, h2⟩
    have hμ : all1_ifn_L1_m l (i + 1) < all1_ifn_L1_m l i := by unfold all1_ifn_L1_m; omega
    generalize l.getD i.toNat [] = x at *
    rw [fb_cons] at a4
    cases hx : (!knockB (List.getD x 0 0) (List.getD x (0 + 1) 0) (List.getD x ((0 + 1) + 1) 0)) with
    | true =>
      rw [hx] at a4
      rw [if_pos rfl, if_neg (by decide), Int.zero_add] at a4
      exact a4.symm
    | false =>
      rw [hx] at a4
      refine ⟨hF _ ⟨by omega, by omega, a3⟩ ?_, hμ, by simp⟩
      rw [e1]
      simp only [Bool.false_eq_true, if_false] at a4
      generalize fb (fun x => !knockB (List.getD x 0 0) (List.getD x (0 + 1) 0) (List.getD x ((0 + 1) + 1) 0)) (l.drop (i.toNat + 1)) = y at *
      by_cases hy : y = -1
      · rw [if_pos hy] at a4 ⊢
        simpa using a4
      · rw [if_neg hy] at a4 ⊢
        rw [if_neg (by omega)] at a4
        omega
  · rw [decide_eq_false hi]
    have e : l.drop i.toNat = [] := List.drop_eq_nil_of_le (by omega)
    rw [e] at a4
    simp [fb] at a4
    exact a4.symm
set_option maxRecDepth 100000 in
theorem all1_ifn_L1_entry1 (l : List (List Int)) : (((all1_ifn_L1_I l (0 : Int)) ∧ (((0 : Int) = (0 : Int)) ∧ (((((List.length l) : Nat) : Int) = (((List.length l) : Nat) : Int)) ∧ (((0 : Int) = (0 : Int)) ∧ (True ∧ (True ∧ ((l = l) ∧ True)))))))) = all1_ifn_L1_E l (all1_ifn_L1_S1 l) := by kernel_rfl
theorem all1_ifn_L1_1 (l : List (List Int)) (p0 : (decide ((l.length : Int) ≤ 1000000)) = true) (h : ((all1_ifn_L1_I l (0 : Int)) ∧ (((0 : Int) = (0 : Int)) ∧ (((((List.length l) : Nat) : Int) = (((List.length l) : Nat) : Int)) ∧ (((0 : Int) = (0 : Int)) ∧ (True ∧ (True ∧ ((l = l) ∧ True)))))))) : LoopP (ex Try.prog (conOf [all1_e]) (subC (bodyOf Try.f37) [1, 0, 1, 0, 0])) (kont Try.prog (conOf [all1_e]) (bodyOf Try.f37) [1, 0, 1, 0] (retPost Try.prog Try.f37 1 (all1_ifn_res l))) (all1_ifn_L1_S1 l) := by
  have hE : all1_ifn_L1_E l (all1_ifn_L1_S1 l) := Eq.mp (all1_ifn_L1_entry1 l) h
  unfold all1_ifn_L1_E at hE
  obtain ⟨i, hE⟩ := getI_of hE
  refine loop_of (α := (Int)) (fun xx_ => all1_ifn_L1_F l xx_) (fun xx_ => all1_ifn_L1_I l xx_) (fun xx_ => all1_ifn_L1_m l xx_) (fun xx_ => all1_ifn_L1_N l xx_) (fun xx_ => all1_ifn_L1_T l xx_) (fun xx_ s_ h => ?_) ⟨i, hE⟩ (fun xx_ => all1_ifn_L1_tree l xx_) (fun xx_ hI => all1_ifn_L1_round l xx_ p0 hI)
  unfold all1_ifn_L1_N at h
  obtain ⟨i, h⟩ := getI_of h
  exact ⟨i, h⟩
set_option maxRecDepth 100000 in
theorem all1_ifn_tree (l : List (List Int)) : ((LoopP (ex Try.prog (conOf [all1_e]) (subC (bodyOf Try.f37) [1, 0, 1, 0, 0])) (kont Try.prog (conOf [all1_e]) (bodyOf Try.f37) [1, 0, 1, 0] (retPost Try.prog Try.f37 1 (all1_ifn_res l))) (all1_ifn_L1_S1 l))) = EXD Try.prog (conOf [all1_e]) Try.f37 [.cel (.row 0), .cel (.fn 29)] [.recs [.int .i64, .int .i64, .int .i64] l] [] (all1_ifn_res l) := by kernel_rfl
theorem all1_ifn_holds (l : List (List Int)) (p0 : (decide ((l.length : Int) ≤ 1000000)) = true) : (LoopP (ex Try.prog (conOf [all1_e]) (subC (bodyOf Try.f37) [1, 0, 1, 0, 0])) (kont Try.prog (conOf [all1_e]) (bodyOf Try.f37) [1, 0, 1, 0] (retPost Try.prog Try.f37 1 (all1_ifn_res l))) (all1_ifn_L1_S1 l)) := by
  have q0 := p0
  simp only [decide_eq_true_eq] at p0
  have b := (fb_bd (fun x => !knockB (List.getD x 0 0) (List.getD x (0 + 1) 0) (List.getD x ((0 + 1) + 1) 0)) l).1
  refine all1_ifn_L1_1 l q0  ⟨⟨⟨by omega, by omega, by omega⟩, ?_⟩, by simp⟩
  simp
set_option maxHeartbeats 2000000 in
theorem all1_ifn_ok : SoundEnt Try.prog all1_ifn_e := by
  refine ent_of_ex (Γ := (conOf [all1_e])) (conOf_sound (scons all1_ok snil)) (by kernel_rfl) Try.func37 (by kernel_rfl) (by kernel_rfl) (fun args rows caps res h ho => ?_)
  change all1_ifn_go args rows caps = some res at h
  unfold all1_ifn_go at h
  split at h
  · simp only [Option.some.injEq] at h
    subst h
    rename_i q0_
    obtain ⟨p0, _⟩ := ho
    exact EX.of (all1_ifn_tree q0_) (all1_ifn_holds q0_ p0)
  · cases h
def all1_cfn_res (l : List (List Int)) : CRes := ⟨[decide ((l.length : Int) ≤ 1000000)], .one (.cel (.bool (l.any (fun x => !knockB (List.getD x 0 0) (List.getD x (0 + 1) 0) (List.getD x ((0 + 1) + 1) 0))))), []⟩
def all1_cfn_go : List TV → List RowA → List (List CV) → Option CRes := fun args rows caps =>
  match args, rows, caps with
  | [.cel (.row 0), .cel (.fn 29)], [.recs [.int .i64, .int .i64, .int .i64] l], [] => some (all1_cfn_res l)
  | _, _, _ => none
def all1_cfn_e : Ent := ⟨22, [.recs [.int .i64, .int .i64, .int .i64] []], all1_cfn_go⟩
set_option maxRecDepth 100000 in
theorem all1_cfn_tree (l : List (List Int)) : ((cnd (decide ((((List.length l) : Nat) : Int) ≤ (1000000 : Int)))
  ((decide ((0 : Int) ≤ (fb (fun x => (!(knockB (List.getD x 0 (0 : Int)) (List.getD x (0 + 1) (0 : Int)) (List.getD x ((0 + 1) + 1) (0 : Int))))) l))) = (List.any l (fun x => (!(knockB (List.getD x 0 (0 : Int)) (List.getD x (0 + 1) (0 : Int)) (List.getD x ((0 + 1) + 1) (0 : Int)))))))
  False)) = EXD Try.prog (conOf [all1_ifn_e]) Try.f22 [.cel (.row 0), .cel (.fn 29)] [.recs [.int .i64, .int .i64, .int .i64] l] [] (all1_cfn_res l) := by kernel_rfl
theorem all1_cfn_holds (l : List (List Int)) (p0 : (decide ((l.length : Int) ≤ 1000000)) = true) : (cnd (decide ((((List.length l) : Nat) : Int) ≤ (1000000 : Int)))
  ((decide ((0 : Int) ≤ (fb (fun x => (!(knockB (List.getD x 0 (0 : Int)) (List.getD x (0 + 1) (0 : Int)) (List.getD x ((0 + 1) + 1) (0 : Int))))) l))) = (List.any l (fun x => (!(knockB (List.getD x 0 (0 : Int)) (List.getD x (0 + 1) (0 : Int)) (List.getD x ((0 + 1) + 1) (0 : Int)))))))
  False) := by
  obtain ⟨b1, b2, b3⟩ := fb_bd (fun x => !knockB (List.getD x 0 0) (List.getD x (0 + 1) 0) (List.getD x ((0 + 1) + 1) 0)) l
  rw [p0]
  show decide (0 ≤ fb (fun x => !knockB (List.getD x 0 0) (List.getD x (0 + 1) 0) (List.getD x ((0 + 1) + 1) 0)) l) = l.any (fun x => !knockB (List.getD x 0 0) (List.getD x (0 + 1) 0) (List.getD x ((0 + 1) + 1) 0))
  cases h : l.any (fun x => !knockB (List.getD x 0 0) (List.getD x (0 + 1) 0) (List.getD x ((0 + 1) + 1) 0)) with
  | false => rw [b3.2 h]; rfl
  | true =>
    have : ¬ fb (fun x => !knockB (List.getD x 0 0) (List.getD x (0 + 1) 0) (List.getD x ((0 + 1) + 1) 0)) l = -1 := fun e => by rw [b3.1 e] at h; cases h
    rw [decide_eq_true_eq]
    omega
set_option maxHeartbeats 2000000 in
theorem all1_cfn_ok : SoundEnt Try.prog all1_cfn_e := by
  refine ent_of_ex (Γ := (conOf [all1_ifn_e])) (conOf_sound (scons all1_ifn_ok snil)) (by kernel_rfl) Try.func22 (by kernel_rfl) (by kernel_rfl) (fun args rows caps res h ho => ?_)
  change all1_cfn_go args rows caps = some res at h
  unfold all1_cfn_go at h
  split at h
  · simp only [Option.some.injEq] at h
    subst h
    rename_i q0_
    obtain ⟨p0, _⟩ := ho
    exact EX.of (all1_cfn_tree q0_) (all1_cfn_holds q0_ p0)
  · cases h
def all2_ifn_res (l : List Int) : CRes := ⟨[decide ((l.length : Int) ≤ 1000000)], .one (.cel (.int .i64 (fb (fun x => !intensityB x) l))), []⟩
def all2_ifn_go : List TV → List RowA → List (List CV) → Option CRes := fun args rows caps =>
  match args, rows, caps with
  | [.cel (.row 0), .cel (.fn 30)], [.ints .i64 l], [] => some (all2_ifn_res l)
  | _, _, _ => none
def all2_ifn_e : Ent := ⟨38, [.ints .i64 []], all2_ifn_go⟩
def all2_ifn_L1_F (l : List Int) (i : Int) : St := ⟨19, [], [(8, (.one (.cel (.int .i64 i)))), (7, (.one (.cel (.int .i64 (((List.length l) : Nat) : Int))))), (4, (.one (.cel (.int .i64 (0 : Int))))), (0, (.one (.cel (.row 0)))), (1, (.one (.cel (.fn 30))))], [], [⟨(.ints .i64 l), none⟩], 0⟩
def all2_ifn_L1_I (l : List Int) (i : Int) : Prop := (0 ≤ i ∧ i ≤ l.length ∧ (l.length : Int) ≤ 1000000) ∧ (fb (fun x => !intensityB x) l = (if fb (fun x => !intensityB x) (l.drop i.toNat) = -1 then -1 else fb (fun x => !intensityB x) (l.drop i.toNat) + i))
def all2_ifn_L1_m (l : List Int) (i : Int) : Nat := (l.length - i).toNat
def all2_ifn_L1_N (l : List Int) (i' : Int) (st_ : St) : Prop := getI st_ 8 fun i => all2_ifn_L1_I l i ∧ all2_ifn_L1_m l i < all2_ifn_L1_m l i' ∧ SubA st_ (all2_ifn_L1_F l i)
def all2_ifn_L1_E (l : List Int) (st_ : St) : Prop := getI st_ 8 fun i => all2_ifn_L1_I l i ∧ SubA st_ (all2_ifn_L1_F l i)
def all2_ifn_L1_S1 (l : List Int) : St := ⟨19, [], [(8, (.one (.cel (.int .i64 (0 : Int))))), (7, (.one (.cel (.int .i64 (((List.length l) : Nat) : Int))))), (6, (.one (.cel (.row 0)))), (4, (.one (.cel (.int .i64 (0 : Int))))), (0, (.one (.cel (.row 0)))), (1, (.one (.cel (.fn 30))))], [], [⟨(.ints .i64 l), none⟩], 0⟩
def all2_ifn_L1_T (l : List Int) (i : Int) : Prop := (cnd (decide (i < (((List.length l) : Nat) : Int)))
  (cnd (decide ((0 : Int) ≤ i))
    (cnd (decide (i < (((List.length l) : Nat) : Int)))
      (cnd (!(intensityB (List.getD l (Int.toNat i) (0 : Int))))
        (i = (fb (fun x => (!(intensityB x))) l))
        ((all2_ifn_L1_I l (Go.IntKind.wrap Go.IntKind.i64 (i + (1 : Int)))) ∧ (((all2_ifn_L1_m l (Go.IntKind.wrap Go.IntKind.i64 (i + (1 : Int)))) < (all2_ifn_L1_m l i)) ∧ (((Go.IntKind.wrap Go.IntKind.i64 (i + (1 : Int))) = (Go.IntKind.wrap Go.IntKind.i64 (i + (1 : Int)))) ∧ (((((List.length l) : Nat) : Int) = (((List.length l) : Nat) : Int)) ∧ (((0 : Int) = (0 : Int)) ∧ (True ∧ (True ∧ ((l = l) ∧ True)))))))))
      False)
    False)
  ((-(1 : Int)) = (fb (fun x => (!(intensityB x))) l)))
set_option maxRecDepth 100000 in
theorem all2_ifn_L1_tree (l : List Int) (i : Int) : all2_ifn_L1_T l i = ex Try.prog (conOf [all2_e]) (subC (bodyOf Try.f38) [1, 0, 1, 0, 0]) (nextE (all2_ifn_L1_N l i) (kont Try.prog (conOf [all2_e]) (bodyOf Try.f38) [1, 0, 1, 0] (retPost Try.prog Try.f38 1 (all2_ifn_res l)))) (all2_ifn_L1_F l i) := by kernel_rfl
set_option maxRecDepth 100000 in
theorem all2_ifn_L1_round (l : List Int) (i : Int) (p0 : (decide ((l.length : Int) ≤ 1000000)) = true) (hI_L1 : all2_ifn_L1_I l i) : all2_ifn_L1_T l i := by
  obtain ⟨⟨a1, a2, a3⟩, a4⟩ := hI_L1
  unfold all2_ifn_L1_T
  by_cases hi : i < l.length
  · have hd := drop_consG (d := 0) (l := l) (i := i) a1 hi
    obtain ⟨b1, b2, b3⟩ := fb_bd (fun x => !intensityB x) (l.drop (i.toNat + 1))
    have e1 : (i + 1).toNat = i.toNat + 1 := by omega
    rw [hd] at a4
    rw [w64 (n := i + 1) (by omega) (by omega), decide_eq_true hi, decide_eq_true a1]
    have hF : ∀ i' : Int, 0 ≤ i' ∧ i' ≤ l.length ∧ (l.length : Int) ≤ 1000000 → fb (fun x => !intensityB x) l = (if fb (fun x => !intensityB x) (l.drop i'.toNat) = -1 then -1 else fb (fun x => !intensityB x) (l.drop i'.toNat) + i') → all2_ifn_L1_I l i' := fun i' h1 h2 => ⟨h1, h2⟩
    have hμ : all2_ifn_L1_m l (i + 1) < all2_ifn_L1_m l i := by unfold all2_ifn_L1_m; omega
    generalize l.getD i.toNat 0 = x at *
    rw [fb_cons] at a4
    cases hx : (!intensityB x) with
    | true =>
      rw [hx] at a4
      rw [if_pos rfl, if_neg (by decide), Int.zero_add] at a4
      exact a4.symm
    | false =>
      rw [hx] at a4
      refine ⟨hF _ ⟨by omega, by omega, a3⟩ ?_, hμ, by simp⟩
      rw [e1]
      simp only [Bool.false_eq_true, if_false] at a4
      generalize fb (fun x => !intensityB x) (l.drop (i.toNat + 1)) = y at *
      by_cases hy : y = -1
      · rw [if_pos hy] at a4 ⊢
        simpa using a4
      · rw [if_neg hy] at a4 ⊢
        rw [if_neg (by omega)] at a4
        omega
  · rw [decide_eq_false hi]
    have e : l.drop i.toNat = [] := List.drop_eq_nil_of_le (by omega)
    rw [e] at a4
    simp [fb] at a4
    exact a4.symm
set_option maxRecDepth 100000 in
theorem all2_ifn_L1_entry1 (l : List Int) : (((all2_ifn_L1_I l (0 : Int)) ∧ (((0 : Int) = (0 : Int)) ∧ (((((List.length l) : Nat) : Int) = (((List.length l) : Nat) : Int)) ∧ (((0 : Int) = (0 : Int)) ∧ (True ∧ (True ∧ ((l = l) ∧ True)))))))) = all2_ifn_L1_E l (all2_ifn_L1_S1 l) := by kernel_rfl
theorem all2_ifn_L1_1 (l : List Int) (p0 : (decide ((l.length : Int) ≤ 1000000)) = true) (h : ((all2_ifn_L1_I l (0 : Int)) ∧ (((0 : Int) = (0 : Int)) ∧ (((((List.length l) : Nat) : Int) = (((List.length l) : Nat) : Int)) ∧ (((0 : Int) = (0 : Int)) ∧ (True ∧ (True ∧ ((l = l) ∧ True)))))))) : LoopP (ex Try.prog (conOf [all2_e]) (subC (bodyOf Try.f38) [1, 0, 1, 0, 0])) (kont Try.prog (conOf [all2_e]) (bodyOf Try.f38) [1, 0, 1, 0] (retPost Try.prog Try.f38 1 (all2_ifn_res l))) (all2_ifn_L1_S1 l) := by
  have hE : all2_ifn_L1_E l (all2_ifn_L1_S1 l) := Eq.mp (all2_ifn_L1_entry1 l) h
  unfold all2_ifn_L1_E at hE
  obtain ⟨i, hE⟩ := getI_of hE
  refine loop_of (α := (Int)) (fun xx_ => all2_ifn_L1_F l xx_) (fun xx_ => all2_ifn_L1_I l xx_) (fun xx_ => all2_ifn_L1_m l xx_) (fun xx_ => all2_ifn_L1_N l xx_) (fun xx_ => all2_ifn_L1_T l xx_) (fun xx_ s_ h => ?_) ⟨i, hE⟩ (fun xx_ => all2_ifn_L1_tree l xx_) (fun xx_ hI => all2_ifn_L1_round l xx_ p0 hI)
  unfold all2_ifn_L1_N at h
  obtain ⟨i, h⟩ := getI_of h
  exact ⟨i, h⟩
set_option maxRecDepth 100000 in
theorem all2_ifn_tree (l : List Int) : ((LoopP (ex Try.prog (conOf [all2_e]) (subC (bodyOf Try.f38) [1, 0, 1, 0, 0])) (kont Try.prog (conOf [all2_e]) (bodyOf Try.f38) [1, 0, 1, 0] (retPost Try.prog Try.f38 1 (all2_ifn_res l))) (all2_ifn_L1_S1 l))) = EXD Try.prog (conOf [all2_e]) Try.f38 [.cel (.row 0), .cel (.fn 30)] [.ints .i64 l] [] (all2_ifn_res l) := by kernel_rfl
theorem all2_ifn_holds (l : List Int) (p0 : (decide ((l.length : Int) ≤ 1000000)) = true) : (LoopP (ex Try.prog (conOf [all2_e]) (subC (bodyOf Try.f38) [1, 0, 1, 0, 0])) (kont Try.prog (conOf [all2_e]) (bodyOf Try.f38) [1, 0, 1, 0] (retPost Try.prog Try.f38 1 (all2_ifn_res l))) (all2_ifn_L1_S1 l)) := by
  have q0 := p0
  simp only [decide_eq_true_eq] at p0
  have b := (fb_bd (fun x => !intensityB x) l).1
  refine all2_ifn_L1_1 l q0  ⟨⟨⟨by omega, by omega, by omega⟩, ?_⟩, by simp⟩
  simp
set_option maxHeartbeats 2000000 in
theorem all2_ifn_ok : SoundEnt Try.prog all2_ifn_e := by
  refine ent_of_ex (Γ := (conOf [all2_e])) (conOf_sound (scons all2_ok snil)) (by kernel_rfl) Try.func38 (by kernel_rfl) (by kernel_rfl) (fun args rows caps res h ho => ?_)
  change all2_ifn_go args rows caps = some res at h
  unfold all2_ifn_go at h
  split at h
  · simp only [Option.some.injEq] at h
    subst h
    rename_i q0_
    obtain ⟨p0, _⟩ := ho
    exact EX.of (all2_ifn_tree q0_) (all2_ifn_holds q0_ p0)
  · cases h
def all2_cfn_res (l : List Int) : CRes := ⟨[decide ((l.length : Int) ≤ 1000000)], .one (.cel (.bool (l.any (fun x => !intensityB x)))), []⟩
def all2_cfn_go : List TV → List RowA → List (List CV) → Option CRes := fun args rows caps =>
  match args, rows, caps with
  | [.cel (.row 0), .cel (.fn 30)], [.ints .i64 l], [] => some (all2_cfn_res l)
  | _, _, _ => none
def all2_cfn_e : Ent := ⟨25, [.ints .i64 []], all2_cfn_go⟩
set_option maxRecDepth 100000 in
theorem all2_cfn_tree (l : List Int) : ((cnd (decide ((((List.length l) : Nat) : Int) ≤ (1000000 : Int)))
  ((decide ((0 : Int) ≤ (fb (fun x => (!(intensityB x))) l))) = (List.any l (fun x => (!(intensityB x)))))
  False)) = EXD Try.prog (conOf [all2_ifn_e]) Try.f25 [.cel (.row 0), .cel (.fn 30)] [.ints .i64 l] [] (all2_cfn_res l) := by kernel_rfl
theorem all2_cfn_holds (l : List Int) (p0 : (decide ((l.length : Int) ≤ 1000000)) = true) : (cnd (decide ((((List.length l) : Nat) : Int) ≤ (1000000 : Int)))
  ((decide ((0 : Int) ≤ (fb (fun x => (!(intensityB x))) l))) = (List.any l (fun x => (!(intensityB x)))))
  False) := by
  obtain ⟨b1, b2, b3⟩ := fb_bd (fun x => !intensityB x) l
  rw [p0]
  show decide (0 ≤ fb (fun x => !intensityB x) l) = l.any (fun x => !intensityB x)
  cases h : l.any (fun x => !intensityB x) with
  | false => rw [b3.2 h]; rfl
  | true =>
    have : ¬ fb (fun x => !intensityB x) l = -1 := fun e => by rw [b3.1 e] at h; cases h
    rw [decide_eq_true_eq]
    omega
set_option maxHeartbeats 2000000 in
theorem all2_cfn_ok : SoundEnt Try.prog all2_cfn_e := by
  refine ent_of_ex (Γ := (conOf [all2_ifn_e])) (conOf_sound (scons all2_ifn_ok snil)) (by kernel_rfl) Try.func25 (by kernel_rfl) (by kernel_rfl) (fun args rows caps res h ho => ?_)
  change all2_cfn_go args rows caps = some res at h
  unfold all2_cfn_go at h
  split at h
  · simp only [Option.some.injEq] at h
    subst h
    rename_i q0_
    obtain ⟨p0, _⟩ := ho
    exact EX.of (all2_cfn_tree q0_) (all2_cfn_holds q0_ p0)
  · cases h
theorem allL_len : ∀ (l : List (List Int)) (m : List Int), l.length = m.length → (allL l m).length = l.length
  | [], [], _ => rfl
  | x :: l, n :: m, h => by simp only [allL, List.length_cons]; rw [allL_len l m (by simpa using h)]
  | [], _ :: _, h => by simp at h
  | _ :: _, [], h => by simp at h
theorem allL_snoc (x : List Int) (n : Int) : ∀ (l : List (List Int)) (m : List Int), l.length = m.length → allL (l ++ [x]) (m ++ [n]) = allL l m ++ [stK x n]
  | [], [], _ => rfl
  | y :: l, k :: m, h => by
    show stK y k :: allL (l ++ [x]) (m ++ [n]) = stK y k :: (allL l m ++ [stK x n])
    rw [allL_snoc x n l m (by simpa using h)]
  | [], _ :: _, h => by simp at h
  | _ :: _, [], h => by simp at h
theorem allL_get : ∀ (l : List (List Int)) (m : List Int) (j : Nat), l.length = m.length → j < l.length → (allL l m).getD j [] = stK (l.getD j []) (m.getD j 0)
  | x :: l, n :: m, 0, _, _ => rfl
  | x :: l, n :: m, j + 1, h, hj => by
    have := allL_get l m j (by simpa using h) (by simpa using hj)
    simpa [allL] using this
  | [], _, _, _, h => by simp at h
  | _ :: _, [], _, h, _ => by simp at h
theorem take_snoc {α : Type} {d : α} {l : List α} {i : Int} (h0 : 0 ≤ i) (h1 : i < l.length) : l.take (i + 1).toNat = l.take i.toNat ++ [l.getD i.toNat d] := by
  rw [show (i + 1).toNat = i.toNat + 1 by omega, List.take_add_one, List.getElem?_eq_getElem (by omega), List.getD_eq_getElem?_getD, List.getElem?_eq_getElem (by omega)]; rfl
theorem any_false {α : Type} {p : α → Bool} {l : List α} {d : α} (h : l.any p = false) {j : Nat} (hj : j < l.length) : p (l.getD j d) = false := by
  rw [List.any_eq_false] at h
  have := h (l.getD j d) (by rw [List.getD_eq_getElem?_getD, List.getElem?_eq_getElem hj]; exact List.getElem_mem hj)
  simpa using this
def allE (l : List (List Int)) (m : List Int) : Int :=
  if l.length < 1 ∨ 8 < l.length ∨ m.length ≠ l.length ∨ l.any (fun x => !kB x) = true then 1 else if m.any (fun x => !intensityB x) = true then 2 else 0
def all_res (l : List (List Int)) (m : List Int) : CRes := ⟨[decide ((l.length : Int) ≤ 1000), decide ((m.length : Int) ≤ 1000)], .tup [.cel (.row 2), .cel (.int .i64 (allE l m))], [.recs [.int .i64, .int .i64, .int .i64] (if allE l m = 0 then allL l m else [])]⟩
def all_go : List TV → List RowA → List (List CV) → Option CRes := fun args rows caps =>
  match args, rows, caps with
  | [.cel (.row 0), .cel (.row 1)], [.recs [.int .i64, .int .i64, .int .i64] l, .ints .i64 m], [] => some (all_res l m)
  | _, _, _ => none
def all_e : Ent := ⟨15, [.recs [.int .i64, .int .i64, .int .i64] [], .ints .i64 []], all_go⟩
def all_L1_F (l : List (List Int)) (m : List Int) (i : Int) (o : List (List Int)) : St := ⟨53, [], [(33, (.one (.cel (.int .i64 i)))), (32, (.one (.cel (.int .i64 (((List.length (([] : List (List Int)) ++ l)) : Nat) : Int))))), (6, (.one (.cel (.row 2)))), (5, (.one (.cel (.int .i64 (0 : Int))))), (4, (.one (.cel .nilS))), (0, (.one (.cel (.row 0)))), (1, (.one (.cel (.row 1))))], [], [⟨(.recs [.int .i64, .int .i64, .int .i64] l), none⟩, ⟨(.ints .i64 m), none⟩, ⟨(.recs [.int .i64, .int .i64, .int .i64] o), some 23⟩], 0⟩
def all_L1_I (l : List (List Int)) (m : List Int) (i : Int) (o : List (List Int)) : Prop := (0 ≤ i ∧ i ≤ l.length) ∧ (allE l m = 0) ∧ (o = allL (l.take i.toNat) (m.take i.toNat) ++ l.drop i.toNat)
def all_L1_m (l : List (List Int)) (m : List Int) (i : Int) (o : List (List Int)) : Nat := (l.length - i).toNat
def all_L1_N (l : List (List Int)) (m : List Int) (i' : Int) (o' : List (List Int)) (st_ : St) : Prop := getI st_ 33 fun i => getWRR st_ 2 fun o => all_L1_I l m i o ∧ all_L1_m l m i o < all_L1_m l m i' o' ∧ SubA st_ (all_L1_F l m i o)
def all_L1_E (l : List (List Int)) (m : List Int) (st_ : St) : Prop := getI st_ 33 fun i => getWRR st_ 2 fun o => all_L1_I l m i o ∧ SubA st_ (all_L1_F l m i o)
def all_L1_S1 (l : List (List Int)) (m : List Int) : St := ⟨53, [23, 16, 11], [(33, (.one (.cel (.int .i64 (0 : Int))))), (32, (.one (.cel (.int .i64 (((List.length (([] : List (List Int)) ++ l)) : Nat) : Int))))), (31, (.one (.cel (.row 2)))), (6, (.one (.cel (.row 2)))), (30, (.one (.cel (.row 2)))), (29, (.one (.cel (.row 0)))), (28, (.one (.cel (.bool (List.any m (fun x => (!(intensityB x)))))))), (27, (.one (.cel (.row 1)))), (26, (.one (.cel (.bool ((((decide ((((List.length l) : Nat) : Int) < (1 : Int))) || (decide ((8 : Int) < (((List.length l) : Nat) : Int)))) || (!(decide ((((List.length m) : Nat) : Int) = (((List.length l) : Nat) : Int))))) || (List.any l (fun x => (!(knockB (List.getD x 0 (0 : Int)) (List.getD x (0 + 1) (0 : Int)) (List.getD x ((0 + 1) + 1) (0 : Int))))))))))), (25, (.spec 23 Bool.false (.cel (.bool (List.any l (fun x => (!(knockB (List.getD x 0 (0 : Int)) (List.getD x (0 + 1) (0 : Int)) (List.getD x ((0 + 1) + 1) (0 : Int)))))))))), (24, (.spec 23 Bool.false (.cel (.row 0)))), (23, (.one (.cel (.bool (((decide ((((List.length l) : Nat) : Int) < (1 : Int))) || (decide ((8 : Int) < (((List.length l) : Nat) : Int)))) || (!(decide ((((List.length m) : Nat) : Int) = (((List.length l) : Nat) : Int))))))))), (22, (.one (.cel (.bool (((decide ((((List.length l) : Nat) : Int) < (1 : Int))) || (decide ((8 : Int) < (((List.length l) : Nat) : Int)))) || (!(decide ((((List.length m) : Nat) : Int) = (((List.length l) : Nat) : Int))))))))), (21, (.spec 16 Bool.false (.cel (.bool (!(decide ((((List.length m) : Nat) : Int) = (((List.length l) : Nat) : Int)))))))), (20, (.spec 16 Bool.false (.cel (.int .i64 (((List.length l) : Nat) : Int))))), (19, (.spec 16 Bool.false (.cel (.row 0)))), (18, (.spec 16 Bool.false (.cel (.int .i64 (((List.length m) : Nat) : Int))))), (17, (.spec 16 Bool.false (.cel (.row 1)))), (16, (.one (.cel (.bool ((decide ((((List.length l) : Nat) : Int) < (1 : Int))) || (decide ((8 : Int) < (((List.length l) : Nat) : Int)))))))), (15, (.one (.cel (.bool ((decide ((((List.length l) : Nat) : Int) < (1 : Int))) || (decide ((8 : Int) < (((List.length l) : Nat) : Int)))))))), (14, (.spec 11 Bool.false (.cel (.bool (decide ((8 : Int) < (((List.length l) : Nat) : Int))))))), (13, (.spec 11 Bool.false (.cel (.int .i64 (((List.length l) : Nat) : Int))))), (12, (.spec 11 Bool.false (.cel (.row 0)))), (11, (.one (.cel (.bool (decide ((((List.length l) : Nat) : Int) < (1 : Int))))))), (10, (.one (.cel (.bool (decide ((((List.length l) : Nat) : Int) < (1 : Int))))))), (9, (.one (.cel (.int .i64 (((List.length l) : Nat) : Int))))), (8, (.one (.cel (.row 0)))), (5, (.one (.cel (.int .i64 (0 : Int))))), (4, (.one (.cel .nilS))), (0, (.one (.cel (.row 0)))), (1, (.one (.cel (.row 1))))], [], [⟨(.recs [.int .i64, .int .i64, .int .i64] l), none⟩, ⟨(.ints .i64 m), none⟩, ⟨(.recs [.int .i64, .int .i64, .int .i64] (([] : List (List Int)) ++ l)), some 23⟩], 0⟩
def all_L1_T (l : List (List Int)) (m : List Int) (i : Int) (o : List (List Int)) : Prop := (cnd (decide (i < (((List.length (([] : List (List Int)) ++ l)) : Nat) : Int)))
  (cnd (decide ((0 : Int) ≤ i))
    (cnd (decide (i < (((List.length l) : Nat) : Int)))
      (cnd (decide ((0 : Int) ≤ i))
        (cnd (decide (i < (((List.length m) : Nat) : Int)))
          (cnd (knockB (List.getD (List.getD l (Int.toNat i) ([] : List Int)) 0 (0 : Int)) (List.getD (List.getD l (Int.toNat i) ([] : List Int)) (0 + 1) (0 : Int)) (List.getD (List.getD l (Int.toNat i) ([] : List Int)) ((0 + 1) + 1) (0 : Int)))
            (cnd (intensityB (List.getD m (Int.toNat i) (0 : Int)))
              (cnd (decide ((0 : Int) ≤ i))
                (cnd (decide (i < (((List.length o) : Nat) : Int)))
                  ((all_L1_I l m (Go.IntKind.wrap Go.IntKind.i64 (i + (1 : Int))) (List.set o (Int.toNat i) [(stR (List.getD (List.getD l (Int.toNat i) ([] : List Int)) 0 (0 : Int)) (List.getD (List.getD l (Int.toNat i) ([] : List Int)) (0 + 1) (0 : Int)) (List.getD (List.getD l (Int.toNat i) ([] : List Int)) ((0 + 1) + 1) (0 : Int)) (List.getD m (Int.toNat i) (0 : Int))), (stN (List.getD (List.getD l (Int.toNat i) ([] : List Int)) (0 + 1) (0 : Int)) (List.getD m (Int.toNat i) (0 : Int))), (stQ (List.getD (List.getD l (Int.toNat i) ([] : List Int)) (0 + 1) (0 : Int)) (List.getD (List.getD l (Int.toNat i) ([] : List Int)) ((0 + 1) + 1) (0 : Int)) (List.getD m (Int.toNat i) (0 : Int)))])) ∧ (((all_L1_m l m (Go.IntKind.wrap Go.IntKind.i64 (i + (1 : Int))) (List.set o (Int.toNat i) [(stR (List.getD (List.getD l (Int.toNat i) ([] : List Int)) 0 (0 : Int)) (List.getD (List.getD l (Int.toNat i) ([] : List Int)) (0 + 1) (0 : Int)) (List.getD (List.getD l (Int.toNat i) ([] : List Int)) ((0 + 1) + 1) (0 : Int)) (List.getD m (Int.toNat i) (0 : Int))), (stN (List.getD (List.getD l (Int.toNat i) ([] : List Int)) (0 + 1) (0 : Int)) (List.getD m (Int.toNat i) (0 : Int))), (stQ (List.getD (List.getD l (Int.toNat i) ([] : List Int)) (0 + 1) (0 : Int)) (List.getD (List.getD l (Int.toNat i) ([] : List Int)) ((0 + 1) + 1) (0 : Int)) (List.getD m (Int.toNat i) (0 : Int)))])) < (all_L1_m l m i o)) ∧ (((Go.IntKind.wrap Go.IntKind.i64 (i + (1 : Int))) = (Go.IntKind.wrap Go.IntKind.i64 (i + (1 : Int)))) ∧ (((((List.length (([] : List (List Int)) ++ l)) : Nat) : Int) = (((List.length (([] : List (List Int)) ++ l)) : Nat) : Int)) ∧ (True ∧ (((0 : Int) = (0 : Int)) ∧ (True ∧ (True ∧ (True ∧ ((l = l) ∧ ((m = m) ∧ (((List.set o (Int.toNat i) [(stR (List.getD (List.getD l (Int.toNat i) ([] : List Int)) 0 (0 : Int)) (List.getD (List.getD l (Int.toNat i) ([] : List Int)) (0 + 1) (0 : Int)) (List.getD (List.getD l (Int.toNat i) ([] : List Int)) ((0 + 1) + 1) (0 : Int)) (List.getD m (Int.toNat i) (0 : Int))), (stN (List.getD (List.getD l (Int.toNat i) ([] : List Int)) (0 + 1) (0 : Int)) (List.getD m (Int.toNat i) (0 : Int))), (stQ (List.getD (List.getD l (Int.toNat i) ([] : List Int)) (0 + 1) (0 : Int)) (List.getD (List.getD l (Int.toNat i) ([] : List Int)) ((0 + 1) + 1) (0 : Int)) (List.getD m (Int.toNat i) (0 : Int)))]) = (List.set o (Int.toNat i) [(stR (List.getD (List.getD l (Int.toNat i) ([] : List Int)) 0 (0 : Int)) (List.getD (List.getD l (Int.toNat i) ([] : List Int)) (0 + 1) (0 : Int)) (List.getD (List.getD l (Int.toNat i) ([] : List Int)) ((0 + 1) + 1) (0 : Int)) (List.getD m (Int.toNat i) (0 : Int))), (stN (List.getD (List.getD l (Int.toNat i) ([] : List Int)) (0 + 1) (0 : Int)) (List.getD m (Int.toNat i) (0 : Int))), (stQ (List.getD (List.getD l (Int.toNat i) ([] : List Int)) (0 + 1) (0 : Int)) (List.getD (List.getD l (Int.toNat i) ([] : List Int)) ((0 + 1) + 1) (0 : Int)) (List.getD m (Int.toNat i) (0 : Int)))])) ∧ True))))))))))))
                  False)
                False)
              False)
            False)
          False)
        False)
      False)
    False)
  ((True ∧ ((0 : Int) = (allE l m))) ∧ ((o = (if ((allE l m) = (0 : Int)) then (allL l m) else ([] : List (List Int)))) ∧ True)))
set_option maxRecDepth 100000 in
theorem all_L1_tree (l : List (List Int)) (m : List Int) (i : Int) (o : List (List Int)) : all_L1_T l m i o = ex Try.prog (inlOf Try.prog [kstep_e, all1_cfn_e, all2_cfn_e] [(31, Try.f31)] []) (subC (bodyOf Try.f15) [1, 1, 1, 1, 0, 1, 0, 0]) (nextE (all_L1_N l m i o) (kont Try.prog (inlOf Try.prog [kstep_e, all1_cfn_e, all2_cfn_e] [(31, Try.f31)] []) (bodyOf Try.f15) [1, 1, 1, 1, 0, 1, 0] (retPost Try.prog Try.f15 2 (all_res l m)))) (all_L1_F l m i o) := by kernel_rfl
set_option maxRecDepth 100000 in
theorem all_L1_round (l : List (List Int)) (m : List Int) (i : Int) (o : List (List Int)) (p0 : (decide ((l.length : Int) ≤ 1000)) = true) (p1 : (decide ((m.length : Int) ≤ 1000)) = true) (hI_L1 : all_L1_I l m i o) : all_L1_T l m i o := by
  obtain ⟨⟨a1, a2⟩, a3, a4⟩ := hI_L1
  obtain ⟨h1, h2, h3, h4, h5⟩ : 1 ≤ l.length ∧ l.length ≤ 8 ∧ m.length = l.length ∧ l.any (fun x => !kB x) = false ∧ m.any (fun x => !intensityB x) = false := by
    unfold allE at a3
    split at a3
    · omega
    · split at a3
      · omega
      · rename_i g1 g2
        simp only [not_or, Bool.not_eq_true] at g1 g2
        exact ⟨by omega, by omega, by omega, g1.2.2.2, g2⟩
  have hlo : o.length = l.length := by
    rw [a4, List.length_append, allL_len _ _ (by rw [List.length_take, List.length_take, h3]), List.length_take, List.length_drop]; omega
  unfold all_L1_T
  simp only [List.nil_append, h3, hlo]
  rw [a3, if_pos rfl, w64 (n := i + 1) (by omega) (by omega)]
  by_cases hi : i < l.length
  · have k1 : kB (l.getD i.toNat []) = true := by
      have := any_false (d := []) h4 (j := i.toNat) (by omega)
      simpa using this
    have k2 : intensityB (m.getD i.toNat 0) = true := by
      have := any_false (d := 0) h5 (j := i.toNat) (by omega)
      simpa using this
    unfold kB at k1
    rw [decide_eq_true hi, decide_eq_true a1, k1, k2]
    have hset : o.set i.toNat (stK (l.getD i.toNat []) (m.getD i.toNat 0)) = allL (l.take (i + 1).toNat) (m.take (i + 1).toNat) ++ l.drop (i + 1).toNat := by
      have hA : (allL (l.take i.toNat) (m.take i.toNat)).length = i.toNat := by
        rw [allL_len _ _ (by rw [List.length_take, List.length_take, h3]), List.length_take]; omega
      rw [a4, drop_consG (d := []) a1 hi, List.set_append_right _ _ (by omega), hA, Nat.sub_self, List.set_cons_zero, take_snoc (d := []) a1 hi, take_snoc (d := 0) a1 (by omega), allL_snoc _ _ _ _ (by rw [List.length_take, List.length_take, h3]), show (i + 1).toNat = i.toNat + 1 by omega, List.append_assoc]
      rfl
    refine ⟨⟨⟨by omega, by omega⟩, a3, hset⟩, ?_, by simp⟩
    unfold all_L1_m; omega
  · rw [decide_eq_false hi]
    rw [List.take_of_length_le (by omega), List.take_of_length_le (by omega), List.drop_eq_nil_of_le (by omega), List.append_nil] at a4
    exact ⟨⟨trivial, rfl⟩, a4, trivial⟩
set_option maxRecDepth 100000 in
theorem all_L1_entry1 (l : List (List Int)) (m : List Int) : (((all_L1_I l m (0 : Int) (([] : List (List Int)) ++ l)) ∧ (((0 : Int) = (0 : Int)) ∧ (((((List.length (([] : List (List Int)) ++ l)) : Nat) : Int) = (((List.length (([] : List (List Int)) ++ l)) : Nat) : Int)) ∧ (True ∧ (((0 : Int) = (0 : Int)) ∧ (True ∧ (True ∧ (True ∧ ((l = l) ∧ ((m = m) ∧ (((([] : List (List Int)) ++ l) = (([] : List (List Int)) ++ l)) ∧ True)))))))))))) = all_L1_E l m (all_L1_S1 l m) := by kernel_rfl
theorem all_L1_1 (l : List (List Int)) (m : List Int) (p0 : (decide ((l.length : Int) ≤ 1000)) = true) (p1 : (decide ((m.length : Int) ≤ 1000)) = true) (h : ((all_L1_I l m (0 : Int) (([] : List (List Int)) ++ l)) ∧ (((0 : Int) = (0 : Int)) ∧ (((((List.length (([] : List (List Int)) ++ l)) : Nat) : Int) = (((List.length (([] : List (List Int)) ++ l)) : Nat) : Int)) ∧ (True ∧ (((0 : Int) = (0 : Int)) ∧ (True ∧ (True ∧ (True ∧ ((l = l) ∧ ((m = m) ∧ (((([] : List (List Int)) ++ l) = (([] : List (List Int)) ++ l)) ∧ True)))))))))))) : LoopP (ex Try.prog (inlOf Try.prog [kstep_e, all1_cfn_e, all2_cfn_e] [(31, Try.f31)] []) (subC (bodyOf Try.f15) [1, 1, 1, 1, 0, 1, 0, 0])) (kont Try.prog (inlOf Try.prog [kstep_e, all1_cfn_e, all2_cfn_e] [(31, Try.f31)] []) (bodyOf Try.f15) [1, 1, 1, 1, 0, 1, 0] (retPost Try.prog Try.f15 2 (all_res l m))) (all_L1_S1 l m) := by
  have hE : all_L1_E l m (all_L1_S1 l m) := Eq.mp (all_L1_entry1 l m) h
  unfold all_L1_E at hE
  obtain ⟨i, hE⟩ := getI_of hE
  obtain ⟨o, hE⟩ := getWRR_of hE
  refine loop_of (α := (Int) × (List (List Int))) (fun xx_ => all_L1_F l m xx_.1 xx_.2) (fun xx_ => all_L1_I l m xx_.1 xx_.2) (fun xx_ => all_L1_m l m xx_.1 xx_.2) (fun xx_ => all_L1_N l m xx_.1 xx_.2) (fun xx_ => all_L1_T l m xx_.1 xx_.2) (fun xx_ s_ h => ?_) ⟨⟨i, o⟩, hE⟩ (fun xx_ => all_L1_tree l m xx_.1 xx_.2) (fun xx_ hI => all_L1_round l m xx_.1 xx_.2 p0 p1 hI)
  unfold all_L1_N at h
  obtain ⟨i, h⟩ := getI_of h
  obtain ⟨o, h⟩ := getWRR_of h
  exact ⟨⟨i, o⟩, h⟩
set_option maxRecDepth 100000 in
theorem all_tree (l : List (List Int)) (m : List Int) : ((cnd ((!((((decide ((((List.length l) : Nat) : Int) < (1 : Int))) || (decide ((8 : Int) < (((List.length l) : Nat) : Int)))) || (!(decide ((((List.length m) : Nat) : Int) = (((List.length l) : Nat) : Int))))) == Bool.false)) || (decide ((((List.length l) : Nat) : Int) ≤ (1000000 : Int))))
  (cnd ((((decide ((((List.length l) : Nat) : Int) < (1 : Int))) || (decide ((8 : Int) < (((List.length l) : Nat) : Int)))) || (!(decide ((((List.length m) : Nat) : Int) = (((List.length l) : Nat) : Int))))) || (List.any l (fun x => (!(knockB (List.getD x 0 (0 : Int)) (List.getD x (0 + 1) (0 : Int)) (List.getD x ((0 + 1) + 1) (0 : Int)))))))
    ((True ∧ ((1 : Int) = (allE l m))) ∧ (((if ((allE l m) = (0 : Int)) then (allL l m) else ([] : List (List Int))) = ([] : List (List Int))) ∧ True))
    (cnd (decide ((((List.length m) : Nat) : Int) ≤ (1000000 : Int)))
      (cnd (List.any m (fun x => (!(intensityB x))))
        ((True ∧ ((2 : Int) = (allE l m))) ∧ (((if ((allE l m) = (0 : Int)) then (allL l m) else ([] : List (List Int))) = ([] : List (List Int))) ∧ True))
        (cnd (Nat.blt 0 (List.length l))
          (cnd (decide ((List.length (([] : List (List Int)) ++ l)) ≤ 4294967296))
            (LoopP (ex Try.prog (inlOf Try.prog [kstep_e, all1_cfn_e, all2_cfn_e] [(31, Try.f31)] []) (subC (bodyOf Try.f15) [1, 1, 1, 1, 0, 1, 0, 0])) (kont Try.prog (inlOf Try.prog [kstep_e, all1_cfn_e, all2_cfn_e] [(31, Try.f31)] []) (bodyOf Try.f15) [1, 1, 1, 1, 0, 1, 0] (retPost Try.prog Try.f15 2 (all_res l m))) (all_L1_S1 l m))
            False)
          False))
      False))
  False)) = EXD Try.prog (inlOf Try.prog [kstep_e, all1_cfn_e, all2_cfn_e] [(31, Try.f31)] []) Try.f15 [.cel (.row 0), .cel (.row 1)] [.recs [.int .i64, .int .i64, .int .i64] l, .ints .i64 m] [] (all_res l m) := by kernel_rfl
theorem all_holds (l : List (List Int)) (m : List Int) (p0 : (decide ((l.length : Int) ≤ 1000)) = true) (p1 : (decide ((m.length : Int) ≤ 1000)) = true) : (cnd ((!((((decide ((((List.length l) : Nat) : Int) < (1 : Int))) || (decide ((8 : Int) < (((List.length l) : Nat) : Int)))) || (!(decide ((((List.length m) : Nat) : Int) = (((List.length l) : Nat) : Int))))) == Bool.false)) || (decide ((((List.length l) : Nat) : Int) ≤ (1000000 : Int))))
  (cnd ((((decide ((((List.length l) : Nat) : Int) < (1 : Int))) || (decide ((8 : Int) < (((List.length l) : Nat) : Int)))) || (!(decide ((((List.length m) : Nat) : Int) = (((List.length l) : Nat) : Int))))) || (List.any l (fun x => (!(knockB (List.getD x 0 (0 : Int)) (List.getD x (0 + 1) (0 : Int)) (List.getD x ((0 + 1) + 1) (0 : Int)))))))
    ((True ∧ ((1 : Int) = (allE l m))) ∧ (((if ((allE l m) = (0 : Int)) then (allL l m) else ([] : List (List Int))) = ([] : List (List Int))) ∧ True))
    (cnd (decide ((((List.length m) : Nat) : Int) ≤ (1000000 : Int)))
      (cnd (List.any m (fun x => (!(intensityB x))))
        ((True ∧ ((2 : Int) = (allE l m))) ∧ (((if ((allE l m) = (0 : Int)) then (allL l m) else ([] : List (List Int))) = ([] : List (List Int))) ∧ True))
        (cnd (Nat.blt 0 (List.length l))
          (cnd (decide ((List.length (([] : List (List Int)) ++ l)) ≤ 4294967296))
            (LoopP (ex Try.prog (inlOf Try.prog [kstep_e, all1_cfn_e, all2_cfn_e] [(31, Try.f31)] []) (subC (bodyOf Try.f15) [1, 1, 1, 1, 0, 1, 0, 0])) (kont Try.prog (inlOf Try.prog [kstep_e, all1_cfn_e, all2_cfn_e] [(31, Try.f31)] []) (bodyOf Try.f15) [1, 1, 1, 1, 0, 1, 0] (retPost Try.prog Try.f15 2 (all_res l m))) (all_L1_S1 l m))
            False)
          False))
      False))
  False) := by
  have q0 := p0; have q1 := p1
  simp only [decide_eq_true_eq] at p0 p1
  have e2 : l.any (fun x => !(knockB (List.getD x 0 (0 : Int)) (List.getD x (0 + 1) (0 : Int)) (List.getD x ((0 + 1) + 1) (0 : Int)))) = l.any (fun x => !kB x) := rfl
  rw [e2]
  rw [decide_eq_true (show ((l.length : Nat) : Int) ≤ 1000000 by omega), decide_eq_true (show ((m.length : Nat) : Int) ≤ 1000000 by omega), Bool.or_true]
  by_cases hc : l.length < 1 ∨ 8 < l.length ∨ m.length ≠ l.length ∨ l.any (fun x => !kB x) = true
  · have he : allE l m = 1 := by unfold allE; rw [if_pos hc]
    have j : ((((decide ((((List.length l) : Nat) : Int) < (1 : Int))) || (decide ((8 : Int) < (((List.length l) : Nat) : Int)))) || (!(decide ((((List.length m) : Nat) : Int) = (((List.length l) : Nat) : Int))))) || (l.any (fun x => !kB x))) = true := by
      cases hk : l.any (fun x => !kB x) with
      | true => simp
      | false =>
        rcases hc with h | h | h | h
        · rw [decide_eq_true (show ((l.length : Nat) : Int) < 1 by omega)]; simp
        · rw [decide_eq_true (show (8 : Int) < ((l.length : Nat) : Int) by omega)]; simp
        · rw [decide_eq_false (show ¬ ((m.length : Nat) : Int) = ((l.length : Nat) : Int) by omega)]; simp
        · rw [hk] at h; cases h
    rw [j, he]
    simp [cnd]
  · have hk : l.any (fun x => !kB x) = false := by
      cases hk : l.any (fun x => !kB x) with
      | false => rfl
      | true => exact absurd (.inr (.inr (.inr hk))) hc
    have hc2 := hc
    simp only [not_or, ne_eq, Decidable.not_not] at hc2
    have j : ((((decide ((((List.length l) : Nat) : Int) < (1 : Int))) || (decide ((8 : Int) < (((List.length l) : Nat) : Int)))) || (!(decide ((((List.length m) : Nat) : Int) = (((List.length l) : Nat) : Int))))) || (l.any (fun x => !kB x))) = false := by
      rw [hk, decide_eq_false (show ¬ ((l.length : Nat) : Int) < 1 by omega), decide_eq_false (show ¬ (8 : Int) < ((l.length : Nat) : Int) by omega), decide_eq_true (show ((m.length : Nat) : Int) = ((l.length : Nat) : Int) by omega)]; rfl
    rw [j]
    cases hi : m.any (fun x => !intensityB x) with
    | true =>
      have he : allE l m = 2 := by unfold allE; rw [if_neg hc, if_pos hi]
      rw [he]
      simp [cnd]
    | false =>
      have he : allE l m = 0 := by unfold allE; rw [if_neg hc, if_neg (by rw [hi]; simp)]
      have hb : Nat.blt 0 l.length = true := Nat.ble_eq_true_of_le (by omega)
      rw [hb, List.nil_append, decide_eq_true (show l.length ≤ 4294967296 by omega)]
      exact all_L1_1 l m q0 q1 ⟨⟨⟨by omega, by omega⟩, he, by simp [allL]⟩, by simp⟩
set_option maxHeartbeats 2000000 in
theorem all_ok : SoundEnt Try.prog all_e := by
  refine ent_of_ex (Γ := (inlOf Try.prog [kstep_e, all1_cfn_e, all2_cfn_e] [(31, Try.f31)] [])) (inlOf_sound (scons kstep_ok (scons all1_cfn_ok (scons all2_cfn_ok snil))) (by kernel_rfl) ⟨⟨Try.func31, by kernel_rfl, by kernel_rfl⟩, trivial⟩ spnil) (by kernel_rfl) Try.func15 (by kernel_rfl) (by kernel_rfl) (fun args rows caps res h ho => ?_)
  change all_go args rows caps = some res at h
  unfold all_go at h
  split at h
  · simp only [Option.some.injEq] at h
    subst h
    rename_i q0_ q1_
    obtain ⟨p0, p1, _⟩ := ho
    exact EX.of (all_tree q0_ q1_) (all_holds q0_ q1_ p0 p1)
  · cases h
end Go.Proofs.Ytoklfnonbfcdlaa

