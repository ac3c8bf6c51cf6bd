/- New, All, and Most: the law. -/
import Derived.Test.YtoklfnonbfcdlaaK8
namespace Go.Proofs.Ytoklfnonbfcdlaa
set_option linter.unusedVariables false
set_option linter.unusedSimpArgs false
open Go.RowKit

def law1_res (r : Int) (n : Int) (q : Int) : CRes := ⟨[], .one (.cel (.bool (!knockB r n q))), []⟩
def law1_go : List TV → List RowA → List (List CV) → Option CRes := fun args rows caps =>
  match args, rows, caps with
  | [.agg [.int .i64 r, .int .i64 n, .int .i64 q]], [], [] => some (law1_res r n q)
  | _, _, _ => none
def law1_e : Ent := ⟨23, [], law1_go⟩
set_option maxRecDepth 100000 in
theorem law1_tree (r : Int) (n : Int) (q : Int) : (((!(knockB r n q)) = (!(knockB r n q)))) = EXD Try.prog (conOf [rValid_e]) Try.f23 [.agg [.int .i64 r, .int .i64 n, .int .i64 q]] [] [] (law1_res r n q) := by kernel_rfl
theorem law1_holds (r : Int) (n : Int) (q : Int)  : ((!(knockB r n q)) = (!(knockB r n q))) := by
  rfl
set_option maxHeartbeats 2000000 in
theorem law1_ok : SoundEnt Try.prog law1_e := by
  refine ent_of_ex (Γ := (conOf [rValid_e])) (conOf_sound (scons rValid_ok snil)) (by kernel_rfl) Try.func23 (by kernel_rfl) (by kernel_rfl) (fun args rows caps res h ho => ?_)
  change law1_go args rows caps = some res at h
  unfold law1_go at h
  split at h
  · simp only [Option.some.injEq] at h
    subst h
    rename_i q0_ q1_ q2_
    skip
    exact EX.of (law1_tree q0_ q1_ q2_) (law1_holds q0_ q1_ q2_)
  · cases h
def law2_res (n : Int) : CRes := ⟨[], .one (.cel (.bool (!intensityB n))), []⟩
def law2_go : List TV → List RowA → List (List CV) → Option CRes := fun args rows caps =>
  match args, rows, caps with
  | [.cel (.int .i64 n)], [], [] => some (law2_res n)
  | _, _, _ => none
def law2_e : Ent := ⟨26, [], law2_go⟩
set_option maxRecDepth 100000 in
theorem law2_tree (n : Int) : (((!(intensityB n)) = (!(intensityB n)))) = EXD Try.prog (conOf [rInt_e]) Try.f26 [.cel (.int .i64 n)] [] [] (law2_res n) := by kernel_rfl
theorem law2_holds (n : Int)  : ((!(intensityB n)) = (!(intensityB n))) := by
  rfl
set_option maxHeartbeats 2000000 in
theorem law2_ok : SoundEnt Try.prog law2_e := by
  refine ent_of_ex (Γ := (conOf [rInt_e])) (conOf_sound (scons rInt_ok snil)) (by kernel_rfl) Try.func26 (by kernel_rfl) (by kernel_rfl) (fun args rows caps res h ho => ?_)
  change law2_go args rows caps = some res at h
  unfold law2_go at h
  split at h
  · simp only [Option.some.injEq] at h
    subst h
    rename_i q0_
    skip
    exact EX.of (law2_tree q0_) (law2_holds q0_)
  · cases h
def law1_ifn_res (l : List (List Int)) : CRes := ⟨[decide ((l.length : Int) ≤ 1000000)], .one (.cel (.int .i64 (fb (fun x => !knockB (List.getD x 0 0) (List.getD x (0 + 1) 0) (List.getD x ((0 + 1) + 1) 0)) l))), []⟩
def law1_ifn_go : List TV → List RowA → List (List CV) → Option CRes := fun args rows caps =>
  match args, rows, caps with
  | [.cel (.row 0), .cel (.fn 23)], [.recs [.int .i64, .int .i64, .int .i64] l], [] => some (law1_ifn_res l)
  | _, _, _ => none
def law1_ifn_e : Ent := ⟨37, [.recs [.int .i64, .int .i64, .int .i64] []], law1_ifn_go⟩
def law1_ifn_L1_F (l : List (List Int)) (i : Int) : St := ⟨19, [], [(8, (.one (.cel (.int .i64 i)))), (7, (.one (.cel (.int .i64 (((List.length l) : Nat) : Int))))), (4, (.one (.cel (.int .i64 (0 : Int))))), (0, (.one (.cel (.row 0)))), (1, (.one (.cel (.fn 23))))], [], [⟨(.recs [.int .i64, .int .i64, .int .i64] l), none⟩], 0⟩
def law1_ifn_L1_I (l : List (List Int)) (i : Int) : Prop := (0 ≤ i ∧ i ≤ l.length ∧ (l.length : Int) ≤ 1000000) ∧ (fb (fun x => !knockB (List.getD x 0 0) (List.getD x (0 + 1) 0) (List.getD x ((0 + 1) + 1) 0)) l = (if fb (fun x => !knockB (List.getD x 0 0) (List.getD x (0 + 1) 0) (List.getD x ((0 + 1) + 1) 0)) (l.drop i.toNat) = -1 then -1 else fb (fun x => !knockB (List.getD x 0 0) (List.getD x (0 + 1) 0) (List.getD x ((0 + 1) + 1) 0)) (l.drop i.toNat) + i))
def law1_ifn_L1_m (l : List (List Int)) (i : Int) : Nat := (l.length - i).toNat
def law1_ifn_L1_N (l : List (List Int)) (i' : Int) (st_ : St) : Prop := getI st_ 8 fun i => law1_ifn_L1_I l i ∧ law1_ifn_L1_m l i < law1_ifn_L1_m l i' ∧ SubA st_ (law1_ifn_L1_F l i)
def law1_ifn_L1_E (l : List (List Int)) (st_ : St) : Prop := getI st_ 8 fun i => law1_ifn_L1_I l i ∧ SubA st_ (law1_ifn_L1_F l i)
def law1_ifn_L1_S1 (l : List (List Int)) : St := ⟨19, [], [(8, (.one (.cel (.int .i64 (0 : Int))))), (7, (.one (.cel (.int .i64 (((List.length l) : Nat) : Int))))), (6, (.one (.cel (.row 0)))), (4, (.one (.cel (.int .i64 (0 : Int))))), (0, (.one (.cel (.row 0)))), (1, (.one (.cel (.fn 23))))], [], [⟨(.recs [.int .i64, .int .i64, .int .i64] l), none⟩], 0⟩
def law1_ifn_L1_T (l : List (List Int)) (i : Int) : Prop := (cnd (decide (i < (((List.length l) : Nat) : Int)))
  (cnd (decide ((0 : Int) ≤ i))
    (cnd (decide (i < (((List.length l) : Nat) : Int)))
      (cnd (!(knockB (List.getD (List.getD l (Int.toNat i) ([] : List Int)) 0 (0 : Int)) (List.getD (List.getD l (Int.toNat i) ([] : List Int)) (0 + 1) (0 : Int)) (List.getD (List.getD l (Int.toNat i) ([] : List Int)) ((0 + 1) + 1) (0 : Int))))
        (i = (fb (fun x => (!(knockB (List.getD x 0 (0 : Int)) (List.getD x (0 + 1) (0 : Int)) (List.getD x ((0 + 1) + 1) (0 : Int))))) l))
        ((law1_ifn_L1_I l (Go.IntKind.wrap Go.IntKind.i64 (i + (1 : Int)))) ∧ (((law1_ifn_L1_m l (Go.IntKind.wrap Go.IntKind.i64 (i + (1 : Int)))) < (law1_ifn_L1_m l i)) ∧ (((Go.IntKind.wrap Go.IntKind.i64 (i + (1 : Int))) = (Go.IntKind.wrap Go.IntKind.i64 (i + (1 : Int)))) ∧ (((((List.length l) : Nat) : Int) = (((List.length l) : Nat) : Int)) ∧ (((0 : Int) = (0 : Int)) ∧ (True ∧ (True ∧ ((l = l) ∧ True)))))))))
      False)
    False)
  ((-(1 : Int)) = (fb (fun x => (!(knockB (List.getD x 0 (0 : Int)) (List.getD x (0 + 1) (0 : Int)) (List.getD x ((0 + 1) + 1) (0 : Int))))) l)))
set_option maxRecDepth 100000 in
theorem law1_ifn_L1_tree (l : List (List Int)) (i : Int) : law1_ifn_L1_T l i = ex Try.prog (conOf [law1_e]) (subC (bodyOf Try.f37) [1, 0, 1, 0, 0]) (nextE (law1_ifn_L1_N l i) (kont Try.prog (conOf [law1_e]) (bodyOf Try.f37) [1, 0, 1, 0] (retPost Try.prog Try.f37 1 (law1_ifn_res l)))) (law1_ifn_L1_F l i) := by kernel_rfl
set_option maxRecDepth 100000 in
theorem law1_ifn_L1_round (l : List (List Int)) (i : Int) (p0 : (decide ((l.length : Int) ≤ 1000000)) = true) (hI_L1 : law1_ifn_L1_I l i) : law1_ifn_L1_T l i := by
  obtain ⟨⟨a1, a2, a3⟩, a4⟩ := hI_L1
  unfold law1_ifn_L1_T
  by_cases hi : i < l.length
  · have hd := drop_consG (d := []) (l := l) (i := i) a1 hi
    obtain ⟨b1, b2, b3⟩ := fb_bd (fun x => !knockB (List.getD x 0 0) (List.getD x (0 + 1) 0) (List.getD x ((0 + 1) + 1) 0)) (l.drop (i.toNat + 1))
    have e1 : (i + 1).toNat = i.toNat + 1 := by omega
    rw [hd] at a4
    rw [w64 (n := i + 1) (by omega) (by omega), decide_eq_true hi, decide_eq_true a1]
    have hF : ∀ i' : Int, 0 ≤ i' ∧ i' ≤ l.length ∧ (l.length : Int) ≤ 1000000 → fb (fun x => !knockB (List.getD x 0 0) (List.getD x (0 + 1) 0) (List.getD x ((0 + 1) + 1) 0)) l = (if fb (fun x => !knockB (List.getD x 0 0) (List.getD x (0 + 1) 0) (List.getD x ((0 + 1) + 1) 0)) (l.drop i'.toNat) = -1 then -1 else fb (fun x => !knockB (List.getD x 0 0) (List.getD x (0 + 1) 0) (List.getD x ((0 + 1) + 1) 0)) (l.drop i'.toNat) + i') → law1_ifn_L1_I l i' := fun i' h1 h2 => ⟨h1, h2⟩
    have hμ : law1_ifn_L1_m l (i + 1) < law1_ifn_L1_m l i := by unfold law1_ifn_L1_m; omega
    generalize l.getD i.toNat [] = x at *
    rw [fb_cons] at a4
    cases hx : (!knockB (List.getD x 0 0) (List.getD x (0 + 1) 0) (List.getD x ((0 + 1) + 1) 0)) with
    | true =>
      rw [hx] at a4
      rw [if_pos rfl, if_neg (by decide), Int.zero_add] at a4
      exact a4.symm
    | false =>
      rw [hx] at a4
      refine ⟨hF _ ⟨by omega, by omega, a3⟩ ?_, hμ, by simp⟩
      rw [e1]
      simp only [Bool.false_eq_true, if_false] at a4
      generalize fb (fun x => !knockB (List.getD x 0 0) (List.getD x (0 + 1) 0) (List.getD x ((0 + 1) + 1) 0)) (l.drop (i.toNat + 1)) = y at *
      by_cases hy : y = -1
      · rw [if_pos hy] at a4 ⊢
        simpa using a4
      · rw [if_neg hy] at a4 ⊢
        rw [if_neg (by omega)] at a4
        omega
  · rw [decide_eq_false hi]
    have e : l.drop i.toNat = [] := List.drop_eq_nil_of_le (by omega)
    rw [e] at a4
    simp [fb] at a4
    exact a4.symm
set_option maxRecDepth 100000 in
theorem law1_ifn_L1_entry1 (l : List (List Int)) : (((law1_ifn_L1_I l (0 : Int)) ∧ (((0 : Int) = (0 : Int)) ∧ (((((List.length l) : Nat) : Int) = (((List.length l) : Nat) : Int)) ∧ (((0 : Int) = (0 : Int)) ∧ (True ∧ (True ∧ ((l = l) ∧ True)))))))) = law1_ifn_L1_E l (law1_ifn_L1_S1 l) := by kernel_rfl
theorem law1_ifn_L1_1 (l : List (List Int)) (p0 : (decide ((l.length : Int) ≤ 1000000)) = true) (h : ((law1_ifn_L1_I l (0 : Int)) ∧ (((0 : Int) = (0 : Int)) ∧ (((((List.length l) : Nat) : Int) = (((List.length l) : Nat) : Int)) ∧ (((0 : Int) = (0 : Int)) ∧ (True ∧ (True ∧ ((l = l) ∧ True)))))))) : LoopP (ex Try.prog (conOf [law1_e]) (subC (bodyOf Try.f37) [1, 0, 1, 0, 0])) (kont Try.prog (conOf [law1_e]) (bodyOf Try.f37) [1, 0, 1, 0] (retPost Try.prog Try.f37 1 (law1_ifn_res l))) (law1_ifn_L1_S1 l) := by
  have hE : law1_ifn_L1_E l (law1_ifn_L1_S1 l) := Eq.mp (law1_ifn_L1_entry1 l) h
  unfold law1_ifn_L1_E at hE
  obtain ⟨i, hE⟩ := getI_of hE
  refine loop_of (α := (Int)) (fun xx_ => law1_ifn_L1_F l xx_) (fun xx_ => law1_ifn_L1_I l xx_) (fun xx_ => law1_ifn_L1_m l xx_) (fun xx_ => law1_ifn_L1_N l xx_) (fun xx_ => law1_ifn_L1_T l xx_) (fun xx_ s_ h => ?_) ⟨i, hE⟩ (fun xx_ => law1_ifn_L1_tree l xx_) (fun xx_ hI => law1_ifn_L1_round l xx_ p0 hI)
  unfold law1_ifn_L1_N at h
  obtain ⟨i, h⟩ := getI_of h
  exact ⟨i, h⟩
set_option maxRecDepth 100000 in
theorem law1_ifn_tree (l : List (List Int)) : ((LoopP (ex Try.prog (conOf [law1_e]) (subC (bodyOf Try.f37) [1, 0, 1, 0, 0])) (kont Try.prog (conOf [law1_e]) (bodyOf Try.f37) [1, 0, 1, 0] (retPost Try.prog Try.f37 1 (law1_ifn_res l))) (law1_ifn_L1_S1 l))) = EXD Try.prog (conOf [law1_e]) Try.f37 [.cel (.row 0), .cel (.fn 23)] [.recs [.int .i64, .int .i64, .int .i64] l] [] (law1_ifn_res l) := by kernel_rfl
theorem law1_ifn_holds (l : List (List Int)) (p0 : (decide ((l.length : Int) ≤ 1000000)) = true) : (LoopP (ex Try.prog (conOf [law1_e]) (subC (bodyOf Try.f37) [1, 0, 1, 0, 0])) (kont Try.prog (conOf [law1_e]) (bodyOf Try.f37) [1, 0, 1, 0] (retPost Try.prog Try.f37 1 (law1_ifn_res l))) (law1_ifn_L1_S1 l)) := by
  have q0 := p0
  simp only [decide_eq_true_eq] at p0
  have b := (fb_bd (fun x => !knockB (List.getD x 0 0) (List.getD x (0 + 1) 0) (List.getD x ((0 + 1) + 1) 0)) l).1
  refine law1_ifn_L1_1 l q0  ⟨⟨⟨by omega, by omega, by omega⟩, ?_⟩, by simp⟩
  simp
set_option maxHeartbeats 2000000 in
theorem law1_ifn_ok : SoundEnt Try.prog law1_ifn_e := by
  refine ent_of_ex (Γ := (conOf [law1_e])) (conOf_sound (scons law1_ok snil)) (by kernel_rfl) Try.func37 (by kernel_rfl) (by kernel_rfl) (fun args rows caps res h ho => ?_)
  change law1_ifn_go args rows caps = some res at h
  unfold law1_ifn_go at h
  split at h
  · simp only [Option.some.injEq] at h
    subst h
    rename_i q0_
    obtain ⟨p0, _⟩ := ho
    exact EX.of (law1_ifn_tree q0_) (law1_ifn_holds q0_ p0)
  · cases h
def law1_cfn_res (l : List (List Int)) : CRes := ⟨[decide ((l.length : Int) ≤ 1000000)], .one (.cel (.bool (l.any (fun x => !knockB (List.getD x 0 0) (List.getD x (0 + 1) 0) (List.getD x ((0 + 1) + 1) 0))))), []⟩
def law1_cfn_go : List TV → List RowA → List (List CV) → Option CRes := fun args rows caps =>
  match args, rows, caps with
  | [.cel (.row 0), .cel (.fn 23)], [.recs [.int .i64, .int .i64, .int .i64] l], [] => some (law1_cfn_res l)
  | _, _, _ => none
def law1_cfn_e : Ent := ⟨22, [.recs [.int .i64, .int .i64, .int .i64] []], law1_cfn_go⟩
set_option maxRecDepth 100000 in
theorem law1_cfn_tree (l : List (List Int)) : ((cnd (decide ((((List.length l) : Nat) : Int) ≤ (1000000 : Int)))
  ((decide ((0 : Int) ≤ (fb (fun x => (!(knockB (List.getD x 0 (0 : Int)) (List.getD x (0 + 1) (0 : Int)) (List.getD x ((0 + 1) + 1) (0 : Int))))) l))) = (List.any l (fun x => (!(knockB (List.getD x 0 (0 : Int)) (List.getD x (0 + 1) (0 : Int)) (List.getD x ((0 + 1) + 1) (0 : Int)))))))
  False)) = EXD Try.prog (conOf [law1_ifn_e]) Try.f22 [.cel (.row 0), .cel (.fn 23)] [.recs [.int .i64, .int .i64, .int .i64] l] [] (law1_cfn_res l) := by kernel_rfl
theorem law1_cfn_holds (l : List (List Int)) (p0 : (decide ((l.length : Int) ≤ 1000000)) = true) : (cnd (decide ((((List.length l) : Nat) : Int) ≤ (1000000 : Int)))
  ((decide ((0 : Int) ≤ (fb (fun x => (!(knockB (List.getD x 0 (0 : Int)) (List.getD x (0 + 1) (0 : Int)) (List.getD x ((0 + 1) + 1) (0 : Int))))) l))) = (List.any l (fun x => (!(knockB (List.getD x 0 (0 : Int)) (List.getD x (0 + 1) (0 : Int)) (List.getD x ((0 + 1) + 1) (0 : Int)))))))
  False) := by
  obtain ⟨b1, b2, b3⟩ := fb_bd (fun x => !knockB (List.getD x 0 0) (List.getD x (0 + 1) 0) (List.getD x ((0 + 1) + 1) 0)) l
  rw [p0]
  show decide (0 ≤ fb (fun x => !knockB (List.getD x 0 0) (List.getD x (0 + 1) 0) (List.getD x ((0 + 1) + 1) 0)) l) = l.any (fun x => !knockB (List.getD x 0 0) (List.getD x (0 + 1) 0) (List.getD x ((0 + 1) + 1) 0))
  cases h : l.any (fun x => !knockB (List.getD x 0 0) (List.getD x (0 + 1) 0) (List.getD x ((0 + 1) + 1) 0)) with
  | false => rw [b3.2 h]; rfl
  | true =>
    have : ¬ fb (fun x => !knockB (List.getD x 0 0) (List.getD x (0 + 1) 0) (List.getD x ((0 + 1) + 1) 0)) l = -1 := fun e => by rw [b3.1 e] at h; cases h
    rw [decide_eq_true_eq]
    omega
set_option maxHeartbeats 2000000 in
theorem law1_cfn_ok : SoundEnt Try.prog law1_cfn_e := by
  refine ent_of_ex (Γ := (conOf [law1_ifn_e])) (conOf_sound (scons law1_ifn_ok snil)) (by kernel_rfl) Try.func22 (by kernel_rfl) (by kernel_rfl) (fun args rows caps res h ho => ?_)
  change law1_cfn_go args rows caps = some res at h
  unfold law1_cfn_go at h
  split at h
  · simp only [Option.some.injEq] at h
    subst h
    rename_i q0_
    obtain ⟨p0, _⟩ := ho
    exact EX.of (law1_cfn_tree q0_) (law1_cfn_holds q0_ p0)
  · cases h
def law2_ifn_res (l : List Int) : CRes := ⟨[decide ((l.length : Int) ≤ 1000000)], .one (.cel (.int .i64 (fb (fun x => !intensityB x) l))), []⟩
def law2_ifn_go : List TV → List RowA → List (List CV) → Option CRes := fun args rows caps =>
  match args, rows, caps with
  | [.cel (.row 0), .cel (.fn 26)], [.ints .i64 l], [] => some (law2_ifn_res l)
  | _, _, _ => none
def law2_ifn_e : Ent := ⟨38, [.ints .i64 []], law2_ifn_go⟩
def law2_ifn_L1_F (l : List Int) (i : Int) : St := ⟨19, [], [(8, (.one (.cel (.int .i64 i)))), (7, (.one (.cel (.int .i64 (((List.length l) : Nat) : Int))))), (4, (.one (.cel (.int .i64 (0 : Int))))), (0, (.one (.cel (.row 0)))), (1, (.one (.cel (.fn 26))))], [], [⟨(.ints .i64 l), none⟩], 0⟩
def law2_ifn_L1_I (l : List Int) (i : Int) : Prop := (0 ≤ i ∧ i ≤ l.length ∧ (l.length : Int) ≤ 1000000) ∧ (fb (fun x => !intensityB x) l = (if fb (fun x => !intensityB x) (l.drop i.toNat) = -1 then -1 else fb (fun x => !intensityB x) (l.drop i.toNat) + i))
def law2_ifn_L1_m (l : List Int) (i : Int) : Nat := (l.length - i).toNat
def law2_ifn_L1_N (l : List Int) (i' : Int) (st_ : St) : Prop := getI st_ 8 fun i => law2_ifn_L1_I l i ∧ law2_ifn_L1_m l i < law2_ifn_L1_m l i' ∧ SubA st_ (law2_ifn_L1_F l i)
def law2_ifn_L1_E (l : List Int) (st_ : St) : Prop := getI st_ 8 fun i => law2_ifn_L1_I l i ∧ SubA st_ (law2_ifn_L1_F l i)
def law2_ifn_L1_S1 (l : List Int) : St := ⟨19, [], [(8, (.one (.cel (.int .i64 (0 : Int))))), (7, (.one (.cel (.int .i64 (((List.length l) : Nat) : Int))))), (6, (.one (.cel (.row 0)))), (4, (.one (.cel (.int .i64 (0 : Int))))), (0, (.one (.cel (.row 0)))), (1, (.one (.cel (.fn 26))))], [], [⟨(.ints .i64 l), none⟩], 0⟩
def law2_ifn_L1_T (l : List Int) (i : Int) : Prop := (cnd (decide (i < (((List.length l) : Nat) : Int)))
  (cnd (decide ((0 : Int) ≤ i))
    (cnd (decide (i < (((List.length l) : Nat) : Int)))
      (cnd (!(intensityB (List.getD l (Int.toNat i) (0 : Int))))
        (i = (fb (fun x => (!(intensityB x))) l))
        ((law2_ifn_L1_I l (Go.IntKind.wrap Go.IntKind.i64 (i + (1 : Int)))) ∧ (((law2_ifn_L1_m l (Go.IntKind.wrap Go.IntKind.i64 (i + (1 : Int)))) < (law2_ifn_L1_m l i)) ∧ (((Go.IntKind.wrap Go.IntKind.i64 (i + (1 : Int))) = (Go.IntKind.wrap Go.IntKind.i64 (i + (1 : Int)))) ∧ (((((List.length l) : Nat) : Int) = (((List.length l) : Nat) : Int)) ∧ (((0 : Int) = (0 : Int)) ∧ (True ∧ (True ∧ ((l = l) ∧ True)))))))))
      False)
    False)
  ((-(1 : Int)) = (fb (fun x => (!(intensityB x))) l)))
set_option maxRecDepth 100000 in
theorem law2_ifn_L1_tree (l : List Int) (i : Int) : law2_ifn_L1_T l i = ex Try.prog (conOf [law2_e]) (subC (bodyOf Try.f38) [1, 0, 1, 0, 0]) (nextE (law2_ifn_L1_N l i) (kont Try.prog (conOf [law2_e]) (bodyOf Try.f38) [1, 0, 1, 0] (retPost Try.prog Try.f38 1 (law2_ifn_res l)))) (law2_ifn_L1_F l i) := by kernel_rfl
set_option maxRecDepth 100000 in
theorem law2_ifn_L1_round (l : List Int) (i : Int) (p0 : (decide ((l.length : Int) ≤ 1000000)) = true) (hI_L1 : law2_ifn_L1_I l i) : law2_ifn_L1_T l i := by
  obtain ⟨⟨a1, a2, a3⟩, a4⟩ := hI_L1
  unfold law2_ifn_L1_T
  by_cases hi : i < l.length
  · have hd := drop_consG (d := 0) (l := l) (i := i) a1 hi
    obtain ⟨b1, b2, b3⟩ := fb_bd (fun x => !intensityB x) (l.drop (i.toNat + 1))
    have e1 : (i + 1).toNat = i.toNat + 1 := by omega
    rw [hd] at a4
    rw [w64 (n := i + 1) (by omega) (by omega), decide_eq_true hi, decide_eq_true a1]
    have hF : ∀ i' : Int, 0 ≤ i' ∧ i' ≤ l.length ∧ (l.length : Int) ≤ 1000000 → fb (fun x => !intensityB x) l = (if fb (fun x => !intensityB x) (l.drop i'.toNat) = -1 then -1 else fb (fun x => !intensityB x) (l.drop i'.toNat) + i') → law2_ifn_L1_I l i' := fun i' h1 h2 => ⟨h1, h2⟩
    have hμ : law2_ifn_L1_m l (i + 1) < law2_ifn_L1_m l i := by unfold law2_ifn_L1_m; omega
    generalize l.getD i.toNat 0 = x at *
    rw [fb_cons] at a4
    cases hx : (!intensityB x) with
    | true =>
      rw [hx] at a4
      rw [if_pos rfl, if_neg (by decide), Int.zero_add] at a4
      exact a4.symm
    | false =>
      rw [hx] at a4
      refine ⟨hF _ ⟨by omega, by omega, a3⟩ ?_, hμ, by simp⟩
      rw [e1]
      simp only [Bool.false_eq_true, if_false] at a4
      generalize fb (fun x => !intensityB x) (l.drop (i.toNat + 1)) = y at *
      by_cases hy : y = -1
      · rw [if_pos hy] at a4 ⊢
        simpa using a4
      · rw [if_neg hy] at a4 ⊢
        rw [if_neg (by omega)] at a4
        omega
  · rw [decide_eq_false hi]
    have e : l.drop i.toNat = [] := List.drop_eq_nil_of_le (by omega)
    rw [e] at a4
    simp [fb] at a4
    exact a4.symm
set_option maxRecDepth 100000 in
theorem law2_ifn_L1_entry1 (l : List Int) : (((law2_ifn_L1_I l (0 : Int)) ∧ (((0 : Int) = (0 : Int)) ∧ (((((List.length l) : Nat) : Int) = (((List.length l) : Nat) : Int)) ∧ (((0 : Int) = (0 : Int)) ∧ (True ∧ (True ∧ ((l = l) ∧ True)))))))) = law2_ifn_L1_E l (law2_ifn_L1_S1 l) := by kernel_rfl
theorem law2_ifn_L1_1 (l : List Int) (p0 : (decide ((l.length : Int) ≤ 1000000)) = true) (h : ((law2_ifn_L1_I l (0 : Int)) ∧ (((0 : Int) = (0 : Int)) ∧ (((((List.length l) : Nat) : Int) = (((List.length l) : Nat) : Int)) ∧ (((0 : Int) = (0 : Int)) ∧ (True ∧ (True ∧ ((l = l) ∧ True)))))))) : LoopP (ex Try.prog (conOf [law2_e]) (subC (bodyOf Try.f38) [1, 0, 1, 0, 0])) (kont Try.prog (conOf [law2_e]) (bodyOf Try.f38) [1, 0, 1, 0] (retPost Try.prog Try.f38 1 (law2_ifn_res l))) (law2_ifn_L1_S1 l) := by
  have hE : law2_ifn_L1_E l (law2_ifn_L1_S1 l) := Eq.mp (law2_ifn_L1_entry1 l) h
  unfold law2_ifn_L1_E at hE
  obtain ⟨i, hE⟩ := getI_of hE
  refine loop_of (α := (Int)) (fun xx_ => law2_ifn_L1_F l xx_) (fun xx_ => law2_ifn_L1_I l xx_) (fun xx_ => law2_ifn_L1_m l xx_) (fun xx_ => law2_ifn_L1_N l xx_) (fun xx_ => law2_ifn_L1_T l xx_) (fun xx_ s_ h => ?_) ⟨i, hE⟩ (fun xx_ => law2_ifn_L1_tree l xx_) (fun xx_ hI => law2_ifn_L1_round l xx_ p0 hI)
  unfold law2_ifn_L1_N at h
  obtain ⟨i, h⟩ := getI_of h
  exact ⟨i, h⟩
set_option maxRecDepth 100000 in
theorem law2_ifn_tree (l : List Int) : ((LoopP (ex Try.prog (conOf [law2_e]) (subC (bodyOf Try.f38) [1, 0, 1, 0, 0])) (kont Try.prog (conOf [law2_e]) (bodyOf Try.f38) [1, 0, 1, 0] (retPost Try.prog Try.f38 1 (law2_ifn_res l))) (law2_ifn_L1_S1 l))) = EXD Try.prog (conOf [law2_e]) Try.f38 [.cel (.row 0), .cel (.fn 26)] [.ints .i64 l] [] (law2_ifn_res l) := by kernel_rfl
theorem law2_ifn_holds (l : List Int) (p0 : (decide ((l.length : Int) ≤ 1000000)) = true) : (LoopP (ex Try.prog (conOf [law2_e]) (subC (bodyOf Try.f38) [1, 0, 1, 0, 0])) (kont Try.prog (conOf [law2_e]) (bodyOf Try.f38) [1, 0, 1, 0] (retPost Try.prog Try.f38 1 (law2_ifn_res l))) (law2_ifn_L1_S1 l)) := by
  have q0 := p0
  simp only [decide_eq_true_eq] at p0
  have b := (fb_bd (fun x => !intensityB x) l).1
  refine law2_ifn_L1_1 l q0  ⟨⟨⟨by omega, by omega, by omega⟩, ?_⟩, by simp⟩
  simp
set_option maxHeartbeats 2000000 in
theorem law2_ifn_ok : SoundEnt Try.prog law2_ifn_e := by
  refine ent_of_ex (Γ := (conOf [law2_e])) (conOf_sound (scons law2_ok snil)) (by kernel_rfl) Try.func38 (by kernel_rfl) (by kernel_rfl) (fun args rows caps res h ho => ?_)
  change law2_ifn_go args rows caps = some res at h
  unfold law2_ifn_go at h
  split at h
  · simp only [Option.some.injEq] at h
    subst h
    rename_i q0_
    obtain ⟨p0, _⟩ := ho
    exact EX.of (law2_ifn_tree q0_) (law2_ifn_holds q0_ p0)
  · cases h
def law2_cfn_res (l : List Int) : CRes := ⟨[decide ((l.length : Int) ≤ 1000000)], .one (.cel (.bool (l.any (fun x => !intensityB x)))), []⟩
def law2_cfn_go : List TV → List RowA → List (List CV) → Option CRes := fun args rows caps =>
  match args, rows, caps with
  | [.cel (.row 0), .cel (.fn 26)], [.ints .i64 l], [] => some (law2_cfn_res l)
  | _, _, _ => none
def law2_cfn_e : Ent := ⟨25, [.ints .i64 []], law2_cfn_go⟩
set_option maxRecDepth 100000 in
theorem law2_cfn_tree (l : List Int) : ((cnd (decide ((((List.length l) : Nat) : Int) ≤ (1000000 : Int)))
  ((decide ((0 : Int) ≤ (fb (fun x => (!(intensityB x))) l))) = (List.any l (fun x => (!(intensityB x)))))
  False)) = EXD Try.prog (conOf [law2_ifn_e]) Try.f25 [.cel (.row 0), .cel (.fn 26)] [.ints .i64 l] [] (law2_cfn_res l) := by kernel_rfl
theorem law2_cfn_holds (l : List Int) (p0 : (decide ((l.length : Int) ≤ 1000000)) = true) : (cnd (decide ((((List.length l) : Nat) : Int) ≤ (1000000 : Int)))
  ((decide ((0 : Int) ≤ (fb (fun x => (!(intensityB x))) l))) = (List.any l (fun x => (!(intensityB x)))))
  False) := by
  obtain ⟨b1, b2, b3⟩ := fb_bd (fun x => !intensityB x) l
  rw [p0]
  show decide (0 ≤ fb (fun x => !intensityB x) l) = l.any (fun x => !intensityB x)
  cases h : l.any (fun x => !intensityB x) with
  | false => rw [b3.2 h]; rfl
  | true =>
    have : ¬ fb (fun x => !intensityB x) l = -1 := fun e => by rw [b3.1 e] at h; cases h
    rw [decide_eq_true_eq]
    omega
set_option maxHeartbeats 2000000 in
theorem law2_cfn_ok : SoundEnt Try.prog law2_cfn_e := by
  refine ent_of_ex (Γ := (conOf [law2_ifn_e])) (conOf_sound (scons law2_ifn_ok snil)) (by kernel_rfl) Try.func25 (by kernel_rfl) (by kernel_rfl) (fun args rows caps res h ho => ?_)
  change law2_cfn_go args rows caps = some res at h
  unfold law2_cfn_go at h
  split at h
  · simp only [Option.some.injEq] at h
    subst h
    rename_i q0_
    obtain ⟨p0, _⟩ := ho
    exact EX.of (law2_cfn_tree q0_) (law2_cfn_holds q0_ p0)
  · cases h
def mxl : List (List Int) → Int → Int
  | [], m => m
  | x :: l, m => mxl l (max m (x.getD 0 0))
theorem mst_ok : ∀ (l : List (List Int)) (g : Int), l.any (fun x => !kB x) = false → mst l g = mxl l g
  | [], _, _ => rfl
  | x :: l, g, h => by
    rw [List.any_cons, Bool.or_eq_false_iff] at h
    have hk : kB x = true := by simpa using h.1
    rw [mst, if_pos hk, mxl, mst_ok l _ h.2]
theorem mst_bad : ∀ (l : List (List Int)) (g : Int), l.any (fun x => !kB x) = true → mst l g = 0
  | [], _, h => by simp at h
  | x :: l, g, h => by
    rw [List.any_cons] at h
    rw [mst]
    cases hk : kB x with
    | false => rfl
    | true =>
      rw [hk] at h
      rw [if_pos rfl, mst_bad l _ (by simpa using h)]
/-- The bad lists. -/
def wrgB (l : List (List Int)) (m : List Int) : Bool := ((l.any (fun x => !kB x) || decide (((l.length : Nat) : Int) < 1)) || decide ((8 : Int) < ((l.length : Nat) : Int))) || !decide (((m.length : Nat) : Int) = ((l.length : Nat) : Int))
theorem wrg_yes {l : List (List Int)} {m : List Int} (h : wrgB l m = true) : allE l m = 1 := by
  unfold wrgB at h
  simp only [Bool.or_eq_true, Bool.not_eq_true', decide_eq_true_eq, decide_eq_false_iff_not] at h
  unfold allE
  rw [if_pos ?_]
  rcases h with ((h | h) | h) | h
  · exact .inr (.inr (.inr h))
  · exact .inl (by omega)
  · exact .inr (.inl (by omega))
  · exact .inr (.inr (.inl (by omega)))
theorem wrg_no {l : List (List Int)} {m : List Int} (h : wrgB l m = false) : allE l m = (if m.any (fun x => !intensityB x) = true then 2 else 0) ∧ 1 ≤ l.length ∧ l.length ≤ 8 ∧ m.length = l.length ∧ l.any (fun x => !kB x) = false := by
  unfold wrgB at h
  simp only [Bool.or_eq_false_iff, Bool.not_eq_false', decide_eq_true_eq, decide_eq_false_iff_not] at h
  obtain ⟨⟨⟨h1, h2⟩, h3⟩, h4⟩ := h
  refine ⟨?_, by omega, by omega, by omega, h1⟩
  unfold allE
  rw [if_neg ?_]
  rintro (h | h | h | h)
  · omega
  · omega
  · omega
  · rw [h1] at h; cases h
def lawall_res (n : Int) (l : List (List Int)) (m : List Int) : CRes := ⟨[wfI .i64 n, wfR [.int .i64, .int .i64, .int .i64] l, wfL .i64 m, lenB l, lenB m], .one (.cel (.bool (true))), []⟩
def lawall_go : List TV → List RowA → List (List CV) → Option CRes := fun args rows caps =>
  match args, rows, caps with
  | [.cel (.int .i64 n), .cel (.row 0), .cel (.row 1)], [.recs [.int .i64, .int .i64, .int .i64] l, .ints .i64 m], [] => some (lawall_res n l m)
  | _, _, _ => none
def lawall_e : Ent := ⟨8, [.recs [.int .i64, .int .i64, .int .i64] [], .ints .i64 []], lawall_go⟩
def lawall_L1_F (n : Int) (l : List (List Int)) (m : List Int) (i : Int) (g : Int) (x : List (List Int)) (y : List (List Int)) : St := ⟨150, [], [(72, (.one (.cel (.int .i64 i)))), (71, (.one (.cel (.int .i64 (((List.length l) : Nat) : Int))))), (70, (.one (.cel (.row 0)))), (12, (.one (.cel (.int .i64 g)))), (11, (.one (.cel (.bool (List.any l (fun x => (!(knockB (List.getD x 0 (0 : Int)) (List.getD x (0 + 1) (0 : Int)) (List.getD x ((0 + 1) + 1) (0 : Int)))))))))), (10, (.one (.cel (.int .i64 (allE l m))))), (9, (.one (.cel (.row 4)))), (6, (.one (.cel (.bool Bool.false)))), (1, (.one (.cel (.row 0)))), (2, (.one (.cel (.row 1))))], [], [⟨(.recs [.int .i64, .int .i64, .int .i64] l), none⟩, ⟨(.ints .i64 m), none⟩, ⟨(.recs [.int .i64, .int .i64, .int .i64] (nwL n)), none⟩, ⟨(.recs [.int .i64, .int .i64, .int .i64] y), none⟩, ⟨(.recs [.int .i64, .int .i64, .int .i64] x), none⟩], 0⟩
def lawall_L1_I (n : Int) (l : List (List Int)) (m : List Int) (i : Int) (g : Int) (x : List (List Int)) (y : List (List Int)) : Prop := (x = (if allE l m = 0 then allL l m else []) ∧ l.length ≤ 100 ∧ m.length ≤ 100) ∧ (0 ≤ i ∧ i ≤ l.length) ∧ (mxl l 0 = mxl (l.drop i.toNat) g)
def lawall_L1_m (n : Int) (l : List (List Int)) (m : List Int) (i : Int) (g : Int) (x : List (List Int)) (y : List (List Int)) : Nat := (l.length - i).toNat
def lawall_L1_N (n : Int) (l : List (List Int)) (m : List Int) (i' : Int) (g' : Int) (x' : List (List Int)) (y' : List (List Int)) (st_ : St) : Prop := getI st_ 72 fun i => getI st_ 12 fun g => getRR st_ 9 fun x => getWRR st_ 3 fun y => lawall_L1_I n l m i g x y ∧ lawall_L1_m n l m i g x y < lawall_L1_m n l m i' g' x' y' ∧ SubA st_ (lawall_L1_F n l m i g x y)
def lawall_L1_E (n : Int) (l : List (List Int)) (m : List Int) (st_ : St) : Prop := getI st_ 72 fun i => getI st_ 12 fun g => getRR st_ 9 fun x => getWRR st_ 3 fun y => lawall_L1_I n l m i g x y ∧ SubA st_ (lawall_L1_F n l m i g x y)
def lawall_L1_S1 (n : Int) (l : List (List Int)) (m : List Int) : St := ⟨150, [47, 40, 27, 22], [(72, (.one (.cel (.int .i64 (0 : Int))))), (71, (.one (.cel (.int .i64 (((List.length l) : Nat) : Int))))), (70, (.one (.cel (.row 0)))), (12, (.one (.cel (.int .i64 (0 : Int))))), (11, (.one (.cel (.bool (List.any l (fun x => (!(knockB (List.getD x 0 (0 : Int)) (List.getD x (0 + 1) (0 : Int)) (List.getD x ((0 + 1) + 1) (0 : Int)))))))))), (69, (.one (.cel (.bool (List.any l (fun x => (!(knockB (List.getD x 0 (0 : Int)) (List.getD x (0 + 1) (0 : Int)) (List.getD x ((0 + 1) + 1) (0 : Int)))))))))), (68, (.one (.cel (.row 0)))), (10, (.one (.cel (.int .i64 (allE l m))))), (9, (.one (.cel (.row 3)))), (67, (.one (.cel (.int .i64 (allE l m))))), (66, (.one (.cel (.row 3)))), (62, (.tup [(.cel (.row 3)), (.cel (.int .i64 (allE l m)))])), (65, (.tup [(.cel (.row 3)), (.cel (.int .i64 (allE l m)))])), (64, (.one (.cel (.row 1)))), (63, (.one (.cel (.row 0)))), (50, (.one (.cel (.bool ((!(decide ((((List.length (nwL n)) : Nat) : Int) = (0 : Int)))) || (!(decide ((if (((1 : Int) ≤ n) ∧ (n ≤ (8 : Int))) then (0 : Int) else (2 : Int)) = (2 : Int))))))))), (49, (.spec 47 Bool.false (.cel (.bool (!(decide ((if (((1 : Int) ≤ n) ∧ (n ≤ (8 : Int))) then (0 : Int) else (2 : Int)) = (2 : Int)))))))), (48, (.spec 47 Bool.false (.cel (.int .i64 (if (((1 : Int) ≤ n) ∧ (n ≤ (8 : Int))) then (0 : Int) else (2 : Int)))))), (47, (.one (.cel (.bool (!(decide ((((List.length (nwL n)) : Nat) : Int) = (0 : Int)))))))), (46, (.one (.cel (.bool (!(decide ((((List.length (nwL n)) : Nat) : Int) = (0 : Int)))))))), (45, (.one (.cel (.int .i64 (((List.length (nwL n)) : Nat) : Int))))), (44, (.one (.cel (.row 2)))), (43, (.one (.cel (.bool ((decide (n < (1 : Int))) || (decide ((8 : Int) < n))))))), (42, (.spec 40 Bool.false (.cel (.bool (decide ((8 : Int) < n)))))), (41, (.spec 40 Bool.false (.cel (.int .i64 n)))), (40, (.one (.cel (.bool (decide (n < (1 : Int))))))), (39, (.one (.cel (.bool (decide (n < (1 : Int))))))), (38, (.one (.cel (.int .i64 n)))), (8, (.one (.cel (.int .i64 (if (((1 : Int) ≤ n) ∧ (n ≤ (8 : Int))) then (0 : Int) else (2 : Int)))))), (7, (.one (.cel (.row 2)))), (37, (.one (.cel (.int .i64 (if (((1 : Int) ≤ n) ∧ (n ≤ (8 : Int))) then (0 : Int) else (2 : Int)))))), (36, (.one (.cel (.row 2)))), (33, (.tup [(.cel (.row 2)), (.cel (.int .i64 (if (((1 : Int) ≤ n) ∧ (n ≤ (8 : Int))) then (0 : Int) else (2 : Int))))])), (35, (.tup [(.cel (.row 2)), (.cel (.int .i64 (if (((1 : Int) ≤ n) ∧ (n ≤ (8 : Int))) then (0 : Int) else (2 : Int))))])), (34, (.one (.cel (.int .i64 n)))), (31, (.one (.cel (.bool (((!Bool.true) || (decide ((100 : Int) < (((List.length l) : Nat) : Int)))) || (decide ((100 : Int) < (((List.length m) : Nat) : Int)))))))), (30, (.spec 27 Bool.false (.cel (.bool (decide ((100 : Int) < (((List.length m) : Nat) : Int))))))), (29, (.spec 27 Bool.false (.cel (.int .i64 (((List.length m) : Nat) : Int))))), (28, (.spec 27 Bool.false (.cel (.row 1)))), (27, (.one (.cel (.bool ((!Bool.true) || (decide ((100 : Int) < (((List.length l) : Nat) : Int)))))))), (26, (.one (.cel (.bool ((!Bool.true) || (decide ((100 : Int) < (((List.length l) : Nat) : Int)))))))), (25, (.spec 22 Bool.false (.cel (.bool (decide ((100 : Int) < (((List.length l) : Nat) : Int))))))), (24, (.spec 22 Bool.false (.cel (.int .i64 (((List.length l) : Nat) : Int))))), (23, (.spec 22 Bool.false (.cel (.row 0)))), (22, (.one (.cel (.bool (!Bool.true))))), (21, (.one (.cel (.bool (!Bool.true))))), (20, (.one (.cel (.bool Bool.true)))), (6, (.one (.cel (.bool Bool.false)))), (0, (.one (.cel (.int .i64 n)))), (1, (.one (.cel (.row 0)))), (2, (.one (.cel (.row 1))))], [], [⟨(.recs [.int .i64, .int .i64, .int .i64] l), none⟩, ⟨(.ints .i64 m), none⟩, ⟨(.recs [.int .i64, .int .i64, .int .i64] (nwL n)), none⟩, ⟨(.recs [.int .i64, .int .i64, .int .i64] (if ((allE l m) = (0 : Int)) then (allL l m) else ([] : List (List Int)))), none⟩], 0⟩
def lawall_L1_S2 (n : Int) (l : List (List Int)) (m : List Int) : St := ⟨150, [58, 40, 27, 22], [(72, (.one (.cel (.int .i64 (0 : Int))))), (71, (.one (.cel (.int .i64 (((List.length l) : Nat) : Int))))), (70, (.one (.cel (.row 0)))), (12, (.one (.cel (.int .i64 (0 : Int))))), (11, (.one (.cel (.bool (List.any l (fun x => (!(knockB (List.getD x 0 (0 : Int)) (List.getD x (0 + 1) (0 : Int)) (List.getD x ((0 + 1) + 1) (0 : Int)))))))))), (69, (.one (.cel (.bool (List.any l (fun x => (!(knockB (List.getD x 0 (0 : Int)) (List.getD x (0 + 1) (0 : Int)) (List.getD x ((0 + 1) + 1) (0 : Int)))))))))), (68, (.one (.cel (.row 0)))), (10, (.one (.cel (.int .i64 (allE l m))))), (9, (.one (.cel (.row 5)))), (67, (.one (.cel (.int .i64 (allE l m))))), (66, (.one (.cel (.row 5)))), (62, (.tup [(.cel (.row 5)), (.cel (.int .i64 (allE l m)))])), (65, (.tup [(.cel (.row 5)), (.cel (.int .i64 (allE l m)))])), (64, (.one (.cel (.row 1)))), (63, (.one (.cel (.row 0)))), (61, (.one (.cel (.bool ((!(decide ((List.map tri (nwL n)) = (List.map tri (List.replicate (Int.toNat n) [(0 : Int), (100 : Int), (0 : Int)]))))) || (!(decide ((if (((1 : Int) ≤ n) ∧ (n ≤ (8 : Int))) then (0 : Int) else (2 : Int)) = (0 : Int))))))))), (60, (.spec 58 Bool.false (.cel (.bool (!(decide ((if (((1 : Int) ≤ n) ∧ (n ≤ (8 : Int))) then (0 : Int) else (2 : Int)) = (0 : Int)))))))), (59, (.spec 58 Bool.false (.cel (.int .i64 (if (((1 : Int) ≤ n) ∧ (n ≤ (8 : Int))) then (0 : Int) else (2 : Int)))))), (58, (.one (.cel (.bool (!(decide ((List.map tri (nwL n)) = (List.map tri (List.replicate (Int.toNat n) [(0 : Int), (100 : Int), (0 : Int)]))))))))), (57, (.one (.cel (.bool (!(decide ((List.map tri (nwL n)) = (List.map tri (List.replicate (Int.toNat n) [(0 : Int), (100 : Int), (0 : Int)]))))))))), (56, (.one (.cel (.bool (decide ((List.map tri (nwL n)) = (List.map tri (List.replicate (Int.toNat n) [(0 : Int), (100 : Int), (0 : Int)])))))))), (55, (.one (.cel (.row 4)))), (54, (.one (.cel (.int .i64 n)))), (53, (.one (.cel (.row 3)))), (52, (.one (.agg [(.int .i64 (0 : Int)), (.int .i64 (100 : Int)), (.int .i64 (0 : Int))]))), (51, (.one (.cel (.row 2)))), (43, (.one (.cel (.bool ((decide (n < (1 : Int))) || (decide ((8 : Int) < n))))))), (42, (.spec 40 Bool.false (.cel (.bool (decide ((8 : Int) < n)))))), (41, (.spec 40 Bool.false (.cel (.int .i64 n)))), (40, (.one (.cel (.bool (decide (n < (1 : Int))))))), (39, (.one (.cel (.bool (decide (n < (1 : Int))))))), (38, (.one (.cel (.int .i64 n)))), (8, (.one (.cel (.int .i64 (if (((1 : Int) ≤ n) ∧ (n ≤ (8 : Int))) then (0 : Int) else (2 : Int)))))), (7, (.one (.cel (.row 2)))), (37, (.one (.cel (.int .i64 (if (((1 : Int) ≤ n) ∧ (n ≤ (8 : Int))) then (0 : Int) else (2 : Int)))))), (36, (.one (.cel (.row 2)))), (33, (.tup [(.cel (.row 2)), (.cel (.int .i64 (if (((1 : Int) ≤ n) ∧ (n ≤ (8 : Int))) then (0 : Int) else (2 : Int))))])), (35, (.tup [(.cel (.row 2)), (.cel (.int .i64 (if (((1 : Int) ≤ n) ∧ (n ≤ (8 : Int))) then (0 : Int) else (2 : Int))))])), (34, (.one (.cel (.int .i64 n)))), (31, (.one (.cel (.bool (((!Bool.true) || (decide ((100 : Int) < (((List.length l) : Nat) : Int)))) || (decide ((100 : Int) < (((List.length m) : Nat) : Int)))))))), (30, (.spec 27 Bool.false (.cel (.bool (decide ((100 : Int) < (((List.length m) : Nat) : Int))))))), (29, (.spec 27 Bool.false (.cel (.int .i64 (((List.length m) : Nat) : Int))))), (28, (.spec 27 Bool.false (.cel (.row 1)))), (27, (.one (.cel (.bool ((!Bool.true) || (decide ((100 : Int) < (((List.length l) : Nat) : Int)))))))), (26, (.one (.cel (.bool ((!Bool.true) || (decide ((100 : Int) < (((List.length l) : Nat) : Int)))))))), (25, (.spec 22 Bool.false (.cel (.bool (decide ((100 : Int) < (((List.length l) : Nat) : Int))))))), (24, (.spec 22 Bool.false (.cel (.int .i64 (((List.length l) : Nat) : Int))))), (23, (.spec 22 Bool.false (.cel (.row 0)))), (22, (.one (.cel (.bool (!Bool.true))))), (21, (.one (.cel (.bool (!Bool.true))))), (20, (.one (.cel (.bool Bool.true)))), (6, (.one (.cel (.bool Bool.false)))), (0, (.one (.cel (.int .i64 n)))), (1, (.one (.cel (.row 0)))), (2, (.one (.cel (.row 1))))], [], [⟨(.recs [.int .i64, .int .i64, .int .i64] l), none⟩, ⟨(.ints .i64 m), none⟩, ⟨(.recs [.int .i64, .int .i64, .int .i64] (nwL n)), none⟩, ⟨(.recs [.int .i64, .int .i64, .int .i64] [[(0 : Int), (100 : Int), (0 : Int)]]), none⟩, ⟨(.recs [.int .i64, .int .i64, .int .i64] (List.replicate (Int.toNat n) [(0 : Int), (100 : Int), (0 : Int)])), none⟩, ⟨(.recs [.int .i64, .int .i64, .int .i64] (if ((allE l m) = (0 : Int)) then (allL l m) else ([] : List (List Int)))), none⟩], 0⟩
def lawall_L2_F (n : Int) (l : List (List Int)) (m : List Int) (i : Int) (g : Int) (x : List (List Int)) (y : List (List Int)) (k : Int) (o : List (List Int)) : St := ⟨150, [], [(124, (.one (.cel (.int .i64 k)))), (123, (.one (.cel (.int .i64 (((List.length l) : Nat) : Int))))), (122, (.one (.cel (.row 0)))), (15, (.one (.cel (.row 5)))), (10, (.one (.cel (.int .i64 (allE l m))))), (9, (.one (.cel (.row 4)))), (6, (.one (.cel (.bool Bool.false)))), (2, (.one (.cel (.row 1))))], [], [⟨(.recs [.int .i64, .int .i64, .int .i64] l), none⟩, ⟨(.ints .i64 m), none⟩, ⟨(.recs [.int .i64, .int .i64, .int .i64] (nwL n)), none⟩, ⟨(.recs [.int .i64, .int .i64, .int .i64] y), none⟩, ⟨(.recs [.int .i64, .int .i64, .int .i64] x), none⟩, ⟨(.recs [.int .i64, .int .i64, .int .i64] o), some 23⟩], 0⟩
def lawall_L2_I (n : Int) (l : List (List Int)) (m : List Int) (i : Int) (g : Int) (x : List (List Int)) (y : List (List Int)) (k : Int) (o : List (List Int)) : Prop := (0 ≤ k ∧ k ≤ l.length) ∧ (allE l m = 0 ∧ m.length = l.length ∧ l.any (fun x => !kB x) = false ∧ m.any (fun x => !intensityB x) = false) ∧ (o = allL (l.take k.toNat) (m.take k.toNat))
def lawall_L2_m (n : Int) (l : List (List Int)) (m : List Int) (i : Int) (g : Int) (x : List (List Int)) (y : List (List Int)) (k : Int) (o : List (List Int)) : Nat := (l.length - k).toNat
def lawall_L2_N (n : Int) (l : List (List Int)) (m : List Int) (i : Int) (g : Int) (x : List (List Int)) (y : List (List Int)) (k' : Int) (o' : List (List Int)) (st_ : St) : Prop := getI st_ 124 fun k => getRR st_ 15 fun o => lawall_L2_I n l m i g x y k o ∧ lawall_L2_m n l m i g x y k o < lawall_L2_m n l m i g x y k' o' ∧ SubA st_ (lawall_L2_F n l m i g x y k o)
def lawall_L2_E (n : Int) (l : List (List Int)) (m : List Int) (i : Int) (g : Int) (x : List (List Int)) (y : List (List Int)) (st_ : St) : Prop := getI st_ 124 fun k => getRR st_ 15 fun o => lawall_L2_I n l m i g x y k o ∧ SubA st_ (lawall_L2_F n l m i g x y k o)
def lawall_L2_S1 (n : Int) (l : List (List Int)) (m : List Int) (i : Int) (g : Int) (x : List (List Int)) (y : List (List Int)) : St := ⟨150, [98, 93, 88], [(124, (.one (.cel (.int .i64 (0 : Int))))), (123, (.one (.cel (.int .i64 (((List.length l) : Nat) : Int))))), (122, (.one (.cel (.row 0)))), (15, (.one (.cel .nilS))), (112, (.one (.cel (.bool (List.any m (fun x => (!(intensityB x)))))))), (114, (.one (.cel (.bool (List.any m (fun x => (!(intensityB x)))))))), (113, (.one (.cel (.row 1)))), (86, (.one (.cel (.bool ((((List.any l (fun x => (!(knockB (List.getD x 0 (0 : Int)) (List.getD x (0 + 1) (0 : Int)) (List.getD x ((0 + 1) + 1) (0 : Int)))))) || (decide ((((List.length l) : Nat) : Int) < (1 : Int)))) || (decide ((8 : Int) < (((List.length l) : Nat) : Int)))) || (!(decide ((((List.length m) : Nat) : Int) = (((List.length l) : Nat) : Int))))))))), (104, (.one (.cel (.bool ((((List.any l (fun x => (!(knockB (List.getD x 0 (0 : Int)) (List.getD x (0 + 1) (0 : Int)) (List.getD x ((0 + 1) + 1) (0 : Int)))))) || (decide ((((List.length l) : Nat) : Int) < (1 : Int)))) || (decide ((8 : Int) < (((List.length l) : Nat) : Int)))) || (!(decide ((((List.length m) : Nat) : Int) = (((List.length l) : Nat) : Int))))))))), (103, (.spec 98 Bool.false (.cel (.bool (!(decide ((((List.length m) : Nat) : Int) = (((List.length l) : Nat) : Int)))))))), (102, (.spec 98 Bool.false (.cel (.int .i64 (((List.length l) : Nat) : Int))))), (101, (.spec 98 Bool.false (.cel (.row 0)))), (100, (.spec 98 Bool.false (.cel (.int .i64 (((List.length m) : Nat) : Int))))), (99, (.spec 98 Bool.false (.cel (.row 1)))), (98, (.one (.cel (.bool (((List.any l (fun x => (!(knockB (List.getD x 0 (0 : Int)) (List.getD x (0 + 1) (0 : Int)) (List.getD x ((0 + 1) + 1) (0 : Int)))))) || (decide ((((List.length l) : Nat) : Int) < (1 : Int)))) || (decide ((8 : Int) < (((List.length l) : Nat) : Int)))))))), (97, (.one (.cel (.bool (((List.any l (fun x => (!(knockB (List.getD x 0 (0 : Int)) (List.getD x (0 + 1) (0 : Int)) (List.getD x ((0 + 1) + 1) (0 : Int)))))) || (decide ((((List.length l) : Nat) : Int) < (1 : Int)))) || (decide ((8 : Int) < (((List.length l) : Nat) : Int)))))))), (96, (.spec 93 Bool.false (.cel (.bool (decide ((8 : Int) < (((List.length l) : Nat) : Int))))))), (95, (.spec 93 Bool.false (.cel (.int .i64 (((List.length l) : Nat) : Int))))), (94, (.spec 93 Bool.false (.cel (.row 0)))), (93, (.one (.cel (.bool ((List.any l (fun x => (!(knockB (List.getD x 0 (0 : Int)) (List.getD x (0 + 1) (0 : Int)) (List.getD x ((0 + 1) + 1) (0 : Int)))))) || (decide ((((List.length l) : Nat) : Int) < (1 : Int)))))))), (92, (.one (.cel (.bool ((List.any l (fun x => (!(knockB (List.getD x 0 (0 : Int)) (List.getD x (0 + 1) (0 : Int)) (List.getD x ((0 + 1) + 1) (0 : Int)))))) || (decide ((((List.length l) : Nat) : Int) < (1 : Int)))))))), (91, (.spec 88 Bool.false (.cel (.bool (decide ((((List.length l) : Nat) : Int) < (1 : Int))))))), (90, (.spec 88 Bool.false (.cel (.int .i64 (((List.length l) : Nat) : Int))))), (89, (.spec 88 Bool.false (.cel (.row 0)))), (88, (.one (.cel (.bool (List.any l (fun x => (!(knockB (List.getD x 0 (0 : Int)) (List.getD x (0 + 1) (0 : Int)) (List.getD x ((0 + 1) + 1) (0 : Int)))))))))), (87, (.one (.cel (.bool (List.any l (fun x => (!(knockB (List.getD x 0 (0 : Int)) (List.getD x (0 + 1) (0 : Int)) (List.getD x ((0 + 1) + 1) (0 : Int)))))))))), (85, (.one (.cel (.bool (!(decide ((mst l (0 : Int)) = (0 : Int)))))))), (84, (.one (.cel (.int .i64 (0 : Int))))), (83, (.one (.cel (.int .i64 (mst l (0 : Int)))))), (82, (.one (.cel (.row 0)))), (12, (.one (.cel (.int .i64 (0 : Int))))), (81, (.one (.cel (.bool (List.any l (fun x => (!(knockB (List.getD x 0 (0 : Int)) (List.getD x (0 + 1) (0 : Int)) (List.getD x ((0 + 1) + 1) (0 : Int)))))))))), (73, (.one (.cel (.bool (decide (i < (((List.length l) : Nat) : Int))))))), (72, (.one (.cel (.int .i64 i)))), (71, (.one (.cel (.int .i64 (((List.length l) : Nat) : Int))))), (70, (.one (.cel (.row 0)))), (12, (.one (.cel (.int .i64 g)))), (11, (.one (.cel (.bool (List.any l (fun x => (!(knockB (List.getD x 0 (0 : Int)) (List.getD x (0 + 1) (0 : Int)) (List.getD x ((0 + 1) + 1) (0 : Int)))))))))), (10, (.one (.cel (.int .i64 (allE l m))))), (9, (.one (.cel (.row 4)))), (6, (.one (.cel (.bool Bool.false)))), (1, (.one (.cel (.row 0)))), (2, (.one (.cel (.row 1))))], [], [⟨(.recs [.int .i64, .int .i64, .int .i64] l), none⟩, ⟨(.ints .i64 m), none⟩, ⟨(.recs [.int .i64, .int .i64, .int .i64] (nwL n)), none⟩, ⟨(.recs [.int .i64, .int .i64, .int .i64] y), none⟩, ⟨(.recs [.int .i64, .int .i64, .int .i64] x), none⟩], 0⟩
def lawall_L2_S2 (n : Int) (l : List (List Int)) (m : List Int) (i : Int) (g : Int) (x : List (List Int)) (y : List (List Int)) : St := ⟨150, [98, 93, 88], [(124, (.one (.cel (.int .i64 (0 : Int))))), (123, (.one (.cel (.int .i64 (((List.length l) : Nat) : Int))))), (122, (.one (.cel (.row 0)))), (15, (.one (.cel .nilS))), (112, (.one (.cel (.bool (List.any m (fun x => (!(intensityB x)))))))), (114, (.one (.cel (.bool (List.any m (fun x => (!(intensityB x)))))))), (113, (.one (.cel (.row 1)))), (86, (.one (.cel (.bool ((((List.any l (fun x => (!(knockB (List.getD x 0 (0 : Int)) (List.getD x (0 + 1) (0 : Int)) (List.getD x ((0 + 1) + 1) (0 : Int)))))) || (decide ((((List.length l) : Nat) : Int) < (1 : Int)))) || (decide ((8 : Int) < (((List.length l) : Nat) : Int)))) || (!(decide ((((List.length m) : Nat) : Int) = (((List.length l) : Nat) : Int))))))))), (104, (.one (.cel (.bool ((((List.any l (fun x => (!(knockB (List.getD x 0 (0 : Int)) (List.getD x (0 + 1) (0 : Int)) (List.getD x ((0 + 1) + 1) (0 : Int)))))) || (decide ((((List.length l) : Nat) : Int) < (1 : Int)))) || (decide ((8 : Int) < (((List.length l) : Nat) : Int)))) || (!(decide ((((List.length m) : Nat) : Int) = (((List.length l) : Nat) : Int))))))))), (103, (.spec 98 Bool.false (.cel (.bool (!(decide ((((List.length m) : Nat) : Int) = (((List.length l) : Nat) : Int)))))))), (102, (.spec 98 Bool.false (.cel (.int .i64 (((List.length l) : Nat) : Int))))), (101, (.spec 98 Bool.false (.cel (.row 0)))), (100, (.spec 98 Bool.false (.cel (.int .i64 (((List.length m) : Nat) : Int))))), (99, (.spec 98 Bool.false (.cel (.row 1)))), (98, (.one (.cel (.bool (((List.any l (fun x => (!(knockB (List.getD x 0 (0 : Int)) (List.getD x (0 + 1) (0 : Int)) (List.getD x ((0 + 1) + 1) (0 : Int)))))) || (decide ((((List.length l) : Nat) : Int) < (1 : Int)))) || (decide ((8 : Int) < (((List.length l) : Nat) : Int)))))))), (97, (.one (.cel (.bool (((List.any l (fun x => (!(knockB (List.getD x 0 (0 : Int)) (List.getD x (0 + 1) (0 : Int)) (List.getD x ((0 + 1) + 1) (0 : Int)))))) || (decide ((((List.length l) : Nat) : Int) < (1 : Int)))) || (decide ((8 : Int) < (((List.length l) : Nat) : Int)))))))), (96, (.spec 93 Bool.false (.cel (.bool (decide ((8 : Int) < (((List.length l) : Nat) : Int))))))), (95, (.spec 93 Bool.false (.cel (.int .i64 (((List.length l) : Nat) : Int))))), (94, (.spec 93 Bool.false (.cel (.row 0)))), (93, (.one (.cel (.bool ((List.any l (fun x => (!(knockB (List.getD x 0 (0 : Int)) (List.getD x (0 + 1) (0 : Int)) (List.getD x ((0 + 1) + 1) (0 : Int)))))) || (decide ((((List.length l) : Nat) : Int) < (1 : Int)))))))), (92, (.one (.cel (.bool ((List.any l (fun x => (!(knockB (List.getD x 0 (0 : Int)) (List.getD x (0 + 1) (0 : Int)) (List.getD x ((0 + 1) + 1) (0 : Int)))))) || (decide ((((List.length l) : Nat) : Int) < (1 : Int)))))))), (91, (.spec 88 Bool.false (.cel (.bool (decide ((((List.length l) : Nat) : Int) < (1 : Int))))))), (90, (.spec 88 Bool.false (.cel (.int .i64 (((List.length l) : Nat) : Int))))), (89, (.spec 88 Bool.false (.cel (.row 0)))), (88, (.one (.cel (.bool (List.any l (fun x => (!(knockB (List.getD x 0 (0 : Int)) (List.getD x (0 + 1) (0 : Int)) (List.getD x ((0 + 1) + 1) (0 : Int)))))))))), (87, (.one (.cel (.bool (List.any l (fun x => (!(knockB (List.getD x 0 (0 : Int)) (List.getD x (0 + 1) (0 : Int)) (List.getD x ((0 + 1) + 1) (0 : Int)))))))))), (85, (.one (.cel (.bool (!(decide ((mst l (0 : Int)) = g))))))), (84, (.one (.cel (.int .i64 g)))), (83, (.one (.cel (.int .i64 (mst l (0 : Int)))))), (82, (.one (.cel (.row 0)))), (81, (.one (.cel (.bool (List.any l (fun x => (!(knockB (List.getD x 0 (0 : Int)) (List.getD x (0 + 1) (0 : Int)) (List.getD x ((0 + 1) + 1) (0 : Int)))))))))), (73, (.one (.cel (.bool (decide (i < (((List.length l) : Nat) : Int))))))), (72, (.one (.cel (.int .i64 i)))), (71, (.one (.cel (.int .i64 (((List.length l) : Nat) : Int))))), (70, (.one (.cel (.row 0)))), (12, (.one (.cel (.int .i64 g)))), (11, (.one (.cel (.bool (List.any l (fun x => (!(knockB (List.getD x 0 (0 : Int)) (List.getD x (0 + 1) (0 : Int)) (List.getD x ((0 + 1) + 1) (0 : Int)))))))))), (10, (.one (.cel (.int .i64 (allE l m))))), (9, (.one (.cel (.row 4)))), (6, (.one (.cel (.bool Bool.false)))), (1, (.one (.cel (.row 0)))), (2, (.one (.cel (.row 1))))], [], [⟨(.recs [.int .i64, .int .i64, .int .i64] l), none⟩, ⟨(.ints .i64 m), none⟩, ⟨(.recs [.int .i64, .int .i64, .int .i64] (nwL n)), none⟩, ⟨(.recs [.int .i64, .int .i64, .int .i64] y), none⟩, ⟨(.recs [.int .i64, .int .i64, .int .i64] x), none⟩], 0⟩
def lawall_L2_T (n : Int) (l : List (List Int)) (m : List Int) (i : Int) (g : Int) (x : List (List Int)) (y : List (List Int)) (k : Int) (o : List (List Int)) : Prop := (cnd (decide (k < (((List.length l) : Nat) : Int)))
  (cnd (decide ((0 : Int) ≤ k))
    (cnd (decide (k < (((List.length l) : Nat) : Int)))
      (cnd (decide ((0 : Int) ≤ k))
        (cnd (decide (k < (((List.length m) : Nat) : Int)))
          (cnd (knockB (List.getD (List.getD l (Int.toNat k) ([] : List Int)) 0 (0 : Int)) (List.getD (List.getD l (Int.toNat k) ([] : List Int)) (0 + 1) (0 : Int)) (List.getD (List.getD l (Int.toNat k) ([] : List Int)) ((0 + 1) + 1) (0 : Int)))
            (cnd (intensityB (List.getD m (Int.toNat k) (0 : Int)))
              (cnd (decide ((List.length (o ++ [[(stR (List.getD (List.getD l (Int.toNat k) ([] : List Int)) 0 (0 : Int)) (List.getD (List.getD l (Int.toNat k) ([] : List Int)) (0 + 1) (0 : Int)) (List.getD (List.getD l (Int.toNat k) ([] : List Int)) ((0 + 1) + 1) (0 : Int)) (List.getD m (Int.toNat k) (0 : Int))), (stN (List.getD (List.getD l (Int.toNat k) ([] : List Int)) (0 + 1) (0 : Int)) (List.getD m (Int.toNat k) (0 : Int))), (stQ (List.getD (List.getD l (Int.toNat k) ([] : List Int)) (0 + 1) (0 : Int)) (List.getD (List.getD l (Int.toNat k) ([] : List Int)) ((0 + 1) + 1) (0 : Int)) (List.getD m (Int.toNat k) (0 : Int)))]])) ≤ 4294967296))
                ((lawall_L2_I n l m i g x y (Go.IntKind.wrap Go.IntKind.i64 (k + (1 : Int))) (o ++ [[(stR (List.getD (List.getD l (Int.toNat k) ([] : List Int)) 0 (0 : Int)) (List.getD (List.getD l (Int.toNat k) ([] : List Int)) (0 + 1) (0 : Int)) (List.getD (List.getD l (Int.toNat k) ([] : List Int)) ((0 + 1) + 1) (0 : Int)) (List.getD m (Int.toNat k) (0 : Int))), (stN (List.getD (List.getD l (Int.toNat k) ([] : List Int)) (0 + 1) (0 : Int)) (List.getD m (Int.toNat k) (0 : Int))), (stQ (List.getD (List.getD l (Int.toNat k) ([] : List Int)) (0 + 1) (0 : Int)) (List.getD (List.getD l (Int.toNat k) ([] : List Int)) ((0 + 1) + 1) (0 : Int)) (List.getD m (Int.toNat k) (0 : Int)))]])) ∧ (((lawall_L2_m n l m i g x y (Go.IntKind.wrap Go.IntKind.i64 (k + (1 : Int))) (o ++ [[(stR (List.getD (List.getD l (Int.toNat k) ([] : List Int)) 0 (0 : Int)) (List.getD (List.getD l (Int.toNat k) ([] : List Int)) (0 + 1) (0 : Int)) (List.getD (List.getD l (Int.toNat k) ([] : List Int)) ((0 + 1) + 1) (0 : Int)) (List.getD m (Int.toNat k) (0 : Int))), (stN (List.getD (List.getD l (Int.toNat k) ([] : List Int)) (0 + 1) (0 : Int)) (List.getD m (Int.toNat k) (0 : Int))), (stQ (List.getD (List.getD l (Int.toNat k) ([] : List Int)) (0 + 1) (0 : Int)) (List.getD (List.getD l (Int.toNat k) ([] : List Int)) ((0 + 1) + 1) (0 : Int)) (List.getD m (Int.toNat k) (0 : Int)))]])) < (lawall_L2_m n l m i g x y k o)) ∧ (((Go.IntKind.wrap Go.IntKind.i64 (k + (1 : Int))) = (Go.IntKind.wrap Go.IntKind.i64 (k + (1 : Int)))) ∧ (((((List.length l) : Nat) : Int) = (((List.length l) : Nat) : Int)) ∧ (True ∧ (True ∧ (((allE l m) = (allE l m)) ∧ (True ∧ ((Bool.false = Bool.false) ∧ (True ∧ ((l = l) ∧ ((m = m) ∧ (((nwL n) = (nwL n)) ∧ ((y = y) ∧ ((x = x) ∧ (((o ++ [[(stR (List.getD (List.getD l (Int.toNat k) ([] : List Int)) 0 (0 : Int)) (List.getD (List.getD l (Int.toNat k) ([] : List Int)) (0 + 1) (0 : Int)) (List.getD (List.getD l (Int.toNat k) ([] : List Int)) ((0 + 1) + 1) (0 : Int)) (List.getD m (Int.toNat k) (0 : Int))), (stN (List.getD (List.getD l (Int.toNat k) ([] : List Int)) (0 + 1) (0 : Int)) (List.getD m (Int.toNat k) (0 : Int))), (stQ (List.getD (List.getD l (Int.toNat k) ([] : List Int)) (0 + 1) (0 : Int)) (List.getD (List.getD l (Int.toNat k) ([] : List Int)) ((0 + 1) + 1) (0 : Int)) (List.getD m (Int.toNat k) (0 : Int)))]]) = (o ++ [[(stR (List.getD (List.getD l (Int.toNat k) ([] : List Int)) 0 (0 : Int)) (List.getD (List.getD l (Int.toNat k) ([] : List Int)) (0 + 1) (0 : Int)) (List.getD (List.getD l (Int.toNat k) ([] : List Int)) ((0 + 1) + 1) (0 : Int)) (List.getD m (Int.toNat k) (0 : Int))), (stN (List.getD (List.getD l (Int.toNat k) ([] : List Int)) (0 + 1) (0 : Int)) (List.getD m (Int.toNat k) (0 : Int))), (stQ (List.getD (List.getD l (Int.toNat k) ([] : List Int)) (0 + 1) (0 : Int)) (List.getD (List.getD l (Int.toNat k) ([] : List Int)) ((0 + 1) + 1) (0 : Int)) (List.getD m (Int.toNat k) (0 : Int)))]])) ∧ True))))))))))))))))
                False)
              False)
            False)
          False)
        False)
      False)
    False)
  (cnd (decide ((List.length x) ≤ 1000))
    (cnd (decide ((List.length o) ≤ 1000))
      (((decide ((List.map tri x) = (List.map tri o))) && (decide ((allE l m) = (0 : Int)))) = Bool.true)
      False)
    False))
set_option maxRecDepth 100000 in
theorem lawall_L2_tree (n : Int) (l : List (List Int)) (m : List Int) (i : Int) (g : Int) (x : List (List Int)) (y : List (List Int)) (k : Int) (o : List (List Int)) : lawall_L2_T n l m i g x y k o = ex Try.prog (conOf [awake_e, knew_e, rep_e, equal_e, all_e, law1_cfn_e, most_e, law2_cfn_e, rStep_e]) (subC (bodyOf Try.f8) [1, 1, 1, 1, 1, 1, 1, 1, 1, 1, 1, 1, 0, 1, 0, 0]) (nextE (lawall_L2_N n l m i g x y k o) (kont Try.prog (conOf [awake_e, knew_e, rep_e, equal_e, all_e, law1_cfn_e, most_e, law2_cfn_e, rStep_e]) (bodyOf Try.f8) [1, 1, 1, 1, 1, 1, 1, 1, 1, 1, 1, 1, 0, 1, 0] (retPost Try.prog Try.f8 2 (lawall_res n l m)))) (lawall_L2_F n l m i g x y k o) := by kernel_rfl
set_option maxRecDepth 100000 in
theorem lawall_L2_round (n : Int) (l : List (List Int)) (m : List Int) (i : Int) (g : Int) (x : List (List Int)) (y : List (List Int)) (k : Int) (o : List (List Int)) (p0 : (wfI .i64 n) = true) (p1 : (wfR [.int .i64, .int .i64, .int .i64] l) = true) (p2 : (wfL .i64 m) = true) (p3 : (lenB l) = true) (p4 : (lenB m) = true) (hI_L1 : lawall_L1_I n l m i g x y) (hI_L2 : lawall_L2_I n l m i g x y k o) : lawall_L2_T n l m i g x y k o := by
  obtain ⟨⟨b1, b2, b3⟩, _⟩ := hI_L1
  obtain ⟨⟨a1, a2⟩, ⟨a3, a4, a5, a6⟩, a7⟩ := hI_L2
  rw [a3, if_pos rfl] at b1
  have hol : o.length = k.toNat := by
    rw [a7, allL_len _ _ (by rw [List.length_take, List.length_take, a4]), List.length_take]; omega
  unfold lawall_L2_T
  rw [w64 (n := k + 1) (by omega) (by omega)]
  by_cases hi : k < l.length
  · have k1 : kB (l.getD k.toNat []) = true := by
      have := any_false (d := []) a5 (j := k.toNat) (by omega)
      simpa using this
    have k2 : intensityB (m.getD k.toNat 0) = true := by
      have := any_false (d := 0) a6 (j := k.toNat) (by omega)
      simpa using this
    have hnew : o ++ [stK (l.getD k.toNat []) (m.getD k.toNat 0)] = allL (l.take (k + 1).toNat) (m.take (k + 1).toNat) := by
      rw [a7, take_snoc (d := []) a1 hi, take_snoc (d := 0) a1 (by omega), allL_snoc _ _ _ _ (by rw [List.length_take, List.length_take, a4])]
    have hlen : (o ++ [stK (l.getD k.toNat []) (m.getD k.toNat 0)]).length = o.length + 1 := by simp
    unfold kB at k1
    rw [decide_eq_true hi, decide_eq_true a1, k1, k2, decide_eq_true (show k < ((m.length : Nat) : Int) by omega)]
    change cnd true (cnd true (cnd true (cnd true (cnd true (cnd true (cnd true (cnd (decide ((o ++ [stK (l.getD k.toNat []) (m.getD k.toNat 0)]).length ≤ 4294967296)) (lawall_L2_I n l m i g x y (k + 1) (o ++ [stK (l.getD k.toNat []) (m.getD k.toNat 0)]) ∧ lawall_L2_m n l m i g x y (k + 1) (o ++ [stK (l.getD k.toNat []) (m.getD k.toNat 0)]) < lawall_L2_m n l m i g x y k o ∧ _) _) _) _) _) _) _) _) _
    rw [decide_eq_true (show (o ++ [stK (l.getD k.toNat []) (m.getD k.toNat 0)]).length ≤ 4294967296 by omega)]
    exact ⟨⟨⟨by omega, by omega⟩, ⟨a3, a4, a5, a6⟩, hnew⟩, by unfold lawall_L2_m; omega, by simp⟩
  · rw [decide_eq_false hi]
    rw [List.take_of_length_le (by omega), List.take_of_length_le (by omega)] at a7
    have hxl : x.length ≤ 1000 := by rw [b1, allL_len _ _ (by omega)]; omega
    rw [decide_eq_true hxl, decide_eq_true (show o.length ≤ 1000 by omega), a3, a7, b1, decide_eq_true (rfl : (allL l m).map tri = (allL l m).map tri)]
    rfl
set_option maxRecDepth 100000 in
theorem lawall_L2_entry1 (n : Int) (l : List (List Int)) (m : List Int) (i : Int) (g : Int) (x : List (List Int)) (y : List (List Int)) : (((lawall_L2_I n l m i g x y (0 : Int) ([] : List (List Int))) ∧ (((0 : Int) = (0 : Int)) ∧ (((((List.length l) : Nat) : Int) = (((List.length l) : Nat) : Int)) ∧ (True ∧ (True ∧ (((allE l m) = (allE l m)) ∧ (True ∧ ((Bool.false = Bool.false) ∧ (True ∧ ((l = l) ∧ ((m = m) ∧ (((nwL n) = (nwL n)) ∧ ((y = y) ∧ ((x = x) ∧ ((([] : List (List Int)) = ([] : List (List Int))) ∧ True)))))))))))))))) = lawall_L2_E n l m i g x y (lawall_L2_S1 n l m i g x y) := by kernel_rfl
theorem lawall_L2_1 (n : Int) (l : List (List Int)) (m : List Int) (i : Int) (g : Int) (x : List (List Int)) (y : List (List Int)) (p0 : (wfI .i64 n) = true) (p1 : (wfR [.int .i64, .int .i64, .int .i64] l) = true) (p2 : (wfL .i64 m) = true) (p3 : (lenB l) = true) (p4 : (lenB m) = true) (hI_L1 : lawall_L1_I n l m i g x y) (h : ((lawall_L2_I n l m i g x y (0 : Int) ([] : List (List Int))) ∧ (((0 : Int) = (0 : Int)) ∧ (((((List.length l) : Nat) : Int) = (((List.length l) : Nat) : Int)) ∧ (True ∧ (True ∧ (((allE l m) = (allE l m)) ∧ (True ∧ ((Bool.false = Bool.false) ∧ (True ∧ ((l = l) ∧ ((m = m) ∧ (((nwL n) = (nwL n)) ∧ ((y = y) ∧ ((x = x) ∧ ((([] : List (List Int)) = ([] : List (List Int))) ∧ True)))))))))))))))) : LoopP (ex Try.prog (conOf [awake_e, knew_e, rep_e, equal_e, all_e, law1_cfn_e, most_e, law2_cfn_e, rStep_e]) (subC (bodyOf Try.f8) [1, 1, 1, 1, 1, 1, 1, 1, 1, 1, 1, 1, 0, 1, 0, 0])) (kont Try.prog (conOf [awake_e, knew_e, rep_e, equal_e, all_e, law1_cfn_e, most_e, law2_cfn_e, rStep_e]) (bodyOf Try.f8) [1, 1, 1, 1, 1, 1, 1, 1, 1, 1, 1, 1, 0, 1, 0] (retPost Try.prog Try.f8 2 (lawall_res n l m))) (lawall_L2_S1 n l m i g x y) := by
  have hE : lawall_L2_E n l m i g x y (lawall_L2_S1 n l m i g x y) := Eq.mp (lawall_L2_entry1 n l m i g x y) h
  unfold lawall_L2_E at hE
  obtain ⟨k, hE⟩ := getI_of hE
  obtain ⟨o, hE⟩ := getRR_of hE
  refine loop_of (α := (Int) × (List (List Int))) (fun xx_ => lawall_L2_F n l m i g x y xx_.1 xx_.2) (fun xx_ => lawall_L2_I n l m i g x y xx_.1 xx_.2) (fun xx_ => lawall_L2_m n l m i g x y xx_.1 xx_.2) (fun xx_ => lawall_L2_N n l m i g x y xx_.1 xx_.2) (fun xx_ => lawall_L2_T n l m i g x y xx_.1 xx_.2) (fun xx_ s_ h => ?_) ⟨⟨k, o⟩, hE⟩ (fun xx_ => lawall_L2_tree n l m i g x y xx_.1 xx_.2) (fun xx_ hI => lawall_L2_round n l m i g x y xx_.1 xx_.2 p0 p1 p2 p3 p4 hI_L1 hI)
  unfold lawall_L2_N at h
  obtain ⟨k, h⟩ := getI_of h
  obtain ⟨o, h⟩ := getRR_of h
  exact ⟨⟨k, o⟩, h⟩
set_option maxRecDepth 100000 in
theorem lawall_L2_entry2 (n : Int) (l : List (List Int)) (m : List Int) (i : Int) (g : Int) (x : List (List Int)) (y : List (List Int)) : (((lawall_L2_I n l m i g x y (0 : Int) ([] : List (List Int))) ∧ (((0 : Int) = (0 : Int)) ∧ (((((List.length l) : Nat) : Int) = (((List.length l) : Nat) : Int)) ∧ (True ∧ (True ∧ (((allE l m) = (allE l m)) ∧ (True ∧ ((Bool.false = Bool.false) ∧ (True ∧ ((l = l) ∧ ((m = m) ∧ (((nwL n) = (nwL n)) ∧ ((y = y) ∧ ((x = x) ∧ ((([] : List (List Int)) = ([] : List (List Int))) ∧ True)))))))))))))))) = lawall_L2_E n l m i g x y (lawall_L2_S2 n l m i g x y) := by kernel_rfl
theorem lawall_L2_2 (n : Int) (l : List (List Int)) (m : List Int) (i : Int) (g : Int) (x : List (List Int)) (y : List (List Int)) (p0 : (wfI .i64 n) = true) (p1 : (wfR [.int .i64, .int .i64, .int .i64] l) = true) (p2 : (wfL .i64 m) = true) (p3 : (lenB l) = true) (p4 : (lenB m) = true) (hI_L1 : lawall_L1_I n l m i g x y) (h : ((lawall_L2_I n l m i g x y (0 : Int) ([] : List (List Int))) ∧ (((0 : Int) = (0 : Int)) ∧ (((((List.length l) : Nat) : Int) = (((List.length l) : Nat) : Int)) ∧ (True ∧ (True ∧ (((allE l m) = (allE l m)) ∧ (True ∧ ((Bool.false = Bool.false) ∧ (True ∧ ((l = l) ∧ ((m = m) ∧ (((nwL n) = (nwL n)) ∧ ((y = y) ∧ ((x = x) ∧ ((([] : List (List Int)) = ([] : List (List Int))) ∧ True)))))))))))))))) : LoopP (ex Try.prog (conOf [awake_e, knew_e, rep_e, equal_e, all_e, law1_cfn_e, most_e, law2_cfn_e, rStep_e]) (subC (bodyOf Try.f8) [1, 1, 1, 1, 1, 1, 1, 1, 1, 1, 1, 1, 0, 1, 0, 0])) (kont Try.prog (conOf [awake_e, knew_e, rep_e, equal_e, all_e, law1_cfn_e, most_e, law2_cfn_e, rStep_e]) (bodyOf Try.f8) [1, 1, 1, 1, 1, 1, 1, 1, 1, 1, 1, 1, 0, 1, 0] (retPost Try.prog Try.f8 2 (lawall_res n l m))) (lawall_L2_S2 n l m i g x y) := by
  have hE : lawall_L2_E n l m i g x y (lawall_L2_S2 n l m i g x y) := Eq.mp (lawall_L2_entry2 n l m i g x y) h
  unfold lawall_L2_E at hE
  obtain ⟨k, hE⟩ := getI_of hE
  obtain ⟨o, hE⟩ := getRR_of hE
  refine loop_of (α := (Int) × (List (List Int))) (fun xx_ => lawall_L2_F n l m i g x y xx_.1 xx_.2) (fun xx_ => lawall_L2_I n l m i g x y xx_.1 xx_.2) (fun xx_ => lawall_L2_m n l m i g x y xx_.1 xx_.2) (fun xx_ => lawall_L2_N n l m i g x y xx_.1 xx_.2) (fun xx_ => lawall_L2_T n l m i g x y xx_.1 xx_.2) (fun xx_ s_ h => ?_) ⟨⟨k, o⟩, hE⟩ (fun xx_ => lawall_L2_tree n l m i g x y xx_.1 xx_.2) (fun xx_ hI => lawall_L2_round n l m i g x y xx_.1 xx_.2 p0 p1 p2 p3 p4 hI_L1 hI)
  unfold lawall_L2_N at h
  obtain ⟨k, h⟩ := getI_of h
  obtain ⟨o, h⟩ := getRR_of h
  exact ⟨⟨k, o⟩, h⟩
def lawall_L1_T (n : Int) (l : List (List Int)) (m : List Int) (i : Int) (g : Int) (x : List (List Int)) (y : List (List Int)) : Prop := (cnd (decide (i < (((List.length l) : Nat) : Int)))
  (cnd (decide ((0 : Int) ≤ i))
    (cnd (decide (i < (((List.length l) : Nat) : Int)))
      ((lawall_L1_I n l m (Go.IntKind.wrap Go.IntKind.i64 (i + (1 : Int))) (gmax g (List.getD (List.getD l (Int.toNat i) ([] : List Int)) 0 (0 : Int))) x y) ∧ (((lawall_L1_m n l m (Go.IntKind.wrap Go.IntKind.i64 (i + (1 : Int))) (gmax g (List.getD (List.getD l (Int.toNat i) ([] : List Int)) 0 (0 : Int))) x y) < (lawall_L1_m n l m i g x y)) ∧ (((Go.IntKind.wrap Go.IntKind.i64 (i + (1 : Int))) = (Go.IntKind.wrap Go.IntKind.i64 (i + (1 : Int)))) ∧ (((((List.length l) : Nat) : Int) = (((List.length l) : Nat) : Int)) ∧ (True ∧ (((gmax g (List.getD (List.getD l (Int.toNat i) ([] : List Int)) 0 (0 : Int))) = (gmax g (List.getD (List.getD l (Int.toNat i) ([] : List Int)) 0 (0 : Int)))) ∧ (((List.any l (fun x => (!(knockB (List.getD x 0 (0 : Int)) (List.getD x (0 + 1) (0 : Int)) (List.getD x ((0 + 1) + 1) (0 : Int)))))) = (List.any l (fun x => (!(knockB (List.getD x 0 (0 : Int)) (List.getD x (0 + 1) (0 : Int)) (List.getD x ((0 + 1) + 1) (0 : Int))))))) ∧ (((allE l m) = (allE l m)) ∧ (True ∧ ((Bool.false = Bool.false) ∧ (True ∧ (True ∧ ((l = l) ∧ ((m = m) ∧ (((nwL n) = (nwL n)) ∧ ((y = y) ∧ ((x = x) ∧ True)))))))))))))))))
      False)
    False)
  (cnd (List.any l (fun x => (!(knockB (List.getD x 0 (0 : Int)) (List.getD x (0 + 1) (0 : Int)) (List.getD x ((0 + 1) + 1) (0 : Int))))))
    (cnd (decide ((((List.length l) : Nat) : Int) ≤ (1000 : Int)))
      (cnd (!(decide ((mst l (0 : Int)) = (0 : Int))))
        (Bool.false = Bool.true)
        (cnd ((((List.any l (fun x => (!(knockB (List.getD x 0 (0 : Int)) (List.getD x (0 + 1) (0 : Int)) (List.getD x ((0 + 1) + 1) (0 : Int)))))) || (decide ((((List.length l) : Nat) : Int) < (1 : Int)))) || (decide ((8 : Int) < (((List.length l) : Nat) : Int)))) || (!(decide ((((List.length m) : Nat) : Int) = (((List.length l) : Nat) : Int)))))
          (((decide ((((List.length x) : Nat) : Int) = (0 : Int))) && (decide ((allE l m) = (1 : Int)))) = Bool.true)
          (cnd (decide ((((List.length m) : Nat) : Int) ≤ (1000000 : Int)))
            (cnd (List.any m (fun x => (!(intensityB x))))
              (((decide ((((List.length x) : Nat) : Int) = (0 : Int))) && (decide ((allE l m) = (2 : Int)))) = Bool.true)
              (LoopP (ex Try.prog (conOf [awake_e, knew_e, rep_e, equal_e, all_e, law1_cfn_e, most_e, law2_cfn_e, rStep_e]) (subC (bodyOf Try.f8) [1, 1, 1, 1, 1, 1, 1, 1, 1, 1, 1, 1, 0, 1, 0, 0])) (kont Try.prog (conOf [awake_e, knew_e, rep_e, equal_e, all_e, law1_cfn_e, most_e, law2_cfn_e, rStep_e]) (bodyOf Try.f8) [1, 1, 1, 1, 1, 1, 1, 1, 1, 1, 1, 1, 0, 1, 0] (retPost Try.prog Try.f8 2 (lawall_res n l m))) (lawall_L2_S1 n l m i g x y)))
            False)))
      False)
    (cnd (decide ((((List.length l) : Nat) : Int) ≤ (1000 : Int)))
      (cnd (!(decide ((mst l (0 : Int)) = g)))
        (Bool.false = Bool.true)
        (cnd ((((List.any l (fun x => (!(knockB (List.getD x 0 (0 : Int)) (List.getD x (0 + 1) (0 : Int)) (List.getD x ((0 + 1) + 1) (0 : Int)))))) || (decide ((((List.length l) : Nat) : Int) < (1 : Int)))) || (decide ((8 : Int) < (((List.length l) : Nat) : Int)))) || (!(decide ((((List.length m) : Nat) : Int) = (((List.length l) : Nat) : Int)))))
          (((decide ((((List.length x) : Nat) : Int) = (0 : Int))) && (decide ((allE l m) = (1 : Int)))) = Bool.true)
          (cnd (decide ((((List.length m) : Nat) : Int) ≤ (1000000 : Int)))
            (cnd (List.any m (fun x => (!(intensityB x))))
              (((decide ((((List.length x) : Nat) : Int) = (0 : Int))) && (decide ((allE l m) = (2 : Int)))) = Bool.true)
              (LoopP (ex Try.prog (conOf [awake_e, knew_e, rep_e, equal_e, all_e, law1_cfn_e, most_e, law2_cfn_e, rStep_e]) (subC (bodyOf Try.f8) [1, 1, 1, 1, 1, 1, 1, 1, 1, 1, 1, 1, 0, 1, 0, 0])) (kont Try.prog (conOf [awake_e, knew_e, rep_e, equal_e, all_e, law1_cfn_e, most_e, law2_cfn_e, rStep_e]) (bodyOf Try.f8) [1, 1, 1, 1, 1, 1, 1, 1, 1, 1, 1, 1, 0, 1, 0] (retPost Try.prog Try.f8 2 (lawall_res n l m))) (lawall_L2_S2 n l m i g x y)))
            False)))
      False)))
set_option maxRecDepth 100000 in
theorem lawall_L1_tree (n : Int) (l : List (List Int)) (m : List Int) (i : Int) (g : Int) (x : List (List Int)) (y : List (List Int)) : lawall_L1_T n l m i g x y = ex Try.prog (conOf [awake_e, knew_e, rep_e, equal_e, all_e, law1_cfn_e, most_e, law2_cfn_e, rStep_e]) (subC (bodyOf Try.f8) [1, 1, 1, 1, 1, 1, 1, 0, 1, 0, 0]) (nextE (lawall_L1_N n l m i g x y) (kont Try.prog (conOf [awake_e, knew_e, rep_e, equal_e, all_e, law1_cfn_e, most_e, law2_cfn_e, rStep_e]) (bodyOf Try.f8) [1, 1, 1, 1, 1, 1, 1, 0, 1, 0] (retPost Try.prog Try.f8 2 (lawall_res n l m)))) (lawall_L1_F n l m i g x y) := by kernel_rfl
set_option maxRecDepth 100000 in
theorem lawall_L1_round (n : Int) (l : List (List Int)) (m : List Int) (i : Int) (g : Int) (x : List (List Int)) (y : List (List Int)) (p0 : (wfI .i64 n) = true) (p1 : (wfR [.int .i64, .int .i64, .int .i64] l) = true) (p2 : (wfL .i64 m) = true) (p3 : (lenB l) = true) (p4 : (lenB m) = true) (hI_L1 : lawall_L1_I n l m i g x y) : lawall_L1_T n l m i g x y := by
  have hI := hI_L1
  obtain ⟨⟨b1, b2, b3⟩, ⟨a1, a2⟩, a3⟩ := hI_L1
  unfold lawall_L1_T
  rw [w64 (n := i + 1) (by omega) (by omega)]
  by_cases hi : i < l.length
  · rw [drop_consG (d := []) a1 hi, mxl] at a3
    rw [decide_eq_true hi, decide_eq_true a1]
    have hg : gmax g (List.getD (List.getD l i.toNat []) 0 0) = max g (List.getD (List.getD l i.toNat []) 0 0) := by unfold gmax; omega
    rw [hg]
    exact ⟨⟨⟨b1, b2, b3⟩, ⟨by omega, by omega⟩, by rw [show (i + 1).toNat = i.toNat + 1 by omega]; exact a3⟩, by unfold lawall_L1_m; omega, by simp⟩
  · rw [decide_eq_false hi]
    rw [List.drop_eq_nil_of_le (by omega), mxl] at a3
    rw [decide_eq_true (show ((l.length : Nat) : Int) ≤ 1000 by omega), decide_eq_true (show ((m.length : Nat) : Int) ≤ 1000000 by omega)]
    change cnd false _ (cnd (l.any (fun x => !kB x)) (cnd true (cnd _ _ (cnd (wrgB l m) _ _)) _) (cnd true (cnd _ _ (cnd (wrgB l m) _ _)) _))
    have hend : cnd (wrgB l m) ((decide (((x.length : Nat) : Int) = 0) && decide (allE l m = 1)) = true) True := by
      cases hw : wrgB l m with
      | false => trivial
      | true =>
        have h1 := wrg_yes hw
        rw [h1] at b1
        rw [b1, h1]
        rfl
    cases hb : l.any (fun x => !kB x) with
    | true =>
      have hw : wrgB l m = true := by unfold wrgB; rw [hb]; rfl
      rw [hw] at hend ⊢
      rw [mst_bad l 0 hb]
      exact hend
    | false =>
      rw [mst_ok l 0 hb, a3, decide_eq_true (rfl : g = g)]
      cases hw : wrgB l m with
      | true =>
        rw [hw] at hend
        exact hend
      | false =>
        obtain ⟨g1, g2, g3, g4, g5⟩ := wrg_no hw
        cases hm : m.any (fun x => !intensityB x) with
        | true =>
          rw [hm] at g1
          rw [if_pos rfl] at g1
          rw [g1] at b1
          rw [b1, g1]
          rfl
        | false =>
          rw [hm] at g1
          exact lawall_L2_2 n l m i g x y p0 p1 p2 p3 p4 hI ⟨⟨⟨by omega, by omega⟩, ⟨g1, g4, g5, hm⟩, rfl⟩, by simp⟩
set_option maxRecDepth 100000 in
theorem lawall_L1_entry1 (n : Int) (l : List (List Int)) (m : List Int) : (((lawall_L1_I n l m (0 : Int) (0 : Int) (if ((allE l m) = (0 : Int)) then (allL l m) else ([] : List (List Int))) (if ((allE l m) = (0 : Int)) then (allL l m) else ([] : List (List Int)))) ∧ (((0 : Int) = (0 : Int)) ∧ (((((List.length l) : Nat) : Int) = (((List.length l) : Nat) : Int)) ∧ (True ∧ (((0 : Int) = (0 : Int)) ∧ (((List.any l (fun x => (!(knockB (List.getD x 0 (0 : Int)) (List.getD x (0 + 1) (0 : Int)) (List.getD x ((0 + 1) + 1) (0 : Int)))))) = (List.any l (fun x => (!(knockB (List.getD x 0 (0 : Int)) (List.getD x (0 + 1) (0 : Int)) (List.getD x ((0 + 1) + 1) (0 : Int))))))) ∧ (((allE l m) = (allE l m)) ∧ (True ∧ ((Bool.false = Bool.false) ∧ (True ∧ (True ∧ ((l = l) ∧ ((m = m) ∧ (((nwL n) = (nwL n)) ∧ (((if ((allE l m) = (0 : Int)) then (allL l m) else ([] : List (List Int))) = (if ((allE l m) = (0 : Int)) then (allL l m) else ([] : List (List Int)))) ∧ (((if ((allE l m) = (0 : Int)) then (allL l m) else ([] : List (List Int))) = (if ((allE l m) = (0 : Int)) then (allL l m) else ([] : List (List Int)))) ∧ True))))))))))))))))) = lawall_L1_E n l m (lawall_L1_S1 n l m) := by kernel_rfl
theorem lawall_L1_1 (n : Int) (l : List (List Int)) (m : List Int) (p0 : (wfI .i64 n) = true) (p1 : (wfR [.int .i64, .int .i64, .int .i64] l) = true) (p2 : (wfL .i64 m) = true) (p3 : (lenB l) = true) (p4 : (lenB m) = true) (h : ((lawall_L1_I n l m (0 : Int) (0 : Int) (if ((allE l m) = (0 : Int)) then (allL l m) else ([] : List (List Int))) (if ((allE l m) = (0 : Int)) then (allL l m) else ([] : List (List Int)))) ∧ (((0 : Int) = (0 : Int)) ∧ (((((List.length l) : Nat) : Int) = (((List.length l) : Nat) : Int)) ∧ (True ∧ (((0 : Int) = (0 : Int)) ∧ (((List.any l (fun x => (!(knockB (List.getD x 0 (0 : Int)) (List.getD x (0 + 1) (0 : Int)) (List.getD x ((0 + 1) + 1) (0 : Int)))))) = (List.any l (fun x => (!(knockB (List.getD x 0 (0 : Int)) (List.getD x (0 + 1) (0 : Int)) (List.getD x ((0 + 1) + 1) (0 : Int))))))) ∧ (((allE l m) = (allE l m)) ∧ (True ∧ ((Bool.false = Bool.false) ∧ (True ∧ (True ∧ ((l = l) ∧ ((m = m) ∧ (((nwL n) = (nwL n)) ∧ (((if ((allE l m) = (0 : Int)) then (allL l m) else ([] : List (List Int))) = (if ((allE l m) = (0 : Int)) then (allL l m) else ([] : List (List Int)))) ∧ (((if ((allE l m) = (0 : Int)) then (allL l m) else ([] : List (List Int))) = (if ((allE l m) = (0 : Int)) then (allL l m) else ([] : List (List Int)))) ∧ True))))))))))))))))) : LoopP (ex Try.prog (conOf [awake_e, knew_e, rep_e, equal_e, all_e, law1_cfn_e, most_e, law2_cfn_e, rStep_e]) (subC (bodyOf Try.f8) [1, 1, 1, 1, 1, 1, 1, 0, 1, 0, 0])) (kont Try.prog (conOf [awake_e, knew_e, rep_e, equal_e, all_e, law1_cfn_e, most_e, law2_cfn_e, rStep_e]) (bodyOf Try.f8) [1, 1, 1, 1, 1, 1, 1, 0, 1, 0] (retPost Try.prog Try.f8 2 (lawall_res n l m))) (lawall_L1_S1 n l m) := by
  have hE : lawall_L1_E n l m (lawall_L1_S1 n l m) := Eq.mp (lawall_L1_entry1 n l m) h
  unfold lawall_L1_E at hE
  obtain ⟨i, hE⟩ := getI_of hE
  obtain ⟨g, hE⟩ := getI_of hE
  obtain ⟨x, hE⟩ := getRR_of hE
  obtain ⟨y, hE⟩ := getWRR_of hE
  refine loop_of (α := (Int) × (Int) × (List (List Int)) × (List (List Int))) (fun xx_ => lawall_L1_F n l m xx_.1 xx_.2.1 xx_.2.2.1 xx_.2.2.2) (fun xx_ => lawall_L1_I n l m xx_.1 xx_.2.1 xx_.2.2.1 xx_.2.2.2) (fun xx_ => lawall_L1_m n l m xx_.1 xx_.2.1 xx_.2.2.1 xx_.2.2.2) (fun xx_ => lawall_L1_N n l m xx_.1 xx_.2.1 xx_.2.2.1 xx_.2.2.2) (fun xx_ => lawall_L1_T n l m xx_.1 xx_.2.1 xx_.2.2.1 xx_.2.2.2) (fun xx_ s_ h => ?_) ⟨⟨i, g, x, y⟩, hE⟩ (fun xx_ => lawall_L1_tree n l m xx_.1 xx_.2.1 xx_.2.2.1 xx_.2.2.2) (fun xx_ hI => lawall_L1_round n l m xx_.1 xx_.2.1 xx_.2.2.1 xx_.2.2.2 p0 p1 p2 p3 p4 hI)
  unfold lawall_L1_N at h
  obtain ⟨i, h⟩ := getI_of h
  obtain ⟨g, h⟩ := getI_of h
  obtain ⟨x, h⟩ := getRR_of h
  obtain ⟨y, h⟩ := getWRR_of h
  exact ⟨⟨i, g, x, y⟩, h⟩
set_option maxRecDepth 100000 in
theorem lawall_L1_entry2 (n : Int) (l : List (List Int)) (m : List Int) : (((lawall_L1_I n l m (0 : Int) (0 : Int) (if ((allE l m) = (0 : Int)) then (allL l m) else ([] : List (List Int))) [[(0 : Int), (100 : Int), (0 : Int)]]) ∧ (((0 : Int) = (0 : Int)) ∧ (((((List.length l) : Nat) : Int) = (((List.length l) : Nat) : Int)) ∧ (True ∧ (((0 : Int) = (0 : Int)) ∧ (((List.any l (fun x => (!(knockB (List.getD x 0 (0 : Int)) (List.getD x (0 + 1) (0 : Int)) (List.getD x ((0 + 1) + 1) (0 : Int)))))) = (List.any l (fun x => (!(knockB (List.getD x 0 (0 : Int)) (List.getD x (0 + 1) (0 : Int)) (List.getD x ((0 + 1) + 1) (0 : Int))))))) ∧ (((allE l m) = (allE l m)) ∧ (True ∧ ((Bool.false = Bool.false) ∧ (True ∧ (True ∧ ((l = l) ∧ ((m = m) ∧ (((nwL n) = (nwL n)) ∧ (([[(0 : Int), (100 : Int), (0 : Int)]] = [[(0 : Int), (100 : Int), (0 : Int)]]) ∧ (((if ((allE l m) = (0 : Int)) then (allL l m) else ([] : List (List Int))) = (if ((allE l m) = (0 : Int)) then (allL l m) else ([] : List (List Int)))) ∧ True))))))))))))))))) = lawall_L1_E n l m (lawall_L1_S2 n l m) := by kernel_rfl
theorem lawall_L1_2 (n : Int) (l : List (List Int)) (m : List Int) (p0 : (wfI .i64 n) = true) (p1 : (wfR [.int .i64, .int .i64, .int .i64] l) = true) (p2 : (wfL .i64 m) = true) (p3 : (lenB l) = true) (p4 : (lenB m) = true) (h : ((lawall_L1_I n l m (0 : Int) (0 : Int) (if ((allE l m) = (0 : Int)) then (allL l m) else ([] : List (List Int))) [[(0 : Int), (100 : Int), (0 : Int)]]) ∧ (((0 : Int) = (0 : Int)) ∧ (((((List.length l) : Nat) : Int) = (((List.length l) : Nat) : Int)) ∧ (True ∧ (((0 : Int) = (0 : Int)) ∧ (((List.any l (fun x => (!(knockB (List.getD x 0 (0 : Int)) (List.getD x (0 + 1) (0 : Int)) (List.getD x ((0 + 1) + 1) (0 : Int)))))) = (List.any l (fun x => (!(knockB (List.getD x 0 (0 : Int)) (List.getD x (0 + 1) (0 : Int)) (List.getD x ((0 + 1) + 1) (0 : Int))))))) ∧ (((allE l m) = (allE l m)) ∧ (True ∧ ((Bool.false = Bool.false) ∧ (True ∧ (True ∧ ((l = l) ∧ ((m = m) ∧ (((nwL n) = (nwL n)) ∧ (([[(0 : Int), (100 : Int), (0 : Int)]] = [[(0 : Int), (100 : Int), (0 : Int)]]) ∧ (((if ((allE l m) = (0 : Int)) then (allL l m) else ([] : List (List Int))) = (if ((allE l m) = (0 : Int)) then (allL l m) else ([] : List (List Int)))) ∧ True))))))))))))))))) : LoopP (ex Try.prog (conOf [awake_e, knew_e, rep_e, equal_e, all_e, law1_cfn_e, most_e, law2_cfn_e, rStep_e]) (subC (bodyOf Try.f8) [1, 1, 1, 1, 1, 1, 1, 0, 1, 0, 0])) (kont Try.prog (conOf [awake_e, knew_e, rep_e, equal_e, all_e, law1_cfn_e, most_e, law2_cfn_e, rStep_e]) (bodyOf Try.f8) [1, 1, 1, 1, 1, 1, 1, 0, 1, 0] (retPost Try.prog Try.f8 2 (lawall_res n l m))) (lawall_L1_S2 n l m) := by
  have hE : lawall_L1_E n l m (lawall_L1_S2 n l m) := Eq.mp (lawall_L1_entry2 n l m) h
  unfold lawall_L1_E at hE
  obtain ⟨i, hE⟩ := getI_of hE
  obtain ⟨g, hE⟩ := getI_of hE
  obtain ⟨x, hE⟩ := getRR_of hE
  obtain ⟨y, hE⟩ := getWRR_of hE
  refine loop_of (α := (Int) × (Int) × (List (List Int)) × (List (List Int))) (fun xx_ => lawall_L1_F n l m xx_.1 xx_.2.1 xx_.2.2.1 xx_.2.2.2) (fun xx_ => lawall_L1_I n l m xx_.1 xx_.2.1 xx_.2.2.1 xx_.2.2.2) (fun xx_ => lawall_L1_m n l m xx_.1 xx_.2.1 xx_.2.2.1 xx_.2.2.2) (fun xx_ => lawall_L1_N n l m xx_.1 xx_.2.1 xx_.2.2.1 xx_.2.2.2) (fun xx_ => lawall_L1_T n l m xx_.1 xx_.2.1 xx_.2.2.1 xx_.2.2.2) (fun xx_ s_ h => ?_) ⟨⟨i, g, x, y⟩, hE⟩ (fun xx_ => lawall_L1_tree n l m xx_.1 xx_.2.1 xx_.2.2.1 xx_.2.2.2) (fun xx_ hI => lawall_L1_round n l m xx_.1 xx_.2.1 xx_.2.2.1 xx_.2.2.2 p0 p1 p2 p3 p4 hI)
  unfold lawall_L1_N at h
  obtain ⟨i, h⟩ := getI_of h
  obtain ⟨g, h⟩ := getI_of h
  obtain ⟨x, h⟩ := getRR_of h
  obtain ⟨y, h⟩ := getWRR_of h
  exact ⟨⟨i, g, x, y⟩, h⟩
set_option maxRecDepth 100000 in
theorem lawall_tree (n : Int) (l : List (List Int)) (m : List Int) : ((cnd (((!Bool.true) || (decide ((100 : Int) < (((List.length l) : Nat) : Int)))) || (decide ((100 : Int) < (((List.length m) : Nat) : Int))))
  (Bool.true = Bool.true)
  (cnd ((decide (n < (1 : Int))) || (decide ((8 : Int) < n)))
    (cnd ((!(decide ((((List.length (nwL n)) : Nat) : Int) = (0 : Int)))) || (!(decide ((if (((1 : Int) ≤ n) ∧ (n ≤ (8 : Int))) then (0 : Int) else (2 : Int)) = (2 : Int)))))
      (Bool.false = Bool.true)
      (cnd (decide ((((List.length l) : Nat) : Int) ≤ (1000 : Int)))
        (cnd (decide ((((List.length m) : Nat) : Int) ≤ (1000 : Int)))
          (cnd (decide ((((List.length l) : Nat) : Int) ≤ (1000000 : Int)))
            (LoopP (ex Try.prog (conOf [awake_e, knew_e, rep_e, equal_e, all_e, law1_cfn_e, most_e, law2_cfn_e, rStep_e]) (subC (bodyOf Try.f8) [1, 1, 1, 1, 1, 1, 1, 0, 1, 0, 0])) (kont Try.prog (conOf [awake_e, knew_e, rep_e, equal_e, all_e, law1_cfn_e, most_e, law2_cfn_e, rStep_e]) (bodyOf Try.f8) [1, 1, 1, 1, 1, 1, 1, 0, 1, 0] (retPost Try.prog Try.f8 2 (lawall_res n l m))) (lawall_L1_S1 n l m))
            False)
          False)
        False))
    (cnd (decide ((1 : Int) ≤ n))
      (cnd (decide (n ≤ (8 : Int)))
        (cnd (decide ((List.length (nwL n)) ≤ 1000))
          (cnd (decide ((List.length (List.replicate (Int.toNat n) [(0 : Int), (100 : Int), (0 : Int)])) ≤ 1000))
            (cnd ((!(decide ((List.map tri (nwL n)) = (List.map tri (List.replicate (Int.toNat n) [(0 : Int), (100 : Int), (0 : Int)]))))) || (!(decide ((if (((1 : Int) ≤ n) ∧ (n ≤ (8 : Int))) then (0 : Int) else (2 : Int)) = (0 : Int)))))
              (Bool.false = Bool.true)
              (cnd (decide ((((List.length l) : Nat) : Int) ≤ (1000 : Int)))
                (cnd (decide ((((List.length m) : Nat) : Int) ≤ (1000 : Int)))
                  (cnd (decide ((((List.length l) : Nat) : Int) ≤ (1000000 : Int)))
                    (LoopP (ex Try.prog (conOf [awake_e, knew_e, rep_e, equal_e, all_e, law1_cfn_e, most_e, law2_cfn_e, rStep_e]) (subC (bodyOf Try.f8) [1, 1, 1, 1, 1, 1, 1, 0, 1, 0, 0])) (kont Try.prog (conOf [awake_e, knew_e, rep_e, equal_e, all_e, law1_cfn_e, most_e, law2_cfn_e, rStep_e]) (bodyOf Try.f8) [1, 1, 1, 1, 1, 1, 1, 0, 1, 0] (retPost Try.prog Try.f8 2 (lawall_res n l m))) (lawall_L1_S2 n l m))
                    False)
                  False)
                False))
            False)
          False)
        False)
      False)))) = EXD Try.prog (conOf [awake_e, knew_e, rep_e, equal_e, all_e, law1_cfn_e, most_e, law2_cfn_e, rStep_e]) Try.f8 [.cel (.int .i64 n), .cel (.row 0), .cel (.row 1)] [.recs [.int .i64, .int .i64, .int .i64] l, .ints .i64 m] [] (lawall_res n l m) := by kernel_rfl
theorem lawall_holds (n : Int) (l : List (List Int)) (m : List Int) (p0 : (wfI .i64 n) = true) (p1 : (wfR [.int .i64, .int .i64, .int .i64] l) = true) (p2 : (wfL .i64 m) = true) (p3 : (lenB l) = true) (p4 : (lenB m) = true) : (cnd (((!Bool.true) || (decide ((100 : Int) < (((List.length l) : Nat) : Int)))) || (decide ((100 : Int) < (((List.length m) : Nat) : Int))))
  (Bool.true = Bool.true)
  (cnd ((decide (n < (1 : Int))) || (decide ((8 : Int) < n)))
    (cnd ((!(decide ((((List.length (nwL n)) : Nat) : Int) = (0 : Int)))) || (!(decide ((if (((1 : Int) ≤ n) ∧ (n ≤ (8 : Int))) then (0 : Int) else (2 : Int)) = (2 : Int)))))
      (Bool.false = Bool.true)
      (cnd (decide ((((List.length l) : Nat) : Int) ≤ (1000 : Int)))
        (cnd (decide ((((List.length m) : Nat) : Int) ≤ (1000 : Int)))
          (cnd (decide ((((List.length l) : Nat) : Int) ≤ (1000000 : Int)))
            (LoopP (ex Try.prog (conOf [awake_e, knew_e, rep_e, equal_e, all_e, law1_cfn_e, most_e, law2_cfn_e, rStep_e]) (subC (bodyOf Try.f8) [1, 1, 1, 1, 1, 1, 1, 0, 1, 0, 0])) (kont Try.prog (conOf [awake_e, knew_e, rep_e, equal_e, all_e, law1_cfn_e, most_e, law2_cfn_e, rStep_e]) (bodyOf Try.f8) [1, 1, 1, 1, 1, 1, 1, 0, 1, 0] (retPost Try.prog Try.f8 2 (lawall_res n l m))) (lawall_L1_S1 n l m))
            False)
          False)
        False))
    (cnd (decide ((1 : Int) ≤ n))
      (cnd (decide (n ≤ (8 : Int)))
        (cnd (decide ((List.length (nwL n)) ≤ 1000))
          (cnd (decide ((List.length (List.replicate (Int.toNat n) [(0 : Int), (100 : Int), (0 : Int)])) ≤ 1000))
            (cnd ((!(decide ((List.map tri (nwL n)) = (List.map tri (List.replicate (Int.toNat n) [(0 : Int), (100 : Int), (0 : Int)]))))) || (!(decide ((if (((1 : Int) ≤ n) ∧ (n ≤ (8 : Int))) then (0 : Int) else (2 : Int)) = (0 : Int)))))
              (Bool.false = Bool.true)
              (cnd (decide ((((List.length l) : Nat) : Int) ≤ (1000 : Int)))
                (cnd (decide ((((List.length m) : Nat) : Int) ≤ (1000 : Int)))
                  (cnd (decide ((((List.length l) : Nat) : Int) ≤ (1000000 : Int)))
                    (LoopP (ex Try.prog (conOf [awake_e, knew_e, rep_e, equal_e, all_e, law1_cfn_e, most_e, law2_cfn_e, rStep_e]) (subC (bodyOf Try.f8) [1, 1, 1, 1, 1, 1, 1, 0, 1, 0, 0])) (kont Try.prog (conOf [awake_e, knew_e, rep_e, equal_e, all_e, law1_cfn_e, most_e, law2_cfn_e, rStep_e]) (bodyOf Try.f8) [1, 1, 1, 1, 1, 1, 1, 0, 1, 0] (retPost Try.prog Try.f8 2 (lawall_res n l m))) (lawall_L1_S2 n l m))
                    False)
                  False)
                False))
            False)
          False)
        False)
      False))) := by
  refine cnd_i (fun _ => rfl) (fun h => ?_)
  simp only [Bool.or_eq_false_iff, Bool.not_true, decide_eq_false_iff_not, true_and] at h
  obtain ⟨h1, h2⟩ := h
  rw [decide_eq_true (show ((l.length : Nat) : Int) ≤ 1000 by omega), decide_eq_true (show ((m.length : Nat) : Int) ≤ 1000 by omega), decide_eq_true (show ((l.length : Nat) : Int) ≤ 1000000 by omega)]
  refine cnd_i (fun h => ?_) (fun h => ?_)
  · simp only [Bool.or_eq_true, decide_eq_true_eq] at h
    have hn : nwL n = [] := by unfold nwL; rw [if_neg (by omega)]
    rw [if_neg (show ¬ (1 ≤ n ∧ n ≤ 8) by omega), hn]
    exact lawall_L1_1 n l m p0 p1 p2 p3 p4 ⟨⟨⟨rfl, by omega, by omega⟩, ⟨by omega, by omega⟩, rfl⟩, by simp⟩
  · simp only [Bool.or_eq_false_iff, decide_eq_false_iff_not] at h
    have hn : nwL n = List.replicate n.toNat [0, 100, 0] := by unfold nwL; rw [if_pos (by omega)]
    have hl : (List.replicate n.toNat [(0 : Int), 100, 0]).length ≤ 1000 := by rw [List.length_replicate]; omega
    rw [if_pos (show (1 ≤ n ∧ n ≤ 8) by omega), hn, decide_eq_true (show 1 ≤ n by omega), decide_eq_true (show n ≤ 8 by omega), decide_eq_true hl, decide_eq_true (rfl : (List.replicate n.toNat [(0 : Int), 100, 0]).map tri = (List.replicate n.toNat [(0 : Int), 100, 0]).map tri)]
    exact lawall_L1_2 n l m p0 p1 p2 p3 p4 ⟨⟨⟨rfl, by omega, by omega⟩, ⟨by omega, by omega⟩, rfl⟩, by simp⟩
set_option maxHeartbeats 2000000 in
theorem lawall_ok : SoundEnt Try.prog lawall_e := by
  refine ent_of_ex (Γ := (conOf [awake_e, knew_e, rep_e, equal_e, all_e, law1_cfn_e, most_e, law2_cfn_e, rStep_e])) (conOf_sound (scons awake_ok (scons knew_ok (scons rep_ok (scons equal_ok (scons all_ok (scons law1_cfn_ok (scons most_ok (scons law2_cfn_ok (scons rStep_ok snil)))))))))) (by kernel_rfl) Try.func8 (by kernel_rfl) (by kernel_rfl) (fun args rows caps res h ho => ?_)
  change lawall_go args rows caps = some res at h
  unfold lawall_go at h
  split at h
  · simp only [Option.some.injEq] at h
    subst h
    rename_i q0_ q1_ q2_
    obtain ⟨p0, p1, p2, p3, p4, _⟩ := ho
    exact EX.of (lawall_tree q0_ q1_ q2_) (lawall_holds q0_ q1_ q2_ p0 p1 p2 p3 p4)
  · cases h
end Go.Proofs.Ytoklfnonbfcdlaa

