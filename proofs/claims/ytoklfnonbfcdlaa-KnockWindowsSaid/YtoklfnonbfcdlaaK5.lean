/- Windows of the cylinders. -/
import Derived.Test.YtoklfnonbfcdlaaK2
import Derived.Test.YtoklfnonbfcdlaaOr
namespace Go.Proofs.Ytoklfnonbfcdlaa
set_option linter.unusedVariables false
set_option linter.unusedSimpArgs false
open Go.RowKit

def ixOf (v : Int) : List Int → Int
  | [] => -1
  | x :: l => if x = v then 0 else (if ixOf v l = -1 then -1 else ixOf v l + 1)
theorem ixOf_bd (v : Int) : ∀ l : List Int, -1 ≤ ixOf v l ∧ ixOf v l < l.length ∧ (0 ≤ ixOf v l → l.getD (ixOf v l).toNat 0 = v)
  | [] => by simp [ixOf]
  | x :: l => by
    obtain ⟨h1, h2, h3⟩ := ixOf_bd v l
    simp only [ixOf, List.length_cons]
    by_cases hx : x = v
    · rw [if_pos hx]; refine ⟨by omega, by omega, fun _ => ?_⟩; simpa using hx
    · rw [if_neg hx]
      by_cases hi : ixOf v l = -1
      · rw [if_pos hi]; exact ⟨by omega, by omega, fun h => by omega⟩
      · rw [if_neg hi]
        refine ⟨by omega, by omega, fun _ => ?_⟩
        have e : (ixOf v l + 1).toNat = (ixOf v l).toNat + 1 := by omega
        rw [e, List.getD_cons_succ]
        exact h3 (by omega)
theorem drop_consI {l : List Int} {i : Int} (h0 : 0 ≤ i) (h1 : i < l.length) : l.drop i.toNat = l.getD i.toNat 0 :: l.drop (i.toNat + 1) := by
  have h : i.toNat < l.length := by omega
  rw [List.drop_eq_getElem_cons h, List.getD_eq_getElem?_getD, List.getElem?_eq_getElem h]
  rfl
def hasV (v : Int) (l : List Int) : Bool := decide (0 ≤ ixOf v l)
def index_res (l : List Int) (v : Int) : CRes := ⟨[decide ((l.length : Int) ≤ 1000000)], .one (.cel (.int .i64 (ixOf v l))), []⟩
def index_go : List TV → List RowA → Option CRes := fun args rows =>
  match args, rows with
  | [.cel (.row 0), .cel (.int .i64 v)], [.ints .i64 l] => some (index_res l v)
  | _, _ => none
def index_e : Ent := ⟨41, [.ints .i64 []], index_go⟩
def index_L1_F (l : List Int) (v : Int) (i : Int) : St := ⟨19, [], [(8, (.one (.cel (.int .i64 i)))), (7, (.one (.cel (.int .i64 (((List.length l) : Nat) : Int))))), (4, (.one (.cel (.int .i64 (0 : Int))))), (0, (.one (.cel (.row 0)))), (1, (.one (.cel (.int .i64 v))))], [], [⟨(.ints .i64 l), none⟩]⟩
def index_L1_I (l : List Int) (v : Int) (i : Int) : Prop := (0 ≤ i ∧ i ≤ l.length ∧ (l.length : Int) ≤ 1000000 ∧ (ixOf v (l.drop i.toNat) = -1 → ixOf v l = -1) ∧ (0 ≤ ixOf v (l.drop i.toNat) → ixOf v l = ixOf v (l.drop i.toNat) + i))
def index_L1_m (l : List Int) (v : Int) (i : Int) : Nat := (l.length - i).toNat
def index_L1_N (l : List Int) (v : Int) (i' : Int) (st_ : St) : Prop := getI st_ 8 fun i => index_L1_I l v i ∧ index_L1_m l v i < index_L1_m l v i' ∧ SubA st_ (index_L1_F l v i)
def index_L1_E (l : List Int) (v : Int) (st_ : St) : Prop := getI st_ 8 fun i => index_L1_I l v i ∧ SubA st_ (index_L1_F l v i)
def index_L1_S1 (l : List Int) (v : Int) : St := ⟨19, [], [(8, (.one (.cel (.int .i64 (0 : Int))))), (7, (.one (.cel (.int .i64 (((List.length l) : Nat) : Int))))), (6, (.one (.cel (.row 0)))), (4, (.one (.cel (.int .i64 (0 : Int))))), (0, (.one (.cel (.row 0)))), (1, (.one (.cel (.int .i64 v))))], [], [⟨(.ints .i64 l), none⟩]⟩
def index_L1_T (l : List Int) (v : Int) (i : Int) : Prop := (cnd (decide (i < (((List.length l) : Nat) : Int)))
  (cnd (decide ((0 : Int) ≤ i))
    (cnd (decide (i < (((List.length l) : Nat) : Int)))
      (cnd (decide (v = (List.getD l (Int.toNat i) (0 : Int))))
        (i = (ixOf v l))
        ((index_L1_I l v (Go.IntKind.wrap Go.IntKind.i64 (i + (1 : Int)))) ∧ (((index_L1_m l v (Go.IntKind.wrap Go.IntKind.i64 (i + (1 : Int)))) < (index_L1_m l v i)) ∧ (((Go.IntKind.wrap Go.IntKind.i64 (i + (1 : Int))) = (Go.IntKind.wrap Go.IntKind.i64 (i + (1 : Int)))) ∧ (((((List.length l) : Nat) : Int) = (((List.length l) : Nat) : Int)) ∧ (((0 : Int) = (0 : Int)) ∧ (True ∧ ((v = v) ∧ ((l = l) ∧ True)))))))))
      False)
    False)
  ((-(1 : Int)) = (ixOf v l)))
set_option maxRecDepth 100000 in
theorem index_L1_tree (l : List Int) (v : Int) (i : Int) : index_L1_T l v i = ex Try.prog (conOf []) (subC (bodyOf Try.f41) [1, 0, 1, 0, 0]) (nextE (index_L1_N l v i) (kont Try.prog (conOf []) (bodyOf Try.f41) [1, 0, 1, 0] (retPost Try.prog Try.f41 1 (index_res l v)))) (index_L1_F l v i) := by kernel_rfl
theorem index_L1_round (l : List Int) (v : Int) (i : Int) (p0 : decide ((l.length : Int) ≤ 1000000) = true) (hI_L1 : index_L1_I l v i) : index_L1_T l v i := by
  obtain ⟨i0, i1, i2, hx, hx2⟩ := hI_L1
  unfold index_L1_T
  by_cases hi : i < l.length
  · have hd := drop_consI (l := l) (i := i) i0 hi
    obtain ⟨hb1, hb2, _⟩ := ixOf_bd v (l.drop (i.toNat + 1))
    have hc : ixOf v (l.drop i.toNat) = if l.getD i.toNat 0 = v then 0 else (if ixOf v (l.drop (i.toNat + 1)) = -1 then -1 else ixOf v (l.drop (i.toNat + 1)) + 1) := by rw [hd]; rfl
    rw [hc] at hx hx2
    simp only [hi, i0, decide_true, cnd]
    rw [w64 (n := i + 1) (by omega) (by omega)]
    have e1 : (i + 1).toNat = i.toNat + 1 := by omega
    generalize l.getD i.toNat 0 = y at *
    generalize hm : ixOf v (l.drop (i.toNat + 1)) = m at *
    by_cases hy : y = v
    · rw [if_pos hy] at hx2
      have j1 : decide (v = y) = true := by simp [hy]
      have j2 : decide (y = v) = true := by simp [hy]
      first | rw [j1] | rw [j2]
      have := hx2 (by omega)
      show i = ixOf v l
      omega
    · rw [if_neg hy] at hx hx2
      have j1 : decide (v = y) = false := by simp; exact fun e => hy e.symm
      have j2 : decide (y = v) = false := by simpa using hy
      first | rw [j1] | rw [j2]
      refine ⟨⟨by omega, by omega, i2, ?_, ?_⟩, by unfold index_L1_m; omega, by simp⟩
      · rw [e1, hm]; intro h; rw [if_pos h] at hx; exact hx rfl
      · rw [e1, hm]; intro h; rw [if_neg (by omega)] at hx2; have := hx2 (by omega); omega
  · simp only [hi, decide_false, cnd]
    have e : l.drop i.toNat = [] := List.drop_eq_nil_of_le (by omega)
    rw [e] at hx
    exact (hx rfl).symm
set_option maxRecDepth 100000 in
theorem index_L1_entry1 (l : List Int) (v : Int) : (((index_L1_I l v (0 : Int)) ∧ (((0 : Int) = (0 : Int)) ∧ (((((List.length l) : Nat) : Int) = (((List.length l) : Nat) : Int)) ∧ (((0 : Int) = (0 : Int)) ∧ (True ∧ ((v = v) ∧ ((l = l) ∧ True)))))))) = index_L1_E l v (index_L1_S1 l v) := by kernel_rfl
theorem index_L1_1 (l : List Int) (v : Int) (p0 : decide ((l.length : Int) ≤ 1000000) = true) (h : ((index_L1_I l v (0 : Int)) ∧ (((0 : Int) = (0 : Int)) ∧ (((((List.length l) : Nat) : Int) = (((List.length l) : Nat) : Int)) ∧ (((0 : Int) = (0 : Int)) ∧ (True ∧ ((v = v) ∧ ((l = l) ∧ True)))))))) : LoopP (ex Try.prog (conOf []) (subC (bodyOf Try.f41) [1, 0, 1, 0, 0])) (kont Try.prog (conOf []) (bodyOf Try.f41) [1, 0, 1, 0] (retPost Try.prog Try.f41 1 (index_res l v))) (index_L1_S1 l v) := by
  have hE : index_L1_E l v (index_L1_S1 l v) := Eq.mp (index_L1_entry1 l v) h
  unfold index_L1_E at hE
  obtain ⟨i, hE⟩ := getI_of hE
  refine loop_of (α := (Int)) (fun xx_ => index_L1_F l v xx_) (fun xx_ => index_L1_I l v xx_) (fun xx_ => index_L1_m l v xx_) (fun xx_ => index_L1_N l v xx_) (fun xx_ => index_L1_T l v xx_) (fun xx_ s_ h => ?_) ⟨i, hE⟩ (fun xx_ => index_L1_tree l v xx_) (fun xx_ hI => index_L1_round l v xx_ p0 hI)
  unfold index_L1_N at h
  obtain ⟨i, h⟩ := getI_of h
  exact ⟨i, h⟩
set_option maxRecDepth 100000 in
theorem index_tree (l : List Int) (v : Int) : ((LoopP (ex Try.prog (conOf []) (subC (bodyOf Try.f41) [1, 0, 1, 0, 0])) (kont Try.prog (conOf []) (bodyOf Try.f41) [1, 0, 1, 0] (retPost Try.prog Try.f41 1 (index_res l v))) (index_L1_S1 l v))) = EXD Try.prog (conOf []) Try.f41 [.cel (.row 0), .cel (.int .i64 v)] [.ints .i64 l] (index_res l v) := by kernel_rfl
theorem index_holds (l : List Int) (v : Int) (p0 : decide ((l.length : Int) ≤ 1000000) = true) : (LoopP (ex Try.prog (conOf []) (subC (bodyOf Try.f41) [1, 0, 1, 0, 0])) (kont Try.prog (conOf []) (bodyOf Try.f41) [1, 0, 1, 0] (retPost Try.prog Try.f41 1 (index_res l v))) (index_L1_S1 l v)) := by
  have q0 := p0
  simp only [decide_eq_true_eq] at p0
  exact index_L1_1 l v q0 ⟨⟨by omega, by omega, p0, by simp, by simp⟩, by simp⟩
theorem index_ok : SoundEnt Try.prog index_e := by
  refine ent_of_ex (Γ := (conOf [])) (conOf_sound snil) (by kernel_rfl) Try.func41 (by kernel_rfl) (by kernel_rfl) (fun args rows res h ho => ?_)
  change index_go args rows = some res at h
  unfold index_go at h
  split at h
  · simp only [Option.some.injEq] at h
    subst h
    obtain ⟨p0, _⟩ := ho
    exact EX.of (index_tree _ _) (index_holds _ _ p0)
  · cases h
def contains_res (l : List Int) (v : Int) : CRes := ⟨[decide ((l.length : Int) ≤ 1000000)], .one (.cel (.bool (hasV v l))), []⟩
def contains_go : List TV → List RowA → Option CRes := fun args rows =>
  match args, rows with
  | [.cel (.row 0), .cel (.int .i64 v)], [.ints .i64 l] => some (contains_res l v)
  | _, _ => none
def contains_e : Ent := ⟨40, [.ints .i64 []], contains_go⟩
set_option maxRecDepth 100000 in
theorem contains_tree (l : List Int) (v : Int) : ((cnd (decide ((((List.length l) : Nat) : Int) ≤ (1000000 : Int)))
  ((decide ((0 : Int) ≤ (ixOf v l))) = (hasV v l))
  False)) = EXD Try.prog (conOf [index_e]) Try.f40 [.cel (.row 0), .cel (.int .i64 v)] [.ints .i64 l] (contains_res l v) := by kernel_rfl
theorem contains_holds (l : List Int) (v : Int) (p0 : decide ((l.length : Int) ≤ 1000000) = true) : (cnd (decide ((((List.length l) : Nat) : Int) ≤ (1000000 : Int)))
  ((decide ((0 : Int) ≤ (ixOf v l))) = (hasV v l))
  False) := by
  simp [p0, cnd, hasV]
theorem contains_ok : SoundEnt Try.prog contains_e := by
  refine ent_of_ex (Γ := (conOf [index_e])) (conOf_sound (scons index_ok snil)) (by kernel_rfl) Try.func40 (by kernel_rfl) (by kernel_rfl) (fun args rows res h ho => ?_)
  change contains_go args rows = some res at h
  unfold contains_go at h
  split at h
  · simp only [Option.some.injEq] at h
    subst h
    obtain ⟨p0, _⟩ := ho
    exact EX.of (contains_tree _ _) (contains_holds _ _ p0)
  · cases h
def angle_res (a : Int) : CRes := ⟨[], .one (.cel (.bool (decide (0 ≤ a) && decide (a < 46080)))), []⟩
def angle_go : List TV → List RowA → Option CRes := fun args rows =>
  match args, rows with
  | [.cel (.int .i64 a)], [] => some (angle_res a)
  | _, _ => none
def angle_e : Ent := ⟨34, [], angle_go⟩
set_option maxRecDepth 100000 in
theorem angle_tree (a : Int) : ((((decide ((0 : Int) ≤ a)) && (decide (a < (46080 : Int)))) = ((decide ((0 : Int) ≤ a)) && (decide (a < (46080 : Int)))))) = EXD Try.prog (conOf []) Try.f34 [.cel (.int .i64 a)] [] (angle_res a) := by kernel_rfl
theorem angle_holds (a : Int)  : (((decide ((0 : Int) ≤ a)) && (decide (a < (46080 : Int)))) = ((decide ((0 : Int) ≤ a)) && (decide (a < (46080 : Int))))) := by
  rfl
theorem angle_ok : SoundEnt Try.prog angle_e := by
  refine ent_of_ex (Γ := (conOf [])) (conOf_sound snil) (by kernel_rfl) Try.func34 (by kernel_rfl) (by kernel_rfl) (fun args rows res h ho => ?_)
  change angle_go args rows = some res at h
  unfold angle_go at h
  split at h
  · simp only [Option.some.injEq] at h
    subst h
    skip
    exact EX.of (angle_tree _) (angle_holds _)
  · cases h
def allV : Nat → List Int → Bool
  | 0, _ => true
  | n + 1, l => allV n l && hasV (n + 1) l
theorem allV_get {l : List Int} : ∀ {n : Nat}, allV n l = true → ∀ k, k < n → hasV (k + 1) l = true
  | 0, _, k, h => by omega
  | n + 1, h, k, hk => by
    simp only [allV, Bool.and_eq_true] at h
    by_cases e : k = n
    · subst e; exact h.2
    · exact allV_get h.1 k (by omega)
def eValid (l : List Int) (f : Int) : Bool := decide (1 ≤ (l.length : Int)) && decide ((l.length : Int) ≤ 8) && decide (0 ≤ f) && decide (f < 46080) && allV l.length l
def evalid_res (l : List Int) (f : Int) : CRes := ⟨[decide ((l.length : Int) ≤ 1000000)], .one (.cel (.bool (eValid l f))), []⟩
def evalid_go : List TV → List RowA → Option CRes := fun args rows =>
  match args, rows with
  | [.agg [.row 0, .int .i64 f]], [.ints .i64 l] => some (evalid_res l f)
  | _, _ => none
def evalid_e : Ent := ⟨32, [.ints .i64 []], evalid_go⟩
def evalid_L1_F (l : List Int) (f : Int) (i : Int) : St := ⟨30, [], [(4, (.one (.cel (.int .i64 i)))), (3, (.one (.cel (.int .i64 (((List.length l) : Nat) : Int))))), (2, (.one (.cel (.bool Bool.false)))), (1, (.one (.cel (.ptr 0 0))))], [[(.row 0), (.int .i64 f)]], [⟨(.ints .i64 l), none⟩]⟩
def evalid_L1_I (l : List Int) (f : Int) (i : Int) : Prop := (1 ≤ i ∧ i ≤ l.length + 1 ∧ (l.length : Int) ≤ 8 ∧ 1 ≤ (l.length : Int) ∧ 0 ≤ f ∧ f < 46080 ∧ allV (i - 1).toNat l = true)
def evalid_L1_m (l : List Int) (f : Int) (i : Int) : Nat := (l.length + 1 - i).toNat
def evalid_L1_N (l : List Int) (f : Int) (i' : Int) (st_ : St) : Prop := getI st_ 4 fun i => evalid_L1_I l f i ∧ evalid_L1_m l f i < evalid_L1_m l f i' ∧ SubA st_ (evalid_L1_F l f i)
def evalid_L1_E (l : List Int) (f : Int) (st_ : St) : Prop := getI st_ 4 fun i => evalid_L1_I l f i ∧ SubA st_ (evalid_L1_F l f i)
def evalid_L1_S1 (l : List Int) (f : Int) : St := ⟨30, [14, 10], [(4, (.one (.cel (.int .i64 (1 : Int))))), (19, (.one (.cel (.bool (((decide ((((List.length l) : Nat) : Int) < (1 : Int))) || (decide ((8 : Int) < (((List.length l) : Nat) : Int)))) || (!((decide ((0 : Int) ≤ f)) && (decide (f < (46080 : Int)))))))))), (18, (.spec 14 Bool.false (.cel (.bool (!((decide ((0 : Int) ≤ f)) && (decide (f < (46080 : Int))))))))), (17, (.spec 14 Bool.false (.cel (.bool ((decide ((0 : Int) ≤ f)) && (decide (f < (46080 : Int)))))))), (16, (.spec 14 Bool.false (.cel (.int .i64 f)))), (15, (.spec 14 Bool.false (.cel (.ptr 0 1)))), (14, (.one (.cel (.bool ((decide ((((List.length l) : Nat) : Int) < (1 : Int))) || (decide ((8 : Int) < (((List.length l) : Nat) : Int)))))))), (13, (.one (.cel (.bool ((decide ((((List.length l) : Nat) : Int) < (1 : Int))) || (decide ((8 : Int) < (((List.length l) : Nat) : Int)))))))), (12, (.spec 10 Bool.false (.cel (.bool (decide ((8 : Int) < (((List.length l) : Nat) : Int))))))), (11, (.spec 10 Bool.false (.cel (.int .i64 (((List.length l) : Nat) : Int))))), (10, (.one (.cel (.bool (decide ((((List.length l) : Nat) : Int) < (1 : Int))))))), (9, (.one (.cel (.bool (decide ((((List.length l) : Nat) : Int) < (1 : Int))))))), (8, (.one (.cel (.int .i64 (((List.length l) : Nat) : Int))))), (3, (.one (.cel (.int .i64 (((List.length l) : Nat) : Int))))), (7, (.one (.cel (.int .i64 (((List.length l) : Nat) : Int))))), (6, (.one (.cel (.row 0)))), (5, (.one (.cel (.ptr 0 0)))), (2, (.one (.cel (.bool Bool.false)))), (1, (.one (.cel (.ptr 0 0)))), (0, (.one (.agg [(.row 0), (.int .i64 f)])))], [[(.row 0), (.int .i64 f)]], [⟨(.ints .i64 l), none⟩]⟩
def evalid_L1_T (l : List Int) (f : Int) (i : Int) : Prop := (cnd (decide (i ≤ (((List.length l) : Nat) : Int)))
  (cnd (decide ((((List.length l) : Nat) : Int) ≤ (1000000 : Int)))
    (cnd (!(hasV i l))
      (Bool.false = (eValid l f))
      ((evalid_L1_I l f (Go.IntKind.wrap Go.IntKind.i64 (i + (1 : Int)))) ∧ (((evalid_L1_m l f (Go.IntKind.wrap Go.IntKind.i64 (i + (1 : Int)))) < (evalid_L1_m l f i)) ∧ (((Go.IntKind.wrap Go.IntKind.i64 (i + (1 : Int))) = (Go.IntKind.wrap Go.IntKind.i64 (i + (1 : Int)))) ∧ (((((List.length l) : Nat) : Int) = (((List.length l) : Nat) : Int)) ∧ ((Bool.false = Bool.false) ∧ (True ∧ ((True ∧ (f = f)) ∧ ((l = l) ∧ True)))))))))
    False)
  (Bool.true = (eValid l f)))
set_option maxRecDepth 100000 in
theorem evalid_L1_tree (l : List Int) (f : Int) (i : Int) : evalid_L1_T l f i = ex Try.prog (conOf [angle_e, contains_e]) (subC (bodyOf Try.f32) [1, 1, 1, 0, 1, 0, 0]) (nextE (evalid_L1_N l f i) (kont Try.prog (conOf [angle_e, contains_e]) (bodyOf Try.f32) [1, 1, 1, 0, 1, 0] (retPost Try.prog Try.f32 1 (evalid_res l f)))) (evalid_L1_F l f i) := by kernel_rfl
theorem evalid_L1_round (l : List Int) (f : Int) (i : Int) (p0 : decide ((l.length : Int) ≤ 1000000) = true) (hI_L1 : evalid_L1_I l f i) : evalid_L1_T l f i := by
  obtain ⟨i0, i1, i2, i3, f0, f1, hv⟩ := hI_L1
  have q0 := p0
  unfold evalid_L1_T
  have he : eValid l f = allV l.length l := by simp [eValid, i2, f0, f1]; omega
  by_cases hi : i ≤ l.length
  · have j : decide (i ≤ (l.length : Int)) = true := by simpa using hi
    rw [w64 (n := i + 1) (by omega) (by omega)]
    simp only [j, q0, cnd]
    have e1 : (((i - 1).toNat : Nat) : Int) + 1 = i := by omega
    have e2 : (i + 1 - 1).toNat = (i - 1).toNat + 1 := by omega
    cases hh : hasV i l with
    | true =>
      simp only [Bool.not_true]
      refine ⟨⟨by omega, by omega, i2, i3, f0, f1, ?_⟩, by unfold evalid_L1_m; omega, by simp⟩
      rw [e2]
      simp only [allV, hv, Bool.true_and]
      rw [e1]; exact hh
    | false =>
      simp only [Bool.not_false]
      rw [he]
      cases ha : allV l.length l with
      | false => rfl
      | true =>
        have := allV_get ha (i - 1).toNat (by omega)
        rw [e1, hh] at this
        cases this
  · have j : decide (i ≤ (l.length : Int)) = false := by simpa using hi
    simp only [j, cnd]
    have e : (i - 1).toNat = l.length := by omega
    rw [e] at hv
    rw [he, hv]
set_option maxRecDepth 100000 in
theorem evalid_L1_entry1 (l : List Int) (f : Int) : (((evalid_L1_I l f (1 : Int)) ∧ (((1 : Int) = (1 : Int)) ∧ (((((List.length l) : Nat) : Int) = (((List.length l) : Nat) : Int)) ∧ ((Bool.false = Bool.false) ∧ (True ∧ ((True ∧ (f = f)) ∧ ((l = l) ∧ True)))))))) = evalid_L1_E l f (evalid_L1_S1 l f) := by kernel_rfl
theorem evalid_L1_1 (l : List Int) (f : Int) (p0 : decide ((l.length : Int) ≤ 1000000) = true) (h : ((evalid_L1_I l f (1 : Int)) ∧ (((1 : Int) = (1 : Int)) ∧ (((((List.length l) : Nat) : Int) = (((List.length l) : Nat) : Int)) ∧ ((Bool.false = Bool.false) ∧ (True ∧ ((True ∧ (f = f)) ∧ ((l = l) ∧ True)))))))) : LoopP (ex Try.prog (conOf [angle_e, contains_e]) (subC (bodyOf Try.f32) [1, 1, 1, 0, 1, 0, 0])) (kont Try.prog (conOf [angle_e, contains_e]) (bodyOf Try.f32) [1, 1, 1, 0, 1, 0] (retPost Try.prog Try.f32 1 (evalid_res l f))) (evalid_L1_S1 l f) := by
  have hE : evalid_L1_E l f (evalid_L1_S1 l f) := Eq.mp (evalid_L1_entry1 l f) h
  unfold evalid_L1_E at hE
  obtain ⟨i, hE⟩ := getI_of hE
  refine loop_of (α := (Int)) (fun xx_ => evalid_L1_F l f xx_) (fun xx_ => evalid_L1_I l f xx_) (fun xx_ => evalid_L1_m l f xx_) (fun xx_ => evalid_L1_N l f xx_) (fun xx_ => evalid_L1_T l f xx_) (fun xx_ s_ h => ?_) ⟨i, hE⟩ (fun xx_ => evalid_L1_tree l f xx_) (fun xx_ hI => evalid_L1_round l f xx_ p0 hI)
  unfold evalid_L1_N at h
  obtain ⟨i, h⟩ := getI_of h
  exact ⟨i, h⟩
set_option maxRecDepth 100000 in
theorem evalid_tree (l : List Int) (f : Int) : ((cnd (((decide ((((List.length l) : Nat) : Int) < (1 : Int))) || (decide ((8 : Int) < (((List.length l) : Nat) : Int)))) || (!((decide ((0 : Int) ≤ f)) && (decide (f < (46080 : Int))))))
  (Bool.false = (eValid l f))
  (LoopP (ex Try.prog (conOf [angle_e, contains_e]) (subC (bodyOf Try.f32) [1, 1, 1, 0, 1, 0, 0])) (kont Try.prog (conOf [angle_e, contains_e]) (bodyOf Try.f32) [1, 1, 1, 0, 1, 0] (retPost Try.prog Try.f32 1 (evalid_res l f))) (evalid_L1_S1 l f)))) = EXD Try.prog (conOf [angle_e, contains_e]) Try.f32 [.agg [.row 0, .int .i64 f]] [.ints .i64 l] (evalid_res l f) := by kernel_rfl
theorem evalid_holds (l : List Int) (f : Int) (p0 : decide ((l.length : Int) ≤ 1000000) = true) : (cnd (((decide ((((List.length l) : Nat) : Int) < (1 : Int))) || (decide ((8 : Int) < (((List.length l) : Nat) : Int)))) || (!((decide ((0 : Int) ≤ f)) && (decide (f < (46080 : Int))))))
  (Bool.false = (eValid l f))
  (LoopP (ex Try.prog (conOf [angle_e, contains_e]) (subC (bodyOf Try.f32) [1, 1, 1, 0, 1, 0, 0])) (kont Try.prog (conOf [angle_e, contains_e]) (bodyOf Try.f32) [1, 1, 1, 0, 1, 0] (retPost Try.prog Try.f32 1 (evalid_res l f))) (evalid_L1_S1 l f))) := by
  have q0 := p0
  simp only [decide_eq_true_eq] at p0
  by_cases h : 1 ≤ (l.length : Int) ∧ (l.length : Int) ≤ 8 ∧ 0 ≤ f ∧ f < 46080
  · have j : (((decide ((l.length : Int) < 1)) || (decide ((8 : Int) < (l.length : Int)))) || (!((decide (0 ≤ f)) && (decide (f < 46080))))) = false := by simp; omega
    rw [j]
    simp only [cnd]
    exact evalid_L1_1 l f q0 ⟨⟨by omega, by omega, h.2.1, h.1, h.2.2.1, h.2.2.2, rfl⟩, by simp⟩
  · have j : (((decide ((l.length : Int) < 1)) || (decide ((8 : Int) < (l.length : Int)))) || (!((decide (0 ≤ f)) && (decide (f < 46080))))) = true := by
      rw [Bool.eq_iff_iff]; simp <;> omega
    rw [j]
    simp only [cnd]
    symm
    cases he : eValid l f with
    | false => rfl
    | true =>
      simp only [eValid, Bool.and_eq_true, decide_eq_true_eq] at he
      exact absurd ⟨he.1.1.1.1, he.1.1.1.2, he.1.1.2, he.1.2⟩ h
theorem evalid_ok : SoundEnt Try.prog evalid_e := by
  refine ent_of_ex (Γ := (conOf [angle_e, contains_e])) (conOf_sound (scons angle_ok (scons contains_ok snil))) (by kernel_rfl) Try.func32 (by kernel_rfl) (by kernel_rfl) (fun args rows res h ho => ?_)
  change evalid_go args rows = some res at h
  unfold evalid_go at h
  split at h
  · simp only [Option.some.injEq] at h
    subst h
    obtain ⟨p0, _⟩ := ho
    exact EX.of (evalid_tree _ _) (evalid_holds _ _ p0)
  · cases h
theorem eValid_bd {l : List Int} {f : Int} (h : eValid l f = true) : 1 ≤ (l.length : Int) ∧ (l.length : Int) ≤ 8 ∧ 0 ≤ f ∧ f < 46080 := by
  simp only [eValid, Bool.and_eq_true, decide_eq_true_eq] at h
  exact ⟨h.1.1.1.1, h.1.1.1.2, h.1.1.2, h.1.2⟩
def center_res (l : List Int) (f : Int) (c : Int) : CRes := ⟨[eValid l f], .tup [.cel (.int .i64 ((f + max (ixOf c l) 0 * 46080 / l.length) % 46080)), .cel (.bool (decide (0 ≤ ixOf c l)))], []⟩
def center_go : List TV → List RowA → Option CRes := fun args rows =>
  match args, rows with
  | [.agg [.row 0, .int .i64 f], .cel (.int .i64 c)], [.ints .i64 l] => some (center_res l f c)
  | _, _ => none
def center_e : Ent := ⟨33, [.ints .i64 []], center_go⟩
set_option maxRecDepth 100000 in
theorem center_tree (l : List Int) (f : Int) (c : Int) : ((cnd (decide ((((List.length l) : Nat) : Int) ≤ (1000000 : Int)))
  (cnd (decide ((((List.length l) : Nat) : Int) ≠ (0 : Int)))
    (((Int.tmod (Go.IntKind.wrap Go.IntKind.i64 (f + (Go.IntKind.wrap Go.IntKind.i64 (Int.tdiv (Go.IntKind.wrap Go.IntKind.i64 ((gmax (ixOf c l) (0 : Int)) * (46080 : Int))) (((List.length l) : Nat) : Int))))) (46080 : Int)) = ((f + (((Max.max (ixOf c l) (0 : Int)) * (46080 : Int)) / (((List.length l) : Nat) : Int))) % (46080 : Int))) ∧ ((decide ((0 : Int) ≤ (ixOf c l))) = (decide ((0 : Int) ≤ (ixOf c l)))))
    False)
  False)) = EXD Try.prog (conOf [index_e]) Try.f33 [.agg [.row 0, .int .i64 f], .cel (.int .i64 c)] [.ints .i64 l] (center_res l f c) := by kernel_rfl
theorem center_holds (l : List Int) (f : Int) (c : Int) (p0 : eValid l f = true) : (cnd (decide ((((List.length l) : Nat) : Int) ≤ (1000000 : Int)))
  (cnd (decide ((((List.length l) : Nat) : Int) ≠ (0 : Int)))
    (((Int.tmod (Go.IntKind.wrap Go.IntKind.i64 (f + (Go.IntKind.wrap Go.IntKind.i64 (Int.tdiv (Go.IntKind.wrap Go.IntKind.i64 ((gmax (ixOf c l) (0 : Int)) * (46080 : Int))) (((List.length l) : Nat) : Int))))) (46080 : Int)) = ((f + (((Max.max (ixOf c l) (0 : Int)) * (46080 : Int)) / (((List.length l) : Nat) : Int))) % (46080 : Int))) ∧ ((decide ((0 : Int) ≤ (ixOf c l))) = (decide ((0 : Int) ≤ (ixOf c l)))))
    False)
  False) := by
  obtain ⟨h1, h2, h3, h4⟩ := eValid_bd p0
  obtain ⟨hb, hb2, _⟩ := ixOf_bd c l
  have j1 : decide ((l.length : Int) ≤ 1000000) = true := by simp; omega
  have j2 : decide ((l.length : Int) ≠ 0) = true := decide_eq_true (by omega)
  simp only [j1, j2, cnd, gmax_eq]
  have hm : 0 ≤ max (ixOf c l) 0 ∧ max (ixOf c l) 0 ≤ 7 := by omega
  generalize max (ixOf c l) 0 = k at *
  have hq := quo_pos (x := k * 46080) (y := (l.length : Int)) (by omega) h1
  rw [w64 (n := k * 46080) (by omega) (by omega), show Int.tdiv (k * 46080) (l.length : Int) = k * 46080 / (l.length : Int) from tdiv_pos (by omega), w64 (n := k * 46080 / (l.length : Int)) (by omega) (by omega), w64 (n := f + k * 46080 / (l.length : Int)) (by omega) (by omega), show Int.tmod (f + k * 46080 / (l.length : Int)) 46080 = (f + k * 46080 / (l.length : Int)) % 46080 from tmod_pos (by omega)]
  simp
theorem center_ok : SoundEnt Try.prog center_e := by
  refine ent_of_ex (Γ := (conOf [index_e])) (conOf_sound (scons index_ok snil)) (by kernel_rfl) Try.func33 (by kernel_rfl) (by kernel_rfl) (fun args rows res h ho => ?_)
  change center_go args rows = some res at h
  unfold center_go at h
  split at h
  · simp only [Option.some.injEq] at h
    subst h
    obtain ⟨p0, _⟩ := ho
    exact EX.of (center_tree _ _ _) (center_holds _ _ _ p0)
  · cases h
def ceErr (l : List Int) (f c : Int) : Int := if eValid l f then (if 0 ≤ ixOf c l then 0 else 7) else 1
def ceA (l : List Int) (f c : Int) : Int := if ceErr l f c = 0 then (f + ixOf c l * 46080 / l.length) % 46080 else 0
def ecenter_res (l : List Int) (f : Int) (c : Int) : CRes := ⟨[decide ((l.length : Int) ≤ 1000000)], .tup [.cel (.int .i64 (ceA l f c)), .cel (.int .i64 (ceErr l f c))], []⟩
def ecenter_go : List TV → List RowA → Option CRes := fun args rows =>
  match args, rows with
  | [.agg [.row 0, .int .i64 f], .cel (.int .i64 c)], [.ints .i64 l] => some (ecenter_res l f c)
  | _, _ => none
def ecenter_e : Ent := ⟨17, [.ints .i64 []], ecenter_go⟩
set_option maxRecDepth 100000 in
theorem ecenter_tree (l : List Int) (f : Int) (c : Int) : ((cnd (decide ((((List.length l) : Nat) : Int) ≤ (1000000 : Int)))
  (cnd (!(eValid l f))
    (((0 : Int) = (ceA l f c)) ∧ ((1 : Int) = (ceErr l f c)))
    (cnd (eValid l f)
      (cnd (!(decide ((0 : Int) ≤ (ixOf c l))))
        (((0 : Int) = (ceA l f c)) ∧ ((7 : Int) = (ceErr l f c)))
        ((((f + (((Max.max (ixOf c l) (0 : Int)) * (46080 : Int)) / (((List.length l) : Nat) : Int))) % (46080 : Int)) = (ceA l f c)) ∧ ((0 : Int) = (ceErr l f c))))
      False))
  False)) = EXD Try.prog (conOf [evalid_e, center_e]) Try.f17 [.agg [.row 0, .int .i64 f], .cel (.int .i64 c)] [.ints .i64 l] (ecenter_res l f c) := by kernel_rfl
theorem ecenter_holds (l : List Int) (f : Int) (c : Int) (p0 : decide ((l.length : Int) ≤ 1000000) = true) : (cnd (decide ((((List.length l) : Nat) : Int) ≤ (1000000 : Int)))
  (cnd (!(eValid l f))
    (((0 : Int) = (ceA l f c)) ∧ ((1 : Int) = (ceErr l f c)))
    (cnd (eValid l f)
      (cnd (!(decide ((0 : Int) ≤ (ixOf c l))))
        (((0 : Int) = (ceA l f c)) ∧ ((7 : Int) = (ceErr l f c)))
        ((((f + (((Max.max (ixOf c l) (0 : Int)) * (46080 : Int)) / (((List.length l) : Nat) : Int))) % (46080 : Int)) = (ceA l f c)) ∧ ((0 : Int) = (ceErr l f c))))
      False))
  False) := by
  cases he : eValid l f with
  | false => simp [p0, cnd, ceA, ceErr, he]
  | true =>
    by_cases hx : 0 ≤ ixOf c l
    · have : max (ixOf c l) 0 = ixOf c l := by omega
      simp [p0, cnd, ceA, ceErr, he, hx, this]
    · simp [p0, cnd, ceA, ceErr, he, hx]
theorem ecenter_ok : SoundEnt Try.prog ecenter_e := by
  refine ent_of_ex (Γ := (conOf [evalid_e, center_e])) (conOf_sound (scons evalid_ok (scons center_ok snil))) (by kernel_rfl) Try.func17 (by kernel_rfl) (by kernel_rfl) (fun args rows res h ho => ?_)
  change ecenter_go args rows = some res at h
  unfold ecenter_go at h
  split at h
  · simp only [Option.some.injEq] at h
    subst h
    obtain ⟨p0, _⟩ := ho
    exact EX.of (ecenter_tree _ _ _) (ecenter_holds _ _ _ p0)
  · cases h
def distance_res (a : Int) (b : Int) : CRes := ⟨[], .one (.cel (.int .i64 (if 0 ≤ a ∧ a < 46080 ∧ 0 ≤ b ∧ b < 46080 then (b - a) % 46080 else -1))), []⟩
def distance_go : List TV → List RowA → Option CRes := fun args rows =>
  match args, rows with
  | [.cel (.int .i64 a), .cel (.int .i64 b)], [] => some (distance_res a b)
  | _, _ => none
def distance_e : Ent := ⟨18, [], distance_go⟩
set_option maxRecDepth 100000 in
theorem distance_tree (a : Int) (b : Int) : ((cnd ((!((decide ((0 : Int) ≤ a)) && (decide (a < (46080 : Int))))) || (!((decide ((0 : Int) ≤ b)) && (decide (b < (46080 : Int))))))
  ((-(1 : Int)) = (if (((0 : Int) ≤ a) ∧ ((a < (46080 : Int)) ∧ (((0 : Int) ≤ b) ∧ (b < (46080 : Int))))) then ((b - a) % (46080 : Int)) else (-(1 : Int))))
  (cnd (in64 (Go.IntKind.wrap Go.IntKind.i64 (b - a)))
    (((Go.IntKind.wrap Go.IntKind.i64 (b - a)) % (46080 : Int)) = (if (((0 : Int) ≤ a) ∧ ((a < (46080 : Int)) ∧ (((0 : Int) ≤ b) ∧ (b < (46080 : Int))))) then ((b - a) % (46080 : Int)) else (-(1 : Int))))
    False))) = EXD Try.prog (conOf [angle_e, mod_e]) Try.f18 [.cel (.int .i64 a), .cel (.int .i64 b)] [] (distance_res a b) := by kernel_rfl
theorem distance_holds (a : Int) (b : Int)  : (cnd ((!((decide ((0 : Int) ≤ a)) && (decide (a < (46080 : Int))))) || (!((decide ((0 : Int) ≤ b)) && (decide (b < (46080 : Int))))))
  ((-(1 : Int)) = (if (((0 : Int) ≤ a) ∧ ((a < (46080 : Int)) ∧ (((0 : Int) ≤ b) ∧ (b < (46080 : Int))))) then ((b - a) % (46080 : Int)) else (-(1 : Int))))
  (cnd (in64 (Go.IntKind.wrap Go.IntKind.i64 (b - a)))
    (((Go.IntKind.wrap Go.IntKind.i64 (b - a)) % (46080 : Int)) = (if (((0 : Int) ≤ a) ∧ ((a < (46080 : Int)) ∧ (((0 : Int) ≤ b) ∧ (b < (46080 : Int))))) then ((b - a) % (46080 : Int)) else (-(1 : Int))))
    False)) := by
  by_cases h : 0 ≤ a ∧ a < 46080 ∧ 0 ≤ b ∧ b < 46080
  · rw [w64 (n := b - a) (by omega) (by omega)]
    have hi : in64 (b - a) = true := in64_iff.2 (by omega)
    simp [h, hi, cnd]
  · have j : ((!((decide (0 ≤ a)) && (decide (a < 46080)))) || (!((decide (0 ≤ b)) && (decide (b < 46080))))) = true := by rw [Bool.eq_iff_iff]; simp <;> omega
    rw [j]
    simp [h, cnd]
theorem distance_ok : SoundEnt Try.prog distance_e := by
  refine ent_of_ex (Γ := (conOf [angle_e, mod_e])) (conOf_sound (scons angle_ok (scons mod_ok snil))) (by kernel_rfl) Try.func18 (by kernel_rfl) (by kernel_rfl) (fun args rows res h ho => ?_)
  change distance_go args rows = some res at h
  unfold distance_go at h
  split at h
  · simp only [Option.some.injEq] at h
    subst h
    skip
    exact EX.of (distance_tree _ _) (distance_holds _ _)
  · cases h
def kwin_res (l : List Int) (f : Int) (c : Int) : CRes := ⟨[decide ((l.length : Int) ≤ 1000000)], .tup [.cel (.int .i64 (if ceErr l f c = 0 then (ceA l f c + 640) % 46080 else 0)), .cel (.int .i64 (if ceErr l f c = 0 then (ceA l f c + 3840) % 46080 else 0)), .cel (.int .i64 (ceErr l f c))], []⟩
def kwin_go : List TV → List RowA → Option CRes := fun args rows =>
  match args, rows with
  | [.agg [.row 0, .int .i64 f], .cel (.int .i64 c)], [.ints .i64 l] => some (kwin_res l f c)
  | _, _ => none
def kwin_e : Ent := ⟨16, [.ints .i64 []], kwin_go⟩
set_option maxRecDepth 100000 in
theorem kwin_tree (l : List Int) (f : Int) (c : Int) : ((cnd (decide ((((List.length l) : Nat) : Int) ≤ (1000000 : Int)))
  (cnd (!(decide ((ceErr l f c) = (0 : Int))))
    (((0 : Int) = (if ((ceErr l f c) = (0 : Int)) then (((ceA l f c) + (640 : Int)) % (46080 : Int)) else (0 : Int))) ∧ (((0 : Int) = (if ((ceErr l f c) = (0 : Int)) then (((ceA l f c) + (3840 : Int)) % (46080 : Int)) else (0 : Int))) ∧ ((ceErr l f c) = (ceErr l f c))))
    (((Int.tmod (Go.IntKind.wrap Go.IntKind.i64 ((ceA l f c) + (640 : Int))) (46080 : Int)) = (if ((ceErr l f c) = (0 : Int)) then (((ceA l f c) + (640 : Int)) % (46080 : Int)) else (0 : Int))) ∧ (((Int.tmod (Go.IntKind.wrap Go.IntKind.i64 ((ceA l f c) + (3840 : Int))) (46080 : Int)) = (if ((ceErr l f c) = (0 : Int)) then (((ceA l f c) + (3840 : Int)) % (46080 : Int)) else (0 : Int))) ∧ ((0 : Int) = (ceErr l f c)))))
  False)) = EXD Try.prog (conOf [ecenter_e]) Try.f16 [.agg [.row 0, .int .i64 f], .cel (.int .i64 c)] [.ints .i64 l] (kwin_res l f c) := by kernel_rfl
theorem kwin_holds (l : List Int) (f : Int) (c : Int) (p0 : decide ((l.length : Int) ≤ 1000000) = true) : (cnd (decide ((((List.length l) : Nat) : Int) ≤ (1000000 : Int)))
  (cnd (!(decide ((ceErr l f c) = (0 : Int))))
    (((0 : Int) = (if ((ceErr l f c) = (0 : Int)) then (((ceA l f c) + (640 : Int)) % (46080 : Int)) else (0 : Int))) ∧ (((0 : Int) = (if ((ceErr l f c) = (0 : Int)) then (((ceA l f c) + (3840 : Int)) % (46080 : Int)) else (0 : Int))) ∧ ((ceErr l f c) = (ceErr l f c))))
    (((Int.tmod (Go.IntKind.wrap Go.IntKind.i64 ((ceA l f c) + (640 : Int))) (46080 : Int)) = (if ((ceErr l f c) = (0 : Int)) then (((ceA l f c) + (640 : Int)) % (46080 : Int)) else (0 : Int))) ∧ (((Int.tmod (Go.IntKind.wrap Go.IntKind.i64 ((ceA l f c) + (3840 : Int))) (46080 : Int)) = (if ((ceErr l f c) = (0 : Int)) then (((ceA l f c) + (3840 : Int)) % (46080 : Int)) else (0 : Int))) ∧ ((0 : Int) = (ceErr l f c)))))
  False) := by
  have hA : 0 ≤ ceA l f c ∧ ceA l f c < 46080 := by unfold ceA; split <;> omega
  rw [w64 (n := ceA l f c + 640) (by omega) (by omega), w64 (n := ceA l f c + 3840) (by omega) (by omega), show Int.tmod (ceA l f c + 640) 46080 = (ceA l f c + 640) % 46080 from tmod_pos (by omega), show Int.tmod (ceA l f c + 3840) 46080 = (ceA l f c + 3840) % 46080 from tmod_pos (by omega)]
  by_cases he : ceErr l f c = 0 <;> simp [p0, cnd, he]
theorem kwin_ok : SoundEnt Try.prog kwin_e := by
  refine ent_of_ex (Γ := (conOf [ecenter_e])) (conOf_sound (scons ecenter_ok snil)) (by kernel_rfl) Try.func16 (by kernel_rfl) (by kernel_rfl) (fun args rows res h ho => ?_)
  change kwin_go args rows = some res at h
  unfold kwin_go at h
  split at h
  · simp only [Option.some.injEq] at h
    subst h
    obtain ⟨p0, _⟩ := ho
    exact EX.of (kwin_tree _ _ _) (kwin_holds _ _ _ p0)
  · cases h
theorem ceA_ne {l : List Int} {f c o : Int} (h1 : ceErr l f c = 0) (h2 : ceErr l f o = 0) (hne : o ≠ c) : ceA l f o ≠ ceA l f c := by
  have hv : eValid l f = true ∧ 0 ≤ ixOf c l ∧ 0 ≤ ixOf o l := by
    unfold ceErr at h1 h2
    cases he : eValid l f with
    | false => rw [he] at h1; simp at h1
    | true =>
      rw [he] at h1 h2
      simp at h1 h2
      exact ⟨rfl, by omega, by omega⟩
  obtain ⟨hv, k1, k2⟩ := hv
  obtain ⟨n1, n2, f0, f1⟩ := eValid_bd hv
  obtain ⟨_, c1, c2⟩ := ixOf_bd c l
  obtain ⟨_, o1, o2⟩ := ixOf_bd o l
  have hk : ixOf c l ≠ ixOf o l := fun e => hne (by rw [← c2 k1, ← o2 k2, e])
  unfold ceA
  rw [if_pos h1, if_pos h2]
  generalize ixOf c l = a at *
  generalize ixOf o l = b at *
  generalize hn : (l.length : Int) = n at *
  have key : ∀ u w : Int, 0 ≤ u → u < 46080 → 0 ≤ w → w < 46080 → u ≠ w → (f + w) % 46080 ≠ (f + u) % 46080 := fun u w _ _ _ _ _ => by omega
  have h8 : n = 1 ∨ n = 2 ∨ n = 3 ∨ n = 4 ∨ n = 5 ∨ n = 6 ∨ n = 7 ∨ n = 8 := by omega
  clear c2 o2 h1 h2 hne hv hn
  rcases h8 with h | h | h | h | h | h | h | h <;> (subst h; exact key _ _ (by omega) (by omega) (by omega) (by omega) (by omega))
def windows_res (l : List Int) (f : Int) (c : Int) (o : Int) : CRes := ⟨[wfL .i64 l, wfI .i64 f, wfI .i64 c, wfI .i64 o], .one (.cel (.bool (true))), []⟩
def windows_go : List TV → List RowA → Option CRes := fun args rows =>
  match args, rows with
  | [.agg [.row 0, .int .i64 f], .cel (.int .i64 c), .cel (.int .i64 o)], [.ints .i64 l] => some (windows_res l f c o)
  | _, _ => none
def windows_e : Ent := ⟨7, [.ints .i64 []], windows_go⟩
set_option maxRecDepth 100000 in
theorem windows_tree (l : List Int) (f : Int) (c : Int) (o : Int) : ((cnd ((!Bool.true) || (decide ((100 : Int) < (((List.length l) : Nat) : Int))))
  (Bool.true = Bool.true)
  (cnd (decide ((((List.length l) : Nat) : Int) ≤ (1000000 : Int)))
    (cnd (decide ((((List.length l) : Nat) : Int) ≤ (1000000 : Int)))
      (cnd (!(decide ((ceErr l f c) = (0 : Int))))
        ((((decide ((if ((ceErr l f c) = (0 : Int)) then (((ceA l f c) + (640 : Int)) % (46080 : Int)) else (0 : Int)) = (0 : Int))) && (decide ((if ((ceErr l f c) = (0 : Int)) then (((ceA l f c) + (3840 : Int)) % (46080 : Int)) else (0 : Int)) = (0 : Int)))) && (decide ((ceErr l f c) = (ceErr l f c)))) = Bool.true)
        (cnd ((!((!(decide ((ceErr l f c) = (0 : Int)))) == Bool.false)) || (decide ((46080 : Int) ≠ (0 : Int))))
          (cnd ((!(((!(decide ((ceErr l f c) = (0 : Int)))) || (!(decide ((if ((ceErr l f c) = (0 : Int)) then (((ceA l f c) + (640 : Int)) % (46080 : Int)) else (0 : Int)) = (Int.tmod (Go.IntKind.wrap Go.IntKind.i64 ((ceA l f c) + (640 : Int))) (46080 : Int)))))) == Bool.false)) || (decide ((46080 : Int) ≠ (0 : Int))))
            (cnd ((((!(decide ((ceErr l f c) = (0 : Int)))) || (!(decide ((if ((ceErr l f c) = (0 : Int)) then (((ceA l f c) + (640 : Int)) % (46080 : Int)) else (0 : Int)) = (Int.tmod (Go.IntKind.wrap Go.IntKind.i64 ((ceA l f c) + (640 : Int))) (46080 : Int)))))) || (!(decide ((if ((ceErr l f c) = (0 : Int)) then (((ceA l f c) + (3840 : Int)) % (46080 : Int)) else (0 : Int)) = (Int.tmod (Go.IntKind.wrap Go.IntKind.i64 ((ceA l f c) + (3840 : Int))) (46080 : Int)))))) || (!(decide ((if (((0 : Int) ≤ (if ((ceErr l f c) = (0 : Int)) then (((ceA l f c) + (640 : Int)) % (46080 : Int)) else (0 : Int))) ∧ (((if ((ceErr l f c) = (0 : Int)) then (((ceA l f c) + (640 : Int)) % (46080 : Int)) else (0 : Int)) < (46080 : Int)) ∧ (((0 : Int) ≤ (if ((ceErr l f c) = (0 : Int)) then (((ceA l f c) + (3840 : Int)) % (46080 : Int)) else (0 : Int))) ∧ ((if ((ceErr l f c) = (0 : Int)) then (((ceA l f c) + (3840 : Int)) % (46080 : Int)) else (0 : Int)) < (46080 : Int))))) then (((if ((ceErr l f c) = (0 : Int)) then (((ceA l f c) + (3840 : Int)) % (46080 : Int)) else (0 : Int)) - (if ((ceErr l f c) = (0 : Int)) then (((ceA l f c) + (640 : Int)) % (46080 : Int)) else (0 : Int))) % (46080 : Int)) else (-(1 : Int))) = (3200 : Int)))))
              (Bool.false = Bool.true)
              (cnd (decide ((((List.length l) : Nat) : Int) ≤ (1000000 : Int)))
                ((((!(decide ((ceErr l f o) = (0 : Int)))) || (decide (o = c))) || ((!(decide ((if ((ceErr l f o) = (0 : Int)) then (((ceA l f o) + (640 : Int)) % (46080 : Int)) else (0 : Int)) = (if ((ceErr l f c) = (0 : Int)) then (((ceA l f c) + (640 : Int)) % (46080 : Int)) else (0 : Int))))) && (!(decide ((if ((ceErr l f o) = (0 : Int)) then (((ceA l f o) + (3840 : Int)) % (46080 : Int)) else (0 : Int)) = (if ((ceErr l f c) = (0 : Int)) then (((ceA l f c) + (3840 : Int)) % (46080 : Int)) else (0 : Int))))))) = Bool.true)
                False))
            False)
          False))
      False)
    False))) = EXD Try.prog (conOf [awake_e, kwin_e, ecenter_e, distance_e]) Try.f7 [.agg [.row 0, .int .i64 f], .cel (.int .i64 c), .cel (.int .i64 o)] [.ints .i64 l] (windows_res l f c o) := by kernel_rfl
theorem windows_holds (l : List Int) (f : Int) (c : Int) (o : Int) (p0 : wfL .i64 l = true) (p1 : wfI .i64 f = true) (p2 : wfI .i64 c = true) (p3 : wfI .i64 o = true) : (cnd ((!Bool.true) || (decide ((100 : Int) < (((List.length l) : Nat) : Int))))
  (Bool.true = Bool.true)
  (cnd (decide ((((List.length l) : Nat) : Int) ≤ (1000000 : Int)))
    (cnd (decide ((((List.length l) : Nat) : Int) ≤ (1000000 : Int)))
      (cnd (!(decide ((ceErr l f c) = (0 : Int))))
        ((((decide ((if ((ceErr l f c) = (0 : Int)) then (((ceA l f c) + (640 : Int)) % (46080 : Int)) else (0 : Int)) = (0 : Int))) && (decide ((if ((ceErr l f c) = (0 : Int)) then (((ceA l f c) + (3840 : Int)) % (46080 : Int)) else (0 : Int)) = (0 : Int)))) && (decide ((ceErr l f c) = (ceErr l f c)))) = Bool.true)
        (cnd ((!((!(decide ((ceErr l f c) = (0 : Int)))) == Bool.false)) || (decide ((46080 : Int) ≠ (0 : Int))))
          (cnd ((!(((!(decide ((ceErr l f c) = (0 : Int)))) || (!(decide ((if ((ceErr l f c) = (0 : Int)) then (((ceA l f c) + (640 : Int)) % (46080 : Int)) else (0 : Int)) = (Int.tmod (Go.IntKind.wrap Go.IntKind.i64 ((ceA l f c) + (640 : Int))) (46080 : Int)))))) == Bool.false)) || (decide ((46080 : Int) ≠ (0 : Int))))
            (cnd ((((!(decide ((ceErr l f c) = (0 : Int)))) || (!(decide ((if ((ceErr l f c) = (0 : Int)) then (((ceA l f c) + (640 : Int)) % (46080 : Int)) else (0 : Int)) = (Int.tmod (Go.IntKind.wrap Go.IntKind.i64 ((ceA l f c) + (640 : Int))) (46080 : Int)))))) || (!(decide ((if ((ceErr l f c) = (0 : Int)) then (((ceA l f c) + (3840 : Int)) % (46080 : Int)) else (0 : Int)) = (Int.tmod (Go.IntKind.wrap Go.IntKind.i64 ((ceA l f c) + (3840 : Int))) (46080 : Int)))))) || (!(decide ((if (((0 : Int) ≤ (if ((ceErr l f c) = (0 : Int)) then (((ceA l f c) + (640 : Int)) % (46080 : Int)) else (0 : Int))) ∧ (((if ((ceErr l f c) = (0 : Int)) then (((ceA l f c) + (640 : Int)) % (46080 : Int)) else (0 : Int)) < (46080 : Int)) ∧ (((0 : Int) ≤ (if ((ceErr l f c) = (0 : Int)) then (((ceA l f c) + (3840 : Int)) % (46080 : Int)) else (0 : Int))) ∧ ((if ((ceErr l f c) = (0 : Int)) then (((ceA l f c) + (3840 : Int)) % (46080 : Int)) else (0 : Int)) < (46080 : Int))))) then (((if ((ceErr l f c) = (0 : Int)) then (((ceA l f c) + (3840 : Int)) % (46080 : Int)) else (0 : Int)) - (if ((ceErr l f c) = (0 : Int)) then (((ceA l f c) + (640 : Int)) % (46080 : Int)) else (0 : Int))) % (46080 : Int)) else (-(1 : Int))) = (3200 : Int)))))
              (Bool.false = Bool.true)
              (cnd (decide ((((List.length l) : Nat) : Int) ≤ (1000000 : Int)))
                ((((!(decide ((ceErr l f o) = (0 : Int)))) || (decide (o = c))) || ((!(decide ((if ((ceErr l f o) = (0 : Int)) then (((ceA l f o) + (640 : Int)) % (46080 : Int)) else (0 : Int)) = (if ((ceErr l f c) = (0 : Int)) then (((ceA l f c) + (640 : Int)) % (46080 : Int)) else (0 : Int))))) && (!(decide ((if ((ceErr l f o) = (0 : Int)) then (((ceA l f o) + (3840 : Int)) % (46080 : Int)) else (0 : Int)) = (if ((ceErr l f c) = (0 : Int)) then (((ceA l f c) + (3840 : Int)) % (46080 : Int)) else (0 : Int))))))) = Bool.true)
                False))
            False)
          False))
      False)
    False)) := by
  have hA : 0 ≤ ceA l f c ∧ ceA l f c < 46080 := by unfold ceA; split <;> omega
  have hB : 0 ≤ ceA l f o ∧ ceA l f o < 46080 := by unfold ceA; split <;> omega
  by_cases hl : (100 : Int) < l.length
  · have j : decide ((100 : Int) < l.length) = true := by simpa using hl
    simp [j, cnd]
  · have j : decide ((100 : Int) < l.length) = false := by simpa using hl
    have j1 : decide ((l.length : Int) ≤ 1000000) = true := by simp; omega
    rw [w64 (n := ceA l f c + 640) (by omega) (by omega), w64 (n := ceA l f c + 3840) (by omega) (by omega), show Int.tmod (ceA l f c + 640) 46080 = (ceA l f c + 640) % 46080 from tmod_pos (by omega), show Int.tmod (ceA l f c + 3840) 46080 = (ceA l f c + 3840) % 46080 from tmod_pos (by omega)]
    by_cases he : ceErr l f c = 0
    · have hne := fun (h2 : ceErr l f o = 0) (h3 : o ≠ c) => ceA_ne he h2 h3
      have hd : ((ceA l f c + 3840) % 46080 - (ceA l f c + 640) % 46080) % 46080 = 3200 := by omega
      have r1 : 0 ≤ (ceA l f c + 640) % 46080 ∧ (ceA l f c + 640) % 46080 < 46080 ∧ 0 ≤ (ceA l f c + 3840) % 46080 ∧ (ceA l f c + 3840) % 46080 < 46080 := by omega
      simp only [j, j1, he, if_true, cnd, decide_true, Bool.not_true, Bool.or_false, if_pos r1, hd]
      simp
      by_cases ho : ceErr l f o = 0
      · by_cases e : o = c
        · simp [e]
        · have := hne ho e
          simp [ho, e]
          omega
      · simp [ho]
    · simp [j, j1, he, cnd]
theorem windows_ok : SoundEnt Try.prog windows_e := by
  refine ent_of_ex (Γ := (conOf [awake_e, kwin_e, ecenter_e, distance_e])) (conOf_sound (scons awake_ok (scons kwin_ok (scons ecenter_ok (scons distance_ok snil))))) (by kernel_rfl) Try.func7 (by kernel_rfl) (by kernel_rfl) (fun args rows res h ho => ?_)
  change windows_go args rows = some res at h
  unfold windows_go at h
  split at h
  · simp only [Option.some.injEq] at h
    subst h
    obtain ⟨p0, p1, p2, p3, _⟩ := ho
    exact EX.of (windows_tree _ _ _ _) (windows_holds _ _ _ _ p0 p1 p2 p3)
  · cases h
end Go.Proofs.Ytoklfnonbfcdlaa

