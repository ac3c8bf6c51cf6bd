/- Steps of knocking. -/
import Derived.Test.YtoklfnonbfcdlaaK1
import Derived.Test.YtoklfnonbfcdlaaAr
import Derived.Test.YtoklfnonbfcdlaaLw
namespace Go.Proofs.Ytoklfnonbfcdlaa
set_option linter.unusedVariables false
set_option linter.unusedSimpArgs false
open Go.RowKit

theorem knockB_iff {r n q : Int} : knockB r n q = true ↔ 0 ≤ r ∧ r ≤ 960 ∧ 0 ≤ n ∧ n ≤ 4095 ∧ 0 ≤ q ∧ q < 100 := by simp [knockB, intensityB, and_assoc]
theorem intensityB_iff {n : Int} : intensityB n = true ↔ 0 ≤ n ∧ n ≤ 4095 := by simp [intensityB]
theorem gmax_eq (a b : Int) : gmax a b = max a b := by unfold gmax; omega
theorem gmin_eq (a b : Int) : gmin a b = min a b := by unfold gmin; omega
theorem inBig_of {n : Int} (h0 : -9000 ≤ n) (h1 : n ≤ 9000) : inBig n = true := inBig_iff.2 (by omega)
def knocks (n x : Int) : Bool := decide (3 * n + 40 < x)
def stR (r n q x : Int) : Int := if knocks n x then min (r + 96) 960 else if q = 99 then max (r - 16) 0 else r
def stN (n x : Int) : Int := if knocks n x then n else n + (x - n) / 8
def stQ (n q x : Int) : Int := if knocks n x then 0 else if q = 99 then 0 else q + 1
def okS (r n q x : Int) : Bool := knockB r n q && intensityB x
def stErr (r n q x : Int) : Int := if knockB r n q then (if intensityB x then 0 else 2) else 1
def kstep_res (r : Int) (n : Int) (q : Int) (x : Int) : CRes := ⟨[knockB r n q, intensityB x], .tup [.agg [.int .i64 (stR r n q x), .int .i64 (stN n x), .int .i64 (stQ n q x)], .cel (.bool (knocks n x))], []⟩
def kstep_go : List TV → List RowA → List (List CV) → Option CRes := fun args rows caps =>
  match args, rows, caps with
  | [.agg [.int .i64 r, .int .i64 n, .int .i64 q], .cel (.int .i64 x)], [], [] => some (kstep_res r n q x)
  | _, _, _ => none
def kstep_e : Ent := ⟨28, [], kstep_go⟩
set_option maxRecDepth 100000 in
theorem kstep_tree (r : Int) (n : Int) (q : Int) (x : Int) : ((cnd (decide ((Go.IntKind.wrap Go.IntKind.i64 ((Go.IntKind.wrap Go.IntKind.i64 ((3 : Int) * n)) + (40 : Int))) < x))
  ((((gmin (Go.IntKind.wrap Go.IntKind.i64 (r + (96 : Int))) (960 : Int)) = (stR r n q x)) ∧ ((n = (stN n x)) ∧ ((0 : Int) = (stQ n q x)))) ∧ (Bool.true = (knocks n x)))
  (cnd (decide ((Go.IntKind.wrap Go.IntKind.i64 (q + (1 : Int))) = (100 : Int)))
    (cnd (inBig (Go.IntKind.wrap Go.IntKind.i64 (x - n)))
      ((((gmax (Go.IntKind.wrap Go.IntKind.i64 (r - (16 : Int))) (0 : Int)) = (stR r n q x)) ∧ (((Go.IntKind.wrap Go.IntKind.i64 (n + ((Go.IntKind.wrap Go.IntKind.i64 (x - n)) / (8 : Int)))) = (stN n x)) ∧ ((0 : Int) = (stQ n q x)))) ∧ (Bool.false = (knocks n x)))
      False)
    (cnd (inBig (Go.IntKind.wrap Go.IntKind.i64 (x - n)))
      (((r = (stR r n q x)) ∧ (((Go.IntKind.wrap Go.IntKind.i64 (n + ((Go.IntKind.wrap Go.IntKind.i64 (x - n)) / (8 : Int)))) = (stN n x)) ∧ ((Go.IntKind.wrap Go.IntKind.i64 (q + (1 : Int))) = (stQ n q x)))) ∧ (Bool.false = (knocks n x)))
      False)))) = EXD Try.prog (conOf [floor_e]) Try.f28 [.agg [.int .i64 r, .int .i64 n, .int .i64 q], .cel (.int .i64 x)] [] [] (kstep_res r n q x) := by kernel_rfl
theorem kstep_holds (r : Int) (n : Int) (q : Int) (x : Int) (p0 : (knockB r n q) = true) (p1 : (intensityB x) = true) : (cnd (decide ((Go.IntKind.wrap Go.IntKind.i64 ((Go.IntKind.wrap Go.IntKind.i64 ((3 : Int) * n)) + (40 : Int))) < x))
  ((((gmin (Go.IntKind.wrap Go.IntKind.i64 (r + (96 : Int))) (960 : Int)) = (stR r n q x)) ∧ ((n = (stN n x)) ∧ ((0 : Int) = (stQ n q x)))) ∧ (Bool.true = (knocks n x)))
  (cnd (decide ((Go.IntKind.wrap Go.IntKind.i64 (q + (1 : Int))) = (100 : Int)))
    (cnd (inBig (Go.IntKind.wrap Go.IntKind.i64 (x - n)))
      ((((gmax (Go.IntKind.wrap Go.IntKind.i64 (r - (16 : Int))) (0 : Int)) = (stR r n q x)) ∧ (((Go.IntKind.wrap Go.IntKind.i64 (n + ((Go.IntKind.wrap Go.IntKind.i64 (x - n)) / (8 : Int)))) = (stN n x)) ∧ ((0 : Int) = (stQ n q x)))) ∧ (Bool.false = (knocks n x)))
      False)
    (cnd (inBig (Go.IntKind.wrap Go.IntKind.i64 (x - n)))
      (((r = (stR r n q x)) ∧ (((Go.IntKind.wrap Go.IntKind.i64 (n + ((Go.IntKind.wrap Go.IntKind.i64 (x - n)) / (8 : Int)))) = (stN n x)) ∧ ((Go.IntKind.wrap Go.IntKind.i64 (q + (1 : Int))) = (stQ n q x)))) ∧ (Bool.false = (knocks n x)))
      False))) := by
  rw [knockB_iff] at p0
  rw [intensityB_iff] at p1
  unfold stR stN stQ
  rw [w64 (n := 3 * n) (by omega) (by omega), w64 (n := 3 * n + 40) (by omega) (by omega)]
  rw [w64 (n := q + 1) (by omega) (by omega), w64 (n := x - n) (by omega) (by omega), w64 (n := r + 96) (by omega) (by omega), w64 (n := r - 16) (by omega) (by omega), w64 (n := n + (x - n) / 8) (by omega) (by omega), inBig_of (n := x - n) (by omega) (by omega)]
  change cnd (knocks n x) _ _
  simp only [gmin_eq, gmax_eq]
  (repeat' (first | with_reducible rfl | trivial | (refine cnd_i (fun h => ?_) (fun h => ?_)) | (refine And.intro ?_ ?_) | (intro h)))
  all_goals (simp_all)
  all_goals (try omega)
set_option maxHeartbeats 2000000 in
theorem kstep_ok : SoundEnt Try.prog kstep_e := by
  refine ent_of_ex (Γ := (conOf [floor_e])) (conOf_sound (scons floor_ok snil)) (by kernel_rfl) Try.func28 (by kernel_rfl) (by kernel_rfl) (fun args rows caps res h ho => ?_)
  change kstep_go args rows caps = some res at h
  unfold kstep_go at h
  split at h
  · simp only [Option.some.injEq] at h
    subst h
    rename_i q0_ q1_ q2_ q3_
    obtain ⟨p0, p1, _⟩ := ho
    exact EX.of (kstep_tree q0_ q1_ q2_ q3_) (kstep_holds q0_ q1_ q2_ q3_ p0 p1)
  · cases h
def kStep_res (r : Int) (n : Int) (q : Int) (x : Int) : CRes := ⟨[], .tup [.agg [.int .i64 (if okS r n q x then stR r n q x else 0), .int .i64 (if okS r n q x then stN n x else 0), .int .i64 (if okS r n q x then stQ n q x else 0)], .cel (.bool (okS r n q x && knocks n x)), .cel (.int .i64 (stErr r n q x))], []⟩
def kStep_go : List TV → List RowA → List (List CV) → Option CRes := fun args rows caps =>
  match args, rows, caps with
  | [.agg [.int .i64 r, .int .i64 n, .int .i64 q], .cel (.int .i64 x)], [], [] => some (kStep_res r n q x)
  | _, _, _ => none
def kStep_e : Ent := ⟨10, [], kStep_go⟩
set_option maxRecDepth 100000 in
theorem kStep_tree (r : Int) (n : Int) (q : Int) (x : Int) : ((cnd (!(knockB r n q))
  ((((0 : Int) = (if ((okS r n q x) = Bool.true) then (stR r n q x) else (0 : Int))) ∧ (((0 : Int) = (if ((okS r n q x) = Bool.true) then (stN n x) else (0 : Int))) ∧ ((0 : Int) = (if ((okS r n q x) = Bool.true) then (stQ n q x) else (0 : Int))))) ∧ ((Bool.false = ((okS r n q x) && (knocks n x))) ∧ ((1 : Int) = (stErr r n q x))))
  (cnd (!(intensityB x))
    ((((0 : Int) = (if ((okS r n q x) = Bool.true) then (stR r n q x) else (0 : Int))) ∧ (((0 : Int) = (if ((okS r n q x) = Bool.true) then (stN n x) else (0 : Int))) ∧ ((0 : Int) = (if ((okS r n q x) = Bool.true) then (stQ n q x) else (0 : Int))))) ∧ ((Bool.false = ((okS r n q x) && (knocks n x))) ∧ ((2 : Int) = (stErr r n q x))))
    (cnd (knockB r n q)
      (cnd (intensityB x)
        ((((stR r n q x) = (if ((okS r n q x) = Bool.true) then (stR r n q x) else (0 : Int))) ∧ (((stN n x) = (if ((okS r n q x) = Bool.true) then (stN n x) else (0 : Int))) ∧ ((stQ n q x) = (if ((okS r n q x) = Bool.true) then (stQ n q x) else (0 : Int))))) ∧ (((knocks n x) = ((okS r n q x) && (knocks n x))) ∧ ((0 : Int) = (stErr r n q x))))
        False)
      False)))) = EXD Try.prog (conOf [kstep_e, valid_e, intensity_e]) Try.f10 [.agg [.int .i64 r, .int .i64 n, .int .i64 q], .cel (.int .i64 x)] [] [] (kStep_res r n q x) := by kernel_rfl
theorem kStep_holds (r : Int) (n : Int) (q : Int) (x : Int)  : (cnd (!(knockB r n q))
  ((((0 : Int) = (if ((okS r n q x) = Bool.true) then (stR r n q x) else (0 : Int))) ∧ (((0 : Int) = (if ((okS r n q x) = Bool.true) then (stN n x) else (0 : Int))) ∧ ((0 : Int) = (if ((okS r n q x) = Bool.true) then (stQ n q x) else (0 : Int))))) ∧ ((Bool.false = ((okS r n q x) && (knocks n x))) ∧ ((1 : Int) = (stErr r n q x))))
  (cnd (!(intensityB x))
    ((((0 : Int) = (if ((okS r n q x) = Bool.true) then (stR r n q x) else (0 : Int))) ∧ (((0 : Int) = (if ((okS r n q x) = Bool.true) then (stN n x) else (0 : Int))) ∧ ((0 : Int) = (if ((okS r n q x) = Bool.true) then (stQ n q x) else (0 : Int))))) ∧ ((Bool.false = ((okS r n q x) && (knocks n x))) ∧ ((2 : Int) = (stErr r n q x))))
    (cnd (knockB r n q)
      (cnd (intensityB x)
        ((((stR r n q x) = (if ((okS r n q x) = Bool.true) then (stR r n q x) else (0 : Int))) ∧ (((stN n x) = (if ((okS r n q x) = Bool.true) then (stN n x) else (0 : Int))) ∧ ((stQ n q x) = (if ((okS r n q x) = Bool.true) then (stQ n q x) else (0 : Int))))) ∧ (((knocks n x) = ((okS r n q x) && (knocks n x))) ∧ ((0 : Int) = (stErr r n q x))))
        False)
      False))) := by
  unfold okS stErr
  (repeat' (first | with_reducible rfl | trivial | (refine cnd_i (fun h => ?_) (fun h => ?_)) | (refine And.intro ?_ ?_) | (intro h)))
  all_goals (simp_all)
set_option maxHeartbeats 2000000 in
theorem kStep_ok : SoundEnt Try.prog kStep_e := by
  refine ent_of_ex (Γ := (conOf [kstep_e, valid_e, intensity_e])) (conOf_sound (scons kstep_ok (scons valid_ok (scons intensity_ok snil)))) (by kernel_rfl) Try.func10 (by kernel_rfl) (by kernel_rfl) (fun args rows caps res h ho => ?_)
  change kStep_go args rows caps = some res at h
  unfold kStep_go at h
  split at h
  · simp only [Option.some.injEq] at h
    subst h
    rename_i q0_ q1_ q2_ q3_
    skip
    exact EX.of (kStep_tree q0_ q1_ q2_ q3_) (kStep_holds q0_ q1_ q2_ q3_)
  · cases h
def rInt_res (n : Int) : CRes := ⟨[], .one (.cel (.bool (intensityB n))), []⟩
def rInt_go : List TV → List RowA → List (List CV) → Option CRes := fun args rows caps =>
  match args, rows, caps with
  | [.cel (.int .i64 n)], [], [] => some (rInt_res n)
  | _, _, _ => none
def rInt_e : Ent := ⟨13, [], rInt_go⟩
set_option maxRecDepth 100000 in
theorem rInt_tree (n : Int) : ((((decide ((0 : Int) ≤ n)) && (decide (n ≤ (4095 : Int)))) = (intensityB n))) = EXD Try.prog (conOf []) Try.f13 [.cel (.int .i64 n)] [] [] (rInt_res n) := by kernel_rfl
theorem rInt_holds (n : Int)  : (((decide ((0 : Int) ≤ n)) && (decide (n ≤ (4095 : Int)))) = (intensityB n)) := by
  simp [condF, intensityB]
set_option maxHeartbeats 2000000 in
theorem rInt_ok : SoundEnt Try.prog rInt_e := by
  refine ent_of_ex (Γ := (conOf [])) (conOf_sound snil) (by kernel_rfl) Try.func13 (by kernel_rfl) (by kernel_rfl) (fun args rows caps res h ho => ?_)
  change rInt_go args rows caps = some res at h
  unfold rInt_go at h
  split at h
  · simp only [Option.some.injEq] at h
    subst h
    rename_i q0_
    skip
    exact EX.of (rInt_tree q0_) (rInt_holds q0_)
  · cases h
def rValid_res (r : Int) (n : Int) (q : Int) : CRes := ⟨[], .one (.cel (.bool (knockB r n q))), []⟩
def rValid_go : List TV → List RowA → List (List CV) → Option CRes := fun args rows caps =>
  match args, rows, caps with
  | [.agg [.int .i64 r, .int .i64 n, .int .i64 q]], [], [] => some (rValid_res r n q)
  | _, _, _ => none
def rValid_e : Ent := ⟨12, [], rValid_go⟩
set_option maxRecDepth 100000 in
theorem rValid_tree (r : Int) (n : Int) (q : Int) : (((((((decide ((0 : Int) ≤ r)) && (decide (r ≤ (960 : Int)))) && (intensityB n)) && (decide ((0 : Int) ≤ q))) && (decide (q ≤ (99 : Int)))) = (knockB r n q))) = EXD Try.prog (conOf [rInt_e]) Try.f12 [.agg [.int .i64 r, .int .i64 n, .int .i64 q]] [] [] (rValid_res r n q) := by kernel_rfl
theorem rValid_holds (r : Int) (n : Int) (q : Int)  : ((((((decide ((0 : Int) ≤ r)) && (decide (r ≤ (960 : Int)))) && (intensityB n)) && (decide ((0 : Int) ≤ q))) && (decide (q ≤ (99 : Int)))) = (knockB r n q)) := by
  have e : decide (q ≤ 99) = decide (q < 100) := decide_eq_decide.2 (by omega)
  simp [condF, knockB, e]
set_option maxHeartbeats 2000000 in
theorem rValid_ok : SoundEnt Try.prog rValid_e := by
  refine ent_of_ex (Γ := (conOf [rInt_e])) (conOf_sound (scons rInt_ok snil)) (by kernel_rfl) Try.func12 (by kernel_rfl) (by kernel_rfl) (fun args rows caps res h ho => ?_)
  change rValid_go args rows caps = some res at h
  unfold rValid_go at h
  split at h
  · simp only [Option.some.injEq] at h
    subst h
    rename_i q0_ q1_ q2_
    skip
    exact EX.of (rValid_tree q0_ q1_ q2_) (rValid_holds q0_ q1_ q2_)
  · cases h
def rStep_res (r : Int) (n : Int) (q : Int) (x : Int) : CRes := ⟨[knockB r n q, intensityB x], .tup [.agg [.int .i64 (stR r n q x), .int .i64 (stN n x), .int .i64 (stQ n q x)], .cel (.bool (knocks n x))], []⟩
def rStep_go : List TV → List RowA → List (List CV) → Option CRes := fun args rows caps =>
  match args, rows, caps with
  | [.agg [.int .i64 r, .int .i64 n, .int .i64 q], .cel (.int .i64 x)], [], [] => some (rStep_res r n q x)
  | _, _, _ => none
def rStep_e : Ent := ⟨14, [], rStep_go⟩
set_option maxRecDepth 100000 in
theorem rStep_tree (r : Int) (n : Int) (q : Int) (x : Int) : ((cnd (decide ((Go.IntKind.wrap Go.IntKind.i64 ((Go.IntKind.wrap Go.IntKind.i64 ((3 : Int) * n)) + (40 : Int))) < x))
  ((((gmin (Go.IntKind.wrap Go.IntKind.i64 (r + (96 : Int))) (960 : Int)) = (stR r n q x)) ∧ ((n = (stN n x)) ∧ ((0 : Int) = (stQ n q x)))) ∧ (Bool.true = (knocks n x)))
  (cnd (decide ((Go.IntKind.wrap Go.IntKind.i64 (q + (1 : Int))) = (100 : Int)))
    (cnd (decide (n ≤ x))
      ((((gmax (Go.IntKind.wrap Go.IntKind.i64 (r - (16 : Int))) (0 : Int)) = (stR r n q x)) ∧ (((Go.IntKind.wrap Go.IntKind.i64 (n + (Go.IntKind.wrap Go.IntKind.i64 (Int.tdiv (Go.IntKind.wrap Go.IntKind.i64 (x - n)) (8 : Int))))) = (stN n x)) ∧ ((0 : Int) = (stQ n q x)))) ∧ (Bool.false = (knocks n x)))
      ((((gmax (Go.IntKind.wrap Go.IntKind.i64 (r - (16 : Int))) (0 : Int)) = (stR r n q x)) ∧ (((Go.IntKind.wrap Go.IntKind.i64 (n - (Go.IntKind.wrap Go.IntKind.i64 (Int.tdiv (Go.IntKind.wrap Go.IntKind.i64 ((Go.IntKind.wrap Go.IntKind.i64 (n - x)) + (7 : Int))) (8 : Int))))) = (stN n x)) ∧ ((0 : Int) = (stQ n q x)))) ∧ (Bool.false = (knocks n x))))
    (cnd (decide (n ≤ x))
      (((r = (stR r n q x)) ∧ (((Go.IntKind.wrap Go.IntKind.i64 (n + (Go.IntKind.wrap Go.IntKind.i64 (Int.tdiv (Go.IntKind.wrap Go.IntKind.i64 (x - n)) (8 : Int))))) = (stN n x)) ∧ ((Go.IntKind.wrap Go.IntKind.i64 (q + (1 : Int))) = (stQ n q x)))) ∧ (Bool.false = (knocks n x)))
      (((r = (stR r n q x)) ∧ (((Go.IntKind.wrap Go.IntKind.i64 (n - (Go.IntKind.wrap Go.IntKind.i64 (Int.tdiv (Go.IntKind.wrap Go.IntKind.i64 ((Go.IntKind.wrap Go.IntKind.i64 (n - x)) + (7 : Int))) (8 : Int))))) = (stN n x)) ∧ ((Go.IntKind.wrap Go.IntKind.i64 (q + (1 : Int))) = (stQ n q x)))) ∧ (Bool.false = (knocks n x))))))) = EXD Try.prog (conOf []) Try.f14 [.agg [.int .i64 r, .int .i64 n, .int .i64 q], .cel (.int .i64 x)] [] [] (rStep_res r n q x) := by kernel_rfl
theorem rStep_holds (r : Int) (n : Int) (q : Int) (x : Int) (p0 : (knockB r n q) = true) (p1 : (intensityB x) = true) : (cnd (decide ((Go.IntKind.wrap Go.IntKind.i64 ((Go.IntKind.wrap Go.IntKind.i64 ((3 : Int) * n)) + (40 : Int))) < x))
  ((((gmin (Go.IntKind.wrap Go.IntKind.i64 (r + (96 : Int))) (960 : Int)) = (stR r n q x)) ∧ ((n = (stN n x)) ∧ ((0 : Int) = (stQ n q x)))) ∧ (Bool.true = (knocks n x)))
  (cnd (decide ((Go.IntKind.wrap Go.IntKind.i64 (q + (1 : Int))) = (100 : Int)))
    (cnd (decide (n ≤ x))
      ((((gmax (Go.IntKind.wrap Go.IntKind.i64 (r - (16 : Int))) (0 : Int)) = (stR r n q x)) ∧ (((Go.IntKind.wrap Go.IntKind.i64 (n + (Go.IntKind.wrap Go.IntKind.i64 (Int.tdiv (Go.IntKind.wrap Go.IntKind.i64 (x - n)) (8 : Int))))) = (stN n x)) ∧ ((0 : Int) = (stQ n q x)))) ∧ (Bool.false = (knocks n x)))
      ((((gmax (Go.IntKind.wrap Go.IntKind.i64 (r - (16 : Int))) (0 : Int)) = (stR r n q x)) ∧ (((Go.IntKind.wrap Go.IntKind.i64 (n - (Go.IntKind.wrap Go.IntKind.i64 (Int.tdiv (Go.IntKind.wrap Go.IntKind.i64 ((Go.IntKind.wrap Go.IntKind.i64 (n - x)) + (7 : Int))) (8 : Int))))) = (stN n x)) ∧ ((0 : Int) = (stQ n q x)))) ∧ (Bool.false = (knocks n x))))
    (cnd (decide (n ≤ x))
      (((r = (stR r n q x)) ∧ (((Go.IntKind.wrap Go.IntKind.i64 (n + (Go.IntKind.wrap Go.IntKind.i64 (Int.tdiv (Go.IntKind.wrap Go.IntKind.i64 (x - n)) (8 : Int))))) = (stN n x)) ∧ ((Go.IntKind.wrap Go.IntKind.i64 (q + (1 : Int))) = (stQ n q x)))) ∧ (Bool.false = (knocks n x)))
      (((r = (stR r n q x)) ∧ (((Go.IntKind.wrap Go.IntKind.i64 (n - (Go.IntKind.wrap Go.IntKind.i64 (Int.tdiv (Go.IntKind.wrap Go.IntKind.i64 ((Go.IntKind.wrap Go.IntKind.i64 (n - x)) + (7 : Int))) (8 : Int))))) = (stN n x)) ∧ ((Go.IntKind.wrap Go.IntKind.i64 (q + (1 : Int))) = (stQ n q x)))) ∧ (Bool.false = (knocks n x)))))) := by
  rw [knockB_iff] at p0
  rw [intensityB_iff] at p1
  unfold stR stN stQ
  rw [w64 (n := 3 * n) (by omega) (by omega), w64 (n := 3 * n + 40) (by omega) (by omega)]
  rw [w64 (n := q + 1) (by omega) (by omega), w64 (n := x - n) (by omega) (by omega), w64 (n := r + 96) (by omega) (by omega), w64 (n := r - 16) (by omega) (by omega), w64 (n := n - x) (by omega) (by omega), w64 (n := n - x + 7) (by omega) (by omega)]
  change cnd (knocks n x) _ _
  simp only [gmin_eq, gmax_eq]
  by_cases hx : n ≤ x
  · have e : Int.tdiv (x - n) 8 = (x - n) / 8 := tdiv_pos (by omega)
    rw [e, w64 (n := (x - n) / 8) (by omega) (by omega), w64 (n := n + (x - n) / 8) (by omega) (by omega)]
    simp only [hx, decide_true, condT]
    (repeat' (first | with_reducible rfl | trivial | (refine cnd_i (fun h => ?_) (fun h => ?_)) | (refine And.intro ?_ ?_) | (intro h)))
    all_goals (simp_all)
    all_goals (try omega)
  · have e : Int.tdiv (n - x + 7) 8 = (n - x + 7) / 8 := tdiv_pos (by omega)
    have e2 : (n - x + 7) / 8 = -((x - n) / 8) := by omega
    rw [e, e2, w64 (n := -((x - n) / 8)) (by omega) (by omega), w64 (n := n - -((x - n) / 8)) (by omega) (by omega)]
    simp only [hx, decide_false, condF]
    (repeat' (first | with_reducible rfl | trivial | (refine cnd_i (fun h => ?_) (fun h => ?_)) | (refine And.intro ?_ ?_) | (intro h)))
    all_goals (simp_all)
    all_goals (try omega)
set_option maxHeartbeats 2000000 in
theorem rStep_ok : SoundEnt Try.prog rStep_e := by
  refine ent_of_ex (Γ := (conOf [])) (conOf_sound snil) (by kernel_rfl) Try.func14 (by kernel_rfl) (by kernel_rfl) (fun args rows caps res h ho => ?_)
  change rStep_go args rows caps = some res at h
  unfold rStep_go at h
  split at h
  · simp only [Option.some.injEq] at h
    subst h
    rename_i q0_ q1_ q2_ q3_
    obtain ⟨p0, p1, _⟩ := ho
    exact EX.of (rStep_tree q0_ q1_ q2_ q3_) (rStep_holds q0_ q1_ q2_ q3_ p0 p1)
  · cases h
def awake_res : CRes := ⟨[], .one (.cel (.bool (true))), []⟩
def awake_go : List TV → List RowA → List (List CV) → Option CRes := fun args rows caps =>
  match args, rows, caps with
  | [], [], [] => some (awake_res )
  | _, _, _ => none
def awake_e : Ent := ⟨9, [], awake_go⟩
set_option maxRecDepth 100000 in
theorem awake_tree  : ((Bool.true = Bool.true)) = EXD Try.prog (conOf [kStep_e]) Try.f9 [] [] [] (awake_res ) := by kernel_rfl
theorem awake_holds   : (Bool.true = Bool.true) := by
  decide +kernel
set_option maxHeartbeats 2000000 in
theorem awake_ok : SoundEnt Try.prog awake_e := by
  refine ent_of_ex (Γ := (conOf [kStep_e])) (conOf_sound (scons kStep_ok snil)) (by kernel_rfl) Try.func9 (by kernel_rfl) (by kernel_rfl) (fun args rows caps res h ho => ?_)
  change awake_go args rows caps = some res at h
  unfold awake_go at h
  split at h
  · simp only [Option.some.injEq] at h
    subst h
    skip
    skip
    exact EX.of (awake_tree ) (awake_holds )
  · cases h
theorem step_valid {r n q x : Int} (h : okS r n q x = true) : knockB (stR r n q x) (stN n x) (stQ n q x) = true := by
  simp only [okS, Bool.and_eq_true] at h
  have h1 := knockB_iff.1 h.1
  have h2 := intensityB_iff.1 h.2
  rw [knockB_iff]
  unfold stR stN stQ
  by_cases hk : knocks n x = true
  · simp only [hk, if_true]; omega
  · have hk2 : knocks n x = false := by simpa using hk
    simp only [hk2, Bool.false_eq_true, if_false]
    refine ⟨?_, ?_, by omega, by omega, ?_, ?_⟩ <;> split <;> omega
def steps_res (r : Int) (n : Int) (q : Int) (x : Int) : CRes := ⟨[wfI .i64 r, wfI .i64 n, wfI .i64 q, wfI .i64 x], .one (.cel (.bool (true))), []⟩
def steps_go : List TV → List RowA → List (List CV) → Option CRes := fun args rows caps =>
  match args, rows, caps with
  | [.agg [.int .i64 r, .int .i64 n, .int .i64 q], .cel (.int .i64 x)], [], [] => some (steps_res r n q x)
  | _, _, _ => none
def steps_e : Ent := ⟨3, [], steps_go⟩
set_option maxRecDepth 100000 in
theorem steps_tree (r : Int) (n : Int) (q : Int) (x : Int) : ((cnd (!((knockB r n q) == (knockB r n q)))
  (Bool.false = Bool.true)
  (cnd (!(knockB r n q))
    (((((decide ((if ((okS r n q x) = Bool.true) then (stR r n q x) else (0 : Int)) = (0 : Int))) && ((decide ((if ((okS r n q x) = Bool.true) then (stN n x) else (0 : Int)) = (0 : Int))) && ((decide ((if ((okS r n q x) = Bool.true) then (stQ n q x) else (0 : Int)) = (0 : Int))) && Bool.true))) && (!((okS r n q x) && (knocks n x)))) && (decide ((stErr r n q x) = (1 : Int)))) = Bool.true)
    (cnd (!(intensityB x))
      (((((decide ((if ((okS r n q x) = Bool.true) then (stR r n q x) else (0 : Int)) = (0 : Int))) && ((decide ((if ((okS r n q x) = Bool.true) then (stN n x) else (0 : Int)) = (0 : Int))) && ((decide ((if ((okS r n q x) = Bool.true) then (stQ n q x) else (0 : Int)) = (0 : Int))) && Bool.true))) && (!((okS r n q x) && (knocks n x)))) && (decide ((stErr r n q x) = (2 : Int)))) = Bool.true)
      (cnd (knockB r n q)
        (cnd (intensityB x)
          ((((((decide ((if ((okS r n q x) = Bool.true) then (stR r n q x) else (0 : Int)) = (stR r n q x))) && ((decide ((if ((okS r n q x) = Bool.true) then (stN n x) else (0 : Int)) = (stN n x))) && ((decide ((if ((okS r n q x) = Bool.true) then (stQ n q x) else (0 : Int)) = (stQ n q x))) && Bool.true))) && (((okS r n q x) && (knocks n x)) == (knocks n x))) && (decide ((stErr r n q x) = (0 : Int)))) && (knockB (if ((okS r n q x) = Bool.true) then (stR r n q x) else (0 : Int)) (if ((okS r n q x) = Bool.true) then (stN n x) else (0 : Int)) (if ((okS r n q x) = Bool.true) then (stQ n q x) else (0 : Int)))) = Bool.true)
          False)
        False))))) = EXD Try.prog (conOf [awake_e, kStep_e, valid_e, rValid_e, rInt_e, rStep_e]) Try.f3 [.agg [.int .i64 r, .int .i64 n, .int .i64 q], .cel (.int .i64 x)] [] [] (steps_res r n q x) := by kernel_rfl
theorem steps_holds (r : Int) (n : Int) (q : Int) (x : Int) (p0 : (wfI .i64 r) = true) (p1 : (wfI .i64 n) = true) (p2 : (wfI .i64 q) = true) (p3 : (wfI .i64 x) = true) : (cnd (!((knockB r n q) == (knockB r n q)))
  (Bool.false = Bool.true)
  (cnd (!(knockB r n q))
    (((((decide ((if ((okS r n q x) = Bool.true) then (stR r n q x) else (0 : Int)) = (0 : Int))) && ((decide ((if ((okS r n q x) = Bool.true) then (stN n x) else (0 : Int)) = (0 : Int))) && ((decide ((if ((okS r n q x) = Bool.true) then (stQ n q x) else (0 : Int)) = (0 : Int))) && Bool.true))) && (!((okS r n q x) && (knocks n x)))) && (decide ((stErr r n q x) = (1 : Int)))) = Bool.true)
    (cnd (!(intensityB x))
      (((((decide ((if ((okS r n q x) = Bool.true) then (stR r n q x) else (0 : Int)) = (0 : Int))) && ((decide ((if ((okS r n q x) = Bool.true) then (stN n x) else (0 : Int)) = (0 : Int))) && ((decide ((if ((okS r n q x) = Bool.true) then (stQ n q x) else (0 : Int)) = (0 : Int))) && Bool.true))) && (!((okS r n q x) && (knocks n x)))) && (decide ((stErr r n q x) = (2 : Int)))) = Bool.true)
      (cnd (knockB r n q)
        (cnd (intensityB x)
          ((((((decide ((if ((okS r n q x) = Bool.true) then (stR r n q x) else (0 : Int)) = (stR r n q x))) && ((decide ((if ((okS r n q x) = Bool.true) then (stN n x) else (0 : Int)) = (stN n x))) && ((decide ((if ((okS r n q x) = Bool.true) then (stQ n q x) else (0 : Int)) = (stQ n q x))) && Bool.true))) && (((okS r n q x) && (knocks n x)) == (knocks n x))) && (decide ((stErr r n q x) = (0 : Int)))) && (knockB (if ((okS r n q x) = Bool.true) then (stR r n q x) else (0 : Int)) (if ((okS r n q x) = Bool.true) then (stN n x) else (0 : Int)) (if ((okS r n q x) = Bool.true) then (stQ n q x) else (0 : Int)))) = Bool.true)
          False)
        False)))) := by
  by_cases ho : okS r n q x = true
  · have ho2 := ho
    simp only [okS, Bool.and_eq_true] at ho2
    have hv := step_valid ho
    simp only [ho, ho2.1, ho2.2, stErr, hv, if_true, cnd]
    simp
  · have ho2 : okS r n q x = false := by simpa using ho
    by_cases hk : knockB r n q = true
    · have hi : intensityB x = false := by simpa [okS, hk] using ho2
      simp [ho2, hk, hi, stErr, cnd]
    · have hk : knockB r n q = false := by simpa using hk
      simp [ho2, hk, stErr, cnd]
set_option maxHeartbeats 2000000 in
theorem steps_ok : SoundEnt Try.prog steps_e := by
  refine ent_of_ex (Γ := (conOf [awake_e, kStep_e, valid_e, rValid_e, rInt_e, rStep_e])) (conOf_sound (scons awake_ok (scons kStep_ok (scons valid_ok (scons rValid_ok (scons rInt_ok (scons rStep_ok snil))))))) (by kernel_rfl) Try.func3 (by kernel_rfl) (by kernel_rfl) (fun args rows caps res h ho => ?_)
  change steps_go args rows caps = some res at h
  unfold steps_go at h
  split at h
  · simp only [Option.some.injEq] at h
    subst h
    rename_i q0_ q1_ q2_ q3_
    obtain ⟨p0, p1, p2, p3, _⟩ := ho
    exact EX.of (steps_tree q0_ q1_ q2_ q3_) (steps_holds q0_ q1_ q2_ q3_ p0 p1 p2 p3)
  · cases h
def changes_res (r : Int) (n : Int) (q : Int) (x : Int) : CRes := ⟨[wfI .i64 r, wfI .i64 n, wfI .i64 q, wfI .i64 x], .one (.cel (.bool (true))), []⟩
def changes_go : List TV → List RowA → List (List CV) → Option CRes := fun args rows caps =>
  match args, rows, caps with
  | [.agg [.int .i64 r, .int .i64 n, .int .i64 q], .cel (.int .i64 x)], [], [] => some (changes_res r n q x)
  | _, _, _ => none
def changes_e : Ent := ⟨4, [], changes_go⟩
set_option maxRecDepth 100000 in
theorem changes_tree (r : Int) (n : Int) (q : Int) (x : Int) : ((cnd ((((!Bool.true) || (!(knockB r n q))) || (decide (x < (0 : Int)))) || (decide ((4095 : Int) < x)))
  (Bool.true = Bool.true)
  (cnd (((!(decide ((stErr r n q x) = (0 : Int)))) || (!(knockB (if ((okS r n q x) = Bool.true) then (stR r n q x) else (0 : Int)) (if ((okS r n q x) = Bool.true) then (stN n x) else (0 : Int)) (if ((okS r n q x) = Bool.true) then (stQ n q x) else (0 : Int))))) || (!(((okS r n q x) && (knocks n x)) == (decide ((Go.IntKind.wrap Go.IntKind.i64 ((Go.IntKind.wrap Go.IntKind.i64 ((3 : Int) * n)) + (40 : Int))) < x)))))
    (Bool.false = Bool.true)
    (cnd ((okS r n q x) && (knocks n x))
      ((((decide ((if ((okS r n q x) = Bool.true) then (stR r n q x) else (0 : Int)) = (gmin (960 : Int) (Go.IntKind.wrap Go.IntKind.i64 (r + (96 : Int)))))) && (decide ((if ((okS r n q x) = Bool.true) then (stQ n q x) else (0 : Int)) = (0 : Int)))) && (decide ((if ((okS r n q x) = Bool.true) then (stN n x) else (0 : Int)) = n))) = Bool.true)
      (cnd (decide (q = (99 : Int)))
        ((((((decide (n ≤ (if ((okS r n q x) = Bool.true) then (stN n x) else (0 : Int)))) && (decide ((if ((okS r n q x) = Bool.true) then (stN n x) else (0 : Int)) ≤ x))) || ((decide (x ≤ (if ((okS r n q x) = Bool.true) then (stN n x) else (0 : Int)))) && (decide ((if ((okS r n q x) = Bool.true) then (stN n x) else (0 : Int)) ≤ n)))) && (decide ((if ((okS r n q x) = Bool.true) then (stQ n q x) else (0 : Int)) = (0 : Int)))) && (decide ((if ((okS r n q x) = Bool.true) then (stR r n q x) else (0 : Int)) = (gmax (0 : Int) (Go.IntKind.wrap Go.IntKind.i64 (r - (16 : Int))))))) = Bool.true)
        ((((((decide (n ≤ (if ((okS r n q x) = Bool.true) then (stN n x) else (0 : Int)))) && (decide ((if ((okS r n q x) = Bool.true) then (stN n x) else (0 : Int)) ≤ x))) || ((decide (x ≤ (if ((okS r n q x) = Bool.true) then (stN n x) else (0 : Int)))) && (decide ((if ((okS r n q x) = Bool.true) then (stN n x) else (0 : Int)) ≤ n)))) && (decide ((if ((okS r n q x) = Bool.true) then (stQ n q x) else (0 : Int)) = (Go.IntKind.wrap Go.IntKind.i64 (q + (1 : Int)))))) && (decide ((if ((okS r n q x) = Bool.true) then (stR r n q x) else (0 : Int)) = r))) = Bool.true)))))) = EXD Try.prog (conOf [awake_e, kStep_e, valid_e]) Try.f4 [.agg [.int .i64 r, .int .i64 n, .int .i64 q], .cel (.int .i64 x)] [] [] (changes_res r n q x) := by kernel_rfl
theorem changes_holds (r : Int) (n : Int) (q : Int) (x : Int) (p0 : (wfI .i64 r) = true) (p1 : (wfI .i64 n) = true) (p2 : (wfI .i64 q) = true) (p3 : (wfI .i64 x) = true) : (cnd ((((!Bool.true) || (!(knockB r n q))) || (decide (x < (0 : Int)))) || (decide ((4095 : Int) < x)))
  (Bool.true = Bool.true)
  (cnd (((!(decide ((stErr r n q x) = (0 : Int)))) || (!(knockB (if ((okS r n q x) = Bool.true) then (stR r n q x) else (0 : Int)) (if ((okS r n q x) = Bool.true) then (stN n x) else (0 : Int)) (if ((okS r n q x) = Bool.true) then (stQ n q x) else (0 : Int))))) || (!(((okS r n q x) && (knocks n x)) == (decide ((Go.IntKind.wrap Go.IntKind.i64 ((Go.IntKind.wrap Go.IntKind.i64 ((3 : Int) * n)) + (40 : Int))) < x)))))
    (Bool.false = Bool.true)
    (cnd ((okS r n q x) && (knocks n x))
      ((((decide ((if ((okS r n q x) = Bool.true) then (stR r n q x) else (0 : Int)) = (gmin (960 : Int) (Go.IntKind.wrap Go.IntKind.i64 (r + (96 : Int)))))) && (decide ((if ((okS r n q x) = Bool.true) then (stQ n q x) else (0 : Int)) = (0 : Int)))) && (decide ((if ((okS r n q x) = Bool.true) then (stN n x) else (0 : Int)) = n))) = Bool.true)
      (cnd (decide (q = (99 : Int)))
        ((((((decide (n ≤ (if ((okS r n q x) = Bool.true) then (stN n x) else (0 : Int)))) && (decide ((if ((okS r n q x) = Bool.true) then (stN n x) else (0 : Int)) ≤ x))) || ((decide (x ≤ (if ((okS r n q x) = Bool.true) then (stN n x) else (0 : Int)))) && (decide ((if ((okS r n q x) = Bool.true) then (stN n x) else (0 : Int)) ≤ n)))) && (decide ((if ((okS r n q x) = Bool.true) then (stQ n q x) else (0 : Int)) = (0 : Int)))) && (decide ((if ((okS r n q x) = Bool.true) then (stR r n q x) else (0 : Int)) = (gmax (0 : Int) (Go.IntKind.wrap Go.IntKind.i64 (r - (16 : Int))))))) = Bool.true)
        ((((((decide (n ≤ (if ((okS r n q x) = Bool.true) then (stN n x) else (0 : Int)))) && (decide ((if ((okS r n q x) = Bool.true) then (stN n x) else (0 : Int)) ≤ x))) || ((decide (x ≤ (if ((okS r n q x) = Bool.true) then (stN n x) else (0 : Int)))) && (decide ((if ((okS r n q x) = Bool.true) then (stN n x) else (0 : Int)) ≤ n)))) && (decide ((if ((okS r n q x) = Bool.true) then (stQ n q x) else (0 : Int)) = (Go.IntKind.wrap Go.IntKind.i64 (q + (1 : Int)))))) && (decide ((if ((okS r n q x) = Bool.true) then (stR r n q x) else (0 : Int)) = r))) = Bool.true))))) := by
  by_cases ho : okS r n q x = true
  · have ho2 := ho
    simp only [okS, Bool.and_eq_true] at ho2
    have hv := step_valid ho
    have h1 := knockB_iff.1 ho2.1
    have h2 := intensityB_iff.1 ho2.2
    simp only [ho, ho2.1, stErr, hv, if_true, cnd]
    rw [w64 (n := 3 * n) (by omega) (by omega), w64 (n := 3 * n + 40) (by omega) (by omega), w64 (n := q + 1) (by omega) (by omega), w64 (n := r + 96) (by omega) (by omega), w64 (n := r - 16) (by omega) (by omega)]
    simp only [gmin_eq, gmax_eq]
    have j1 : decide (x < 0) = false := by simp; omega
    have j2 : decide (4095 < x) = false := by simp; omega
    have kk : decide (3 * n + 40 < x) = knocks n x := rfl
    simp only [j1, j2, ho2.2, kk]
    unfold stR stN stQ
    by_cases hk : knocks n x = true
    · simp [hk, cnd]; omega
    · have hk2 : knocks n x = false := by simpa using hk
      by_cases hq : q = 99
      · simp [hk2, hq, cnd]; omega
      · simp [hk2, hq, cnd]; omega
  · have h : (((!true || !knockB r n q) || decide (x < 0)) || decide (4095 < x)) = true := by
      cases hk : knockB r n q with
      | false => simp
      | true =>
        have hi : ¬ intensityB x = true := fun e => ho (by simp [okS, hk, e])
        rw [intensityB_iff] at hi
        simp
        omega
    rw [h]
    simp [cnd]
set_option maxHeartbeats 2000000 in
theorem changes_ok : SoundEnt Try.prog changes_e := by
  refine ent_of_ex (Γ := (conOf [awake_e, kStep_e, valid_e])) (conOf_sound (scons awake_ok (scons kStep_ok (scons valid_ok snil)))) (by kernel_rfl) Try.func4 (by kernel_rfl) (by kernel_rfl) (fun args rows caps res h ho => ?_)
  change changes_go args rows caps = some res at h
  unfold changes_go at h
  split at h
  · simp only [Option.some.injEq] at h
    subst h
    rename_i q0_ q1_ q2_ q3_
    obtain ⟨p0, p1, p2, p3, _⟩ := ho
    exact EX.of (changes_tree q0_ q1_ q2_ q3_) (changes_holds q0_ q1_ q2_ q3_ p0 p1 p2 p3)
  · cases h
end Go.Proofs.Ytoklfnonbfcdlaa

