/- The wheel's synchronization: states, a step, runs. -/
import Derived.Test.YthfliohfkhnpiaaT5
namespace Go.Proofs.Ythfliohfkhnpiaa
set_option linter.unusedVariables false
set_option linter.unusedSimpArgs false
open Go.RowKit

def gapB (M no p : Int) : Bool := if M = 1 then decide (3 * no < 2 * p) else decide (2 * no < p)
def fitB (p q : Int) : Bool := decide (4 * max (p - q) (q - p) ≤ q)
def expc (T M th no : Int) : Int := if th = T - M - 1 then (M + 1) * no else no
def sV (T M mo th la pe no te : Int) : Bool :=
  if mo = 0 then decide (th = 0) && decide (la = 0) && decide (pe = 0) && decide (no = 0) && decide (te = 0)
  else if mo = 1 then decide (th = 0) && isT la && (if te = 0 then decide (pe = 0) && decide (no = 0) else (decide (te = 1) || decide (te = 2)) && decide (1 ≤ pe) && decide (pe ≤ la) && decide (no = pe))
  else if mo = 2 then decide (0 ≤ th) && decide (th < T - M) && isT la && decide (1 ≤ pe) && decide (pe ≤ la) && decide (1 ≤ no) && decide (no ≤ pe) && decide (te = 0) else false
def sVd (T M mo th la pe no te : Int) : Bool := wValid T M && sV T M mo th la pe no te
def stp (T M mo th la pe no te t : Int) : List Int :=
  if mo = 1 then (if te = 2 ∧ gapB M no (t - la) = true then [2, 0, t, t - la, (t - la) / (M + 1), 0] else [1, 0, t, t - la, t - la, if te ≠ 0 ∧ fitB (t - la) no = true then 2 else 1])
  else if mo = 2 then (if fitB (t - la) (expc T M th no) = false then [0, 0, 0, 0, 0, 0] else if th = T - M - 1 then [2, 0, t, t - la, (t - la) / (M + 1), 0] else [2, th + 1, t, t - la, t - la, 0])
  else [1, 0, t, 0, 0, 0]
theorem quo_two {x y : Int} (h0 : 0 ≤ x) (h1 : 1 ≤ y) : 0 ≤ x / y ∧ x / y ≤ x := ⟨Int.ediv_nonneg h0 (by omega), Int.ediv_le_self _ h0⟩
theorem sV_cases {T M mo th la pe no te : Int} (h : sV T M mo th la pe no te = true) : (mo = 0 ∧ th = 0 ∧ la = 0 ∧ pe = 0 ∧ no = 0 ∧ te = 0) ∨
    (mo = 1 ∧ th = 0 ∧ (0 ≤ la ∧ la ≤ 1099511627776) ∧ ((te = 0 ∧ pe = 0 ∧ no = 0) ∨ ((te = 1 ∨ te = 2) ∧ 1 ≤ pe ∧ pe ≤ la ∧ no = pe))) ∨
    (mo = 2 ∧ (0 ≤ th ∧ th < T - M) ∧ (0 ≤ la ∧ la ≤ 1099511627776) ∧ (1 ≤ pe ∧ pe ≤ la) ∧ (1 ≤ no ∧ no ≤ pe) ∧ te = 0) := by
  unfold sV at h
  by_cases h0 : mo = 0
  · rw [if_pos h0] at h
    simp only [Bool.and_eq_true, decide_eq_true_eq] at h
    exact .inl ⟨h0, h.1.1.1.1, h.1.1.1.2, h.1.1.2, h.1.2, h.2⟩
  rw [if_neg h0] at h
  by_cases h1 : mo = 1
  · rw [if_pos h1] at h
    simp only [Bool.and_eq_true, decide_eq_true_eq, isT_iff] at h
    refine .inr (.inl ⟨h1, h.1.1, h.1.2, ?_⟩)
    have h3 := h.2
    by_cases he : te = 0
    · rw [if_pos he] at h3
      simp only [Bool.and_eq_true, decide_eq_true_eq] at h3
      exact .inl ⟨he, h3.1, h3.2⟩
    · rw [if_neg he] at h3
      simp only [Bool.and_eq_true, Bool.or_eq_true, decide_eq_true_eq] at h3
      exact .inr ⟨h3.1.1.1, h3.1.1.2, h3.1.2, h3.2⟩
  rw [if_neg h1] at h
  by_cases h2 : mo = 2
  · rw [if_pos h2] at h
    simp only [Bool.and_eq_true, decide_eq_true_eq, isT_iff] at h
    exact .inr (.inr ⟨h2, ⟨h.1.1.1.1.1.1.1, h.1.1.1.1.1.1.2⟩, h.1.1.1.1.1.2, ⟨h.1.1.1.1.2, h.1.1.1.2⟩, ⟨h.1.1.2, h.1.2⟩, h.2⟩)
  · rw [if_neg h2] at h
    cases h
def q (l : List Int) (k : Nat) : Int := l.getD k 0
def instant_res (t : Int) : CRes := ⟨[], .one (.cel (.bool (isT t))), []⟩
def instant_go : List TV → List RowA → List (List CV) → Option CRes := fun args rows caps =>
  match args, rows, caps with
  | [.cel (.int .i64 t)], [], [] => some (instant_res t)
  | _, _, _ => none
def instant_e : Ent := ⟨60, [], instant_go⟩
set_option maxRecDepth 100000 in
theorem instant_tree (t : Int) : ((((decide ((0 : Int) ≤ t)) && (decide (t ≤ (1099511627776 : Int)))) = (isT t))) = EXD Try.prog (conOf []) Try.f60 [.cel (.int .i64 t)] [] [] (instant_res t) := by kernel_rfl
theorem instant_holds (t : Int)  : (((decide ((0 : Int) ≤ t)) && (decide (t ≤ (1099511627776 : Int)))) = (isT t)) := by
  rfl
set_option maxHeartbeats 2000000 in
theorem instant_ok : SoundEnt Try.prog instant_e := by
  refine ent_of_ex (Γ := (conOf [])) (conOf_sound snil) (by kernel_rfl) Try.func60 (by kernel_rfl) (by kernel_rfl) (fun args rows caps res h ho => ?_)
  change instant_go args rows caps = some res at h
  unfold instant_go at h
  split at h
  · simp only [Option.some.injEq] at h
    subst h
    rename_i q0_
    skip
    exact EX.of (instant_tree q0_) (instant_holds q0_)
  · cases h
def sgap_res (T : Int) (M : Int) (no : Int) (p : Int) : CRes := ⟨[decide (-2199023255552 ≤ no), decide (no ≤ 2199023255552), decide (-2199023255552 ≤ p), decide (p ≤ 2199023255552)], .one (.cel (.bool (gapB M no p))), []⟩
def sgap_go : List TV → List RowA → List (List CV) → Option CRes := fun args rows caps =>
  match args, rows, caps with
  | [.agg [.int .i64 T, .int .i64 M], .cel (.int .i64 no), .cel (.int .i64 p)], [], [] => some (sgap_res T M no p)
  | _, _, _ => none
def sgap_e : Ent := ⟨102, [], sgap_go⟩
set_option maxRecDepth 100000 in
theorem sgap_tree (T : Int) (M : Int) (no : Int) (p : Int) : ((cnd (decide (M = (1 : Int)))
  ((decide ((Go.IntKind.wrap Go.IntKind.i64 ((3 : Int) * no)) < (Go.IntKind.wrap Go.IntKind.i64 ((2 : Int) * p)))) = (gapB M no p))
  ((decide ((Go.IntKind.wrap Go.IntKind.i64 ((2 : Int) * no)) < p)) = (gapB M no p)))) = EXD Try.prog (conOf []) Try.f102 [.agg [.int .i64 T, .int .i64 M], .cel (.int .i64 no), .cel (.int .i64 p)] [] [] (sgap_res T M no p) := by kernel_rfl
theorem sgap_holds (T : Int) (M : Int) (no : Int) (p : Int) (p0 : (decide (-2199023255552 ≤ no)) = true) (p1 : (decide (no ≤ 2199023255552)) = true) (p2 : (decide (-2199023255552 ≤ p)) = true) (p3 : (decide (p ≤ 2199023255552)) = true) : (cnd (decide (M = (1 : Int)))
  ((decide ((Go.IntKind.wrap Go.IntKind.i64 ((3 : Int) * no)) < (Go.IntKind.wrap Go.IntKind.i64 ((2 : Int) * p)))) = (gapB M no p))
  ((decide ((Go.IntKind.wrap Go.IntKind.i64 ((2 : Int) * no)) < p)) = (gapB M no p))) := by
  simp only [decide_eq_true_eq] at p0 p1 p2 p3
  rw [w64 (n := 3 * no) (by omega) (by omega), w64 (n := 2 * p) (by omega) (by omega), w64 (n := 2 * no) (by omega) (by omega)]
  unfold gapB
  by_cases h : M = 1
  · simp [h, cnd]
  · simp [h, cnd]
set_option maxHeartbeats 2000000 in
theorem sgap_ok : SoundEnt Try.prog sgap_e := by
  refine ent_of_ex (Γ := (conOf [])) (conOf_sound snil) (by kernel_rfl) Try.func102 (by kernel_rfl) (by kernel_rfl) (fun args rows caps res h ho => ?_)
  change sgap_go args rows caps = some res at h
  unfold sgap_go at h
  split at h
  · simp only [Option.some.injEq] at h
    subst h
    rename_i q0_ q1_ q2_ q3_
    obtain ⟨p0, p1, p2, p3, _⟩ := ho
    exact EX.of (sgap_tree q0_ q1_ q2_ q3_) (sgap_holds q0_ q1_ q2_ q3_ p0 p1 p2 p3)
  · cases h
def fits_res (p : Int) (q0 : Int) : CRes := ⟨[decide (-2199023255552 ≤ p), decide (p ≤ 2199023255552), decide (-8796093022208 ≤ q0), decide (q0 ≤ 8796093022208)], .one (.cel (.bool (fitB p q0))), []⟩
def fits_go : List TV → List RowA → List (List CV) → Option CRes := fun args rows caps =>
  match args, rows, caps with
  | [.cel (.int .i64 p), .cel (.int .i64 q0)], [], [] => some (fits_res p q0)
  | _, _, _ => none
def fits_e : Ent := ⟨103, [], fits_go⟩
set_option maxRecDepth 100000 in
theorem fits_tree (p : Int) (q0 : Int) : (((decide ((Go.IntKind.wrap Go.IntKind.i64 ((4 : Int) * (gmax (Go.IntKind.wrap Go.IntKind.i64 (p - q0)) (Go.IntKind.wrap Go.IntKind.i64 (q0 - p))))) ≤ q0)) = (fitB p q0))) = EXD Try.prog (conOf []) Try.f103 [.cel (.int .i64 p), .cel (.int .i64 q0)] [] [] (fits_res p q0) := by kernel_rfl
theorem fits_holds (p : Int) (q0 : Int) (p0 : (decide (-2199023255552 ≤ p)) = true) (p1 : (decide (p ≤ 2199023255552)) = true) (p2 : (decide (-8796093022208 ≤ q0)) = true) (p3 : (decide (q0 ≤ 8796093022208)) = true) : ((decide ((Go.IntKind.wrap Go.IntKind.i64 ((4 : Int) * (gmax (Go.IntKind.wrap Go.IntKind.i64 (p - q0)) (Go.IntKind.wrap Go.IntKind.i64 (q0 - p))))) ≤ q0)) = (fitB p q0)) := by
  simp only [decide_eq_true_eq] at p0 p1 p2 p3
  rw [w64 (n := p - q0) (by omega) (by omega), w64 (n := q0 - p) (by omega) (by omega)]
  have e : gmax (p - q0) (q0 - p) = max (p - q0) (q0 - p) := by unfold gmax; omega
  rw [e, w64 (n := 4 * max (p - q0) (q0 - p)) (by omega) (by omega)]
  rfl
set_option maxHeartbeats 2000000 in
theorem fits_ok : SoundEnt Try.prog fits_e := by
  refine ent_of_ex (Γ := (conOf [])) (conOf_sound snil) (by kernel_rfl) Try.func103 (by kernel_rfl) (by kernel_rfl) (fun args rows caps res h ho => ?_)
  change fits_go args rows caps = some res at h
  unfold fits_go at h
  split at h
  · simp only [Option.some.injEq] at h
    subst h
    rename_i q0_ q1_
    obtain ⟨p0, p1, p2, p3, _⟩ := ho
    exact EX.of (fits_tree q0_ q1_) (fits_holds q0_ q1_ p0 p1 p2 p3)
  · cases h
def slast_res (T : Int) (M : Int) (mo : Int) (th : Int) (la : Int) (pe : Int) (no : Int) (te : Int) : CRes := ⟨[wValid T M], .one (.cel (.bool (decide (th = T - M - 1)))), []⟩
def slast_go : List TV → List RowA → List (List CV) → Option CRes := fun args rows caps =>
  match args, rows, caps with
  | [.agg [.int .i64 T, .int .i64 M], .agg [.int .i64 mo, .int .i64 th, .int .i64 la, .int .i64 pe, .int .i64 no, .int .i64 te]], [], [] => some (slast_res T M mo th la pe no te)
  | _, _, _ => none
def slast_e : Ent := ⟨104, [], slast_go⟩
set_option maxRecDepth 100000 in
theorem slast_tree (T : Int) (M : Int) (mo : Int) (th : Int) (la : Int) (pe : Int) (no : Int) (te : Int) : (((decide (th = (Go.IntKind.wrap Go.IntKind.i64 ((tth T M) - (1 : Int))))) = (decide (th = ((T - M) - (1 : Int)))))) = EXD Try.prog (conOf [wteeth_e]) Try.f104 [.agg [.int .i64 T, .int .i64 M], .agg [.int .i64 mo, .int .i64 th, .int .i64 la, .int .i64 pe, .int .i64 no, .int .i64 te]] [] [] (slast_res T M mo th la pe no te) := by kernel_rfl
theorem slast_holds (T : Int) (M : Int) (mo : Int) (th : Int) (la : Int) (pe : Int) (no : Int) (te : Int) (p0 : (wValid T M) = true) : ((decide (th = (Go.IntKind.wrap Go.IntKind.i64 ((tth T M) - (1 : Int))))) = (decide (th = ((T - M) - (1 : Int))))) := by
  have hh := wValid_iff.1 p0
  have e : tth T M = T - M := by unfold tth; rw [if_pos p0]
  rw [e, w64 (n := T - M - 1) (by omega) (by omega)]
set_option maxHeartbeats 2000000 in
theorem slast_ok : SoundEnt Try.prog slast_e := by
  refine ent_of_ex (Γ := (conOf [wteeth_e])) (conOf_sound (scons wteeth_ok snil)) (by kernel_rfl) Try.func104 (by kernel_rfl) (by kernel_rfl) (fun args rows caps res h ho => ?_)
  change slast_go args rows caps = some res at h
  unfold slast_go at h
  split at h
  · simp only [Option.some.injEq] at h
    subst h
    rename_i q0_ q1_ q2_ q3_ q4_ q5_ q6_ q7_
    obtain ⟨p0, _⟩ := ho
    exact EX.of (slast_tree q0_ q1_ q2_ q3_ q4_ q5_ q6_ q7_) (slast_holds q0_ q1_ q2_ q3_ q4_ q5_ q6_ q7_ p0)
  · cases h
def expected_res (T : Int) (M : Int) (mo : Int) (th : Int) (la : Int) (pe : Int) (no : Int) (te : Int) : CRes := ⟨[wValid T M, decide (-2199023255552 ≤ no), decide (no ≤ 2199023255552)], .one (.cel (.int .i64 (expc T M th no))), []⟩
def expected_go : List TV → List RowA → List (List CV) → Option CRes := fun args rows caps =>
  match args, rows, caps with
  | [.agg [.int .i64 T, .int .i64 M], .agg [.int .i64 mo, .int .i64 th, .int .i64 la, .int .i64 pe, .int .i64 no, .int .i64 te]], [], [] => some (expected_res T M mo th la pe no te)
  | _, _, _ => none
def expected_e : Ent := ⟨101, [], expected_go⟩
set_option maxRecDepth 100000 in
theorem expected_tree (T : Int) (M : Int) (mo : Int) (th : Int) (la : Int) (pe : Int) (no : Int) (te : Int) : ((cnd (wValid T M)
  (cnd (decide (th = ((T - M) - (1 : Int))))
    ((Go.IntKind.wrap Go.IntKind.i64 ((Go.IntKind.wrap Go.IntKind.i64 (M + (1 : Int))) * no)) = (expc T M th no))
    (no = (expc T M th no)))
  False)) = EXD Try.prog (conOf [slast_e]) Try.f101 [.agg [.int .i64 T, .int .i64 M], .agg [.int .i64 mo, .int .i64 th, .int .i64 la, .int .i64 pe, .int .i64 no, .int .i64 te]] [] [] (expected_res T M mo th la pe no te) := by kernel_rfl
theorem expected_holds (T : Int) (M : Int) (mo : Int) (th : Int) (la : Int) (pe : Int) (no : Int) (te : Int) (p0 : (wValid T M) = true) (p1 : (decide (-2199023255552 ≤ no)) = true) (p2 : (decide (no ≤ 2199023255552)) = true) : (cnd (wValid T M)
  (cnd (decide (th = ((T - M) - (1 : Int))))
    ((Go.IntKind.wrap Go.IntKind.i64 ((Go.IntKind.wrap Go.IntKind.i64 (M + (1 : Int))) * no)) = (expc T M th no))
    (no = (expc T M th no)))
  False) := by
  have hh := wValid_iff.1 p0
  simp only [decide_eq_true_eq] at p1 p2
  have e : tth T M = T - M := by unfold tth; rw [if_pos p0]
  have hm : -8796093022208 ≤ (M + 1) * no ∧ (M + 1) * no ≤ 8796093022208 := by
    rcases hh.1 with h | h
    · rw [h]; omega
    · rw [h]; omega
  rw [w64 (n := M + 1) (by omega) (by omega), w64 (n := (M + 1) * no) (by omega) (by omega)]
  unfold expc
  by_cases h : th = T - M - 1
  · simp [h, p0, cnd]
  · simp [h, p0, cnd]
set_option maxHeartbeats 2000000 in
theorem expected_ok : SoundEnt Try.prog expected_e := by
  refine ent_of_ex (Γ := (conOf [slast_e])) (conOf_sound (scons slast_ok snil)) (by kernel_rfl) Try.func101 (by kernel_rfl) (by kernel_rfl) (fun args rows caps res h ho => ?_)
  change expected_go args rows caps = some res at h
  unfold expected_go at h
  split at h
  · simp only [Option.some.injEq] at h
    subst h
    rename_i q0_ q1_ q2_ q3_ q4_ q5_ q6_ q7_
    obtain ⟨p0, p1, p2, _⟩ := ho
    exact EX.of (expected_tree q0_ q1_ q2_ q3_ q4_ q5_ q6_ q7_) (expected_holds q0_ q1_ q2_ q3_ q4_ q5_ q6_ q7_ p0 p1 p2)
  · cases h
def sstep_res (T : Int) (M : Int) (mo : Int) (th : Int) (la : Int) (pe : Int) (no : Int) (te : Int) (t : Int) : CRes := ⟨[sVd T M mo th la pe no te, isT t, (decide (mo = 0) || decide (la < t))], .one (.agg [.int .i64 (q (stp T M mo th la pe no te t) 0), .int .i64 (q (stp T M mo th la pe no te t) 1), .int .i64 (q (stp T M mo th la pe no te t) 2), .int .i64 (q (stp T M mo th la pe no te t) 3), .int .i64 (q (stp T M mo th la pe no te t) 4), .int .i64 (q (stp T M mo th la pe no te t) 5)]), []⟩
def sstep_go : List TV → List RowA → List (List CV) → Option CRes := fun args rows caps =>
  match args, rows, caps with
  | [.agg [.int .i64 T, .int .i64 M], .agg [.int .i64 mo, .int .i64 th, .int .i64 la, .int .i64 pe, .int .i64 no, .int .i64 te], .cel (.int .i64 t)], [], [] => some (sstep_res T M mo th la pe no te t)
  | _, _, _ => none
def sstep_e : Ent := ⟨62, [], sstep_go⟩
set_option maxRecDepth 100000 in
theorem sstep_tree (T : Int) (M : Int) (mo : Int) (th : Int) (la : Int) (pe : Int) (no : Int) (te : Int) (t : Int) : ((cnd (decide (mo = (1 : Int)))
  (cnd ((!((decide (te = (2 : Int))) == Bool.true)) || (decide ((-(2199023255552 : Int)) ≤ no)))
    (cnd ((!((decide (te = (2 : Int))) == Bool.true)) || (decide (no ≤ (2199023255552 : Int))))
      (cnd ((!((decide (te = (2 : Int))) == Bool.true)) || (decide ((-(2199023255552 : Int)) ≤ (Go.IntKind.wrap Go.IntKind.i64 (t - la)))))
        (cnd ((!((decide (te = (2 : Int))) == Bool.true)) || (decide ((Go.IntKind.wrap Go.IntKind.i64 (t - la)) ≤ (2199023255552 : Int))))
          (cnd ((decide (te = (2 : Int))) && (gapB M no (Go.IntKind.wrap Go.IntKind.i64 (t - la))))
            (cnd (decide ((Go.IntKind.wrap Go.IntKind.i64 (M + (1 : Int))) ≠ (0 : Int)))
              (((2 : Int) = (q (stp T M mo th la pe no te t) 0)) ∧ (((0 : Int) = (q (stp T M mo th la pe no te t) 1)) ∧ ((t = (q (stp T M mo th la pe no te t) 2)) ∧ (((Go.IntKind.wrap Go.IntKind.i64 (t - la)) = (q (stp T M mo th la pe no te t) 3)) ∧ (((Go.IntKind.wrap Go.IntKind.i64 (Int.tdiv (Go.IntKind.wrap Go.IntKind.i64 (t - la)) (Go.IntKind.wrap Go.IntKind.i64 (M + (1 : Int))))) = (q (stp T M mo th la pe no te t) 4)) ∧ ((0 : Int) = (q (stp T M mo th la pe no te t) 5)))))))
              False)
            (cnd ((!((!(decide (te = (0 : Int)))) == Bool.true)) || (decide ((-(2199023255552 : Int)) ≤ (Go.IntKind.wrap Go.IntKind.i64 (t - la)))))
              (cnd ((!((!(decide (te = (0 : Int)))) == Bool.true)) || (decide ((Go.IntKind.wrap Go.IntKind.i64 (t - la)) ≤ (2199023255552 : Int))))
                (cnd ((!((!(decide (te = (0 : Int)))) == Bool.true)) || (decide ((-(8796093022208 : Int)) ≤ no)))
                  (cnd ((!((!(decide (te = (0 : Int)))) == Bool.true)) || (decide (no ≤ (8796093022208 : Int))))
                    (cnd ((!(decide (te = (0 : Int)))) && (fitB (Go.IntKind.wrap Go.IntKind.i64 (t - la)) no))
                      (((1 : Int) = (q (stp T M mo th la pe no te t) 0)) ∧ (((0 : Int) = (q (stp T M mo th la pe no te t) 1)) ∧ ((t = (q (stp T M mo th la pe no te t) 2)) ∧ (((Go.IntKind.wrap Go.IntKind.i64 (t - la)) = (q (stp T M mo th la pe no te t) 3)) ∧ (((Go.IntKind.wrap Go.IntKind.i64 (t - la)) = (q (stp T M mo th la pe no te t) 4)) ∧ ((2 : Int) = (q (stp T M mo th la pe no te t) 5)))))))
                      (((1 : Int) = (q (stp T M mo th la pe no te t) 0)) ∧ (((0 : Int) = (q (stp T M mo th la pe no te t) 1)) ∧ ((t = (q (stp T M mo th la pe no te t) 2)) ∧ (((Go.IntKind.wrap Go.IntKind.i64 (t - la)) = (q (stp T M mo th la pe no te t) 3)) ∧ (((Go.IntKind.wrap Go.IntKind.i64 (t - la)) = (q (stp T M mo th la pe no te t) 4)) ∧ ((1 : Int) = (q (stp T M mo th la pe no te t) 5))))))))
                    False)
                  False)
                False)
              False))
          False)
        False)
      False)
    False)
  (cnd (decide (mo = (2 : Int)))
    (cnd (wValid T M)
      (cnd (decide ((-(2199023255552 : Int)) ≤ no))
        (cnd (decide (no ≤ (2199023255552 : Int)))
          (cnd (decide ((-(2199023255552 : Int)) ≤ (Go.IntKind.wrap Go.IntKind.i64 (t - la))))
            (cnd (decide ((Go.IntKind.wrap Go.IntKind.i64 (t - la)) ≤ (2199023255552 : Int)))
              (cnd (decide ((-(8796093022208 : Int)) ≤ (expc T M th no)))
                (cnd (decide ((expc T M th no) ≤ (8796093022208 : Int)))
                  (cnd (!(fitB (Go.IntKind.wrap Go.IntKind.i64 (t - la)) (expc T M th no)))
                    (((0 : Int) = (q (stp T M mo th la pe no te t) 0)) ∧ (((0 : Int) = (q (stp T M mo th la pe no te t) 1)) ∧ (((0 : Int) = (q (stp T M mo th la pe no te t) 2)) ∧ (((0 : Int) = (q (stp T M mo th la pe no te t) 3)) ∧ (((0 : Int) = (q (stp T M mo th la pe no te t) 4)) ∧ ((0 : Int) = (q (stp T M mo th la pe no te t) 5)))))))
                    (cnd (wValid T M)
                      (cnd (decide (th = ((T - M) - (1 : Int))))
                        (cnd (decide ((Go.IntKind.wrap Go.IntKind.i64 (M + (1 : Int))) ≠ (0 : Int)))
                          (((2 : Int) = (q (stp T M mo th la pe no te t) 0)) ∧ (((0 : Int) = (q (stp T M mo th la pe no te t) 1)) ∧ ((t = (q (stp T M mo th la pe no te t) 2)) ∧ (((Go.IntKind.wrap Go.IntKind.i64 (t - la)) = (q (stp T M mo th la pe no te t) 3)) ∧ (((Go.IntKind.wrap Go.IntKind.i64 (Int.tdiv (Go.IntKind.wrap Go.IntKind.i64 (t - la)) (Go.IntKind.wrap Go.IntKind.i64 (M + (1 : Int))))) = (q (stp T M mo th la pe no te t) 4)) ∧ ((0 : Int) = (q (stp T M mo th la pe no te t) 5)))))))
                          False)
                        (((2 : Int) = (q (stp T M mo th la pe no te t) 0)) ∧ (((Go.IntKind.wrap Go.IntKind.i64 (th + (1 : Int))) = (q (stp T M mo th la pe no te t) 1)) ∧ ((t = (q (stp T M mo th la pe no te t) 2)) ∧ (((Go.IntKind.wrap Go.IntKind.i64 (t - la)) = (q (stp T M mo th la pe no te t) 3)) ∧ (((Go.IntKind.wrap Go.IntKind.i64 (t - la)) = (q (stp T M mo th la pe no te t) 4)) ∧ ((0 : Int) = (q (stp T M mo th la pe no te t) 5))))))))
                      False))
                  False)
                False)
              False)
            False)
          False)
        False)
      False)
    (((1 : Int) = (q (stp T M mo th la pe no te t) 0)) ∧ (((0 : Int) = (q (stp T M mo th la pe no te t) 1)) ∧ ((t = (q (stp T M mo th la pe no te t) 2)) ∧ (((0 : Int) = (q (stp T M mo th la pe no te t) 3)) ∧ (((0 : Int) = (q (stp T M mo th la pe no te t) 4)) ∧ ((0 : Int) = (q (stp T M mo th la pe no te t) 5)))))))))) = EXD Try.prog (conOf [sgap_e, fits_e, expected_e, slast_e]) Try.f62 [.agg [.int .i64 T, .int .i64 M], .agg [.int .i64 mo, .int .i64 th, .int .i64 la, .int .i64 pe, .int .i64 no, .int .i64 te], .cel (.int .i64 t)] [] [] (sstep_res T M mo th la pe no te t) := by kernel_rfl
theorem sstep_holds (T : Int) (M : Int) (mo : Int) (th : Int) (la : Int) (pe : Int) (no : Int) (te : Int) (t : Int) (p0 : (sVd T M mo th la pe no te) = true) (p1 : (isT t) = true) (p2 : ((decide (mo = 0) || decide (la < t))) = true) : (cnd (decide (mo = (1 : Int)))
  (cnd ((!((decide (te = (2 : Int))) == Bool.true)) || (decide ((-(2199023255552 : Int)) ≤ no)))
    (cnd ((!((decide (te = (2 : Int))) == Bool.true)) || (decide (no ≤ (2199023255552 : Int))))
      (cnd ((!((decide (te = (2 : Int))) == Bool.true)) || (decide ((-(2199023255552 : Int)) ≤ (Go.IntKind.wrap Go.IntKind.i64 (t - la)))))
        (cnd ((!((decide (te = (2 : Int))) == Bool.true)) || (decide ((Go.IntKind.wrap Go.IntKind.i64 (t - la)) ≤ (2199023255552 : Int))))
          (cnd ((decide (te = (2 : Int))) && (gapB M no (Go.IntKind.wrap Go.IntKind.i64 (t - la))))
            (cnd (decide ((Go.IntKind.wrap Go.IntKind.i64 (M + (1 : Int))) ≠ (0 : Int)))
              (((2 : Int) = (q (stp T M mo th la pe no te t) 0)) ∧ (((0 : Int) = (q (stp T M mo th la pe no te t) 1)) ∧ ((t = (q (stp T M mo th la pe no te t) 2)) ∧ (((Go.IntKind.wrap Go.IntKind.i64 (t - la)) = (q (stp T M mo th la pe no te t) 3)) ∧ (((Go.IntKind.wrap Go.IntKind.i64 (Int.tdiv (Go.IntKind.wrap Go.IntKind.i64 (t - la)) (Go.IntKind.wrap Go.IntKind.i64 (M + (1 : Int))))) = (q (stp T M mo th la pe no te t) 4)) ∧ ((0 : Int) = (q (stp T M mo th la pe no te t) 5)))))))
              False)
            (cnd ((!((!(decide (te = (0 : Int)))) == Bool.true)) || (decide ((-(2199023255552 : Int)) ≤ (Go.IntKind.wrap Go.IntKind.i64 (t - la)))))
              (cnd ((!((!(decide (te = (0 : Int)))) == Bool.true)) || (decide ((Go.IntKind.wrap Go.IntKind.i64 (t - la)) ≤ (2199023255552 : Int))))
                (cnd ((!((!(decide (te = (0 : Int)))) == Bool.true)) || (decide ((-(8796093022208 : Int)) ≤ no)))
                  (cnd ((!((!(decide (te = (0 : Int)))) == Bool.true)) || (decide (no ≤ (8796093022208 : Int))))
                    (cnd ((!(decide (te = (0 : Int)))) && (fitB (Go.IntKind.wrap Go.IntKind.i64 (t - la)) no))
                      (((1 : Int) = (q (stp T M mo th la pe no te t) 0)) ∧ (((0 : Int) = (q (stp T M mo th la pe no te t) 1)) ∧ ((t = (q (stp T M mo th la pe no te t) 2)) ∧ (((Go.IntKind.wrap Go.IntKind.i64 (t - la)) = (q (stp T M mo th la pe no te t) 3)) ∧ (((Go.IntKind.wrap Go.IntKind.i64 (t - la)) = (q (stp T M mo th la pe no te t) 4)) ∧ ((2 : Int) = (q (stp T M mo th la pe no te t) 5)))))))
                      (((1 : Int) = (q (stp T M mo th la pe no te t) 0)) ∧ (((0 : Int) = (q (stp T M mo th la pe no te t) 1)) ∧ ((t = (q (stp T M mo th la pe no te t) 2)) ∧ (((Go.IntKind.wrap Go.IntKind.i64 (t - la)) = (q (stp T M mo th la pe no te t) 3)) ∧ (((Go.IntKind.wrap Go.IntKind.i64 (t - la)) = (q (stp T M mo th la pe no te t) 4)) ∧ ((1 : Int) = (q (stp T M mo th la pe no te t) 5))))))))
                    False)
                  False)
                False)
              False))
          False)
        False)
      False)
    False)
  (cnd (decide (mo = (2 : Int)))
    (cnd (wValid T M)
      (cnd (decide ((-(2199023255552 : Int)) ≤ no))
        (cnd (decide (no ≤ (2199023255552 : Int)))
          (cnd (decide ((-(2199023255552 : Int)) ≤ (Go.IntKind.wrap Go.IntKind.i64 (t - la))))
            (cnd (decide ((Go.IntKind.wrap Go.IntKind.i64 (t - la)) ≤ (2199023255552 : Int)))
              (cnd (decide ((-(8796093022208 : Int)) ≤ (expc T M th no)))
                (cnd (decide ((expc T M th no) ≤ (8796093022208 : Int)))
                  (cnd (!(fitB (Go.IntKind.wrap Go.IntKind.i64 (t - la)) (expc T M th no)))
                    (((0 : Int) = (q (stp T M mo th la pe no te t) 0)) ∧ (((0 : Int) = (q (stp T M mo th la pe no te t) 1)) ∧ (((0 : Int) = (q (stp T M mo th la pe no te t) 2)) ∧ (((0 : Int) = (q (stp T M mo th la pe no te t) 3)) ∧ (((0 : Int) = (q (stp T M mo th la pe no te t) 4)) ∧ ((0 : Int) = (q (stp T M mo th la pe no te t) 5)))))))
                    (cnd (wValid T M)
                      (cnd (decide (th = ((T - M) - (1 : Int))))
                        (cnd (decide ((Go.IntKind.wrap Go.IntKind.i64 (M + (1 : Int))) ≠ (0 : Int)))
                          (((2 : Int) = (q (stp T M mo th la pe no te t) 0)) ∧ (((0 : Int) = (q (stp T M mo th la pe no te t) 1)) ∧ ((t = (q (stp T M mo th la pe no te t) 2)) ∧ (((Go.IntKind.wrap Go.IntKind.i64 (t - la)) = (q (stp T M mo th la pe no te t) 3)) ∧ (((Go.IntKind.wrap Go.IntKind.i64 (Int.tdiv (Go.IntKind.wrap Go.IntKind.i64 (t - la)) (Go.IntKind.wrap Go.IntKind.i64 (M + (1 : Int))))) = (q (stp T M mo th la pe no te t) 4)) ∧ ((0 : Int) = (q (stp T M mo th la pe no te t) 5)))))))
                          False)
                        (((2 : Int) = (q (stp T M mo th la pe no te t) 0)) ∧ (((Go.IntKind.wrap Go.IntKind.i64 (th + (1 : Int))) = (q (stp T M mo th la pe no te t) 1)) ∧ ((t = (q (stp T M mo th la pe no te t) 2)) ∧ (((Go.IntKind.wrap Go.IntKind.i64 (t - la)) = (q (stp T M mo th la pe no te t) 3)) ∧ (((Go.IntKind.wrap Go.IntKind.i64 (t - la)) = (q (stp T M mo th la pe no te t) 4)) ∧ ((0 : Int) = (q (stp T M mo th la pe no te t) 5))))))))
                      False))
                  False)
                False)
              False)
            False)
          False)
        False)
      False)
    (((1 : Int) = (q (stp T M mo th la pe no te t) 0)) ∧ (((0 : Int) = (q (stp T M mo th la pe no te t) 1)) ∧ ((t = (q (stp T M mo th la pe no te t) 2)) ∧ (((0 : Int) = (q (stp T M mo th la pe no te t) 3)) ∧ (((0 : Int) = (q (stp T M mo th la pe no te t) 4)) ∧ ((0 : Int) = (q (stp T M mo th la pe no te t) 5))))))))) := by
  obtain ⟨hw, hs⟩ := (Bool.and_eq_true _ _ ▸ p0 : wValid T M = true ∧ sV T M mo th la pe no te = true)
  have hh := wValid_iff.1 hw
  have ht := isT_iff.1 p1
  simp only [Bool.or_eq_true, decide_eq_true_eq] at p2
  have c := sV_cases hs
  have e : tth T M = T - M := by unfold tth; rw [if_pos hw]
  have hx : -8796093022208 ≤ expc T M th no ∧ expc T M th no ≤ 8796093022208 := by
    unfold expc
    rcases hh.1 with h | h
    · rw [h]; split <;> omega
    · rw [h]; split <;> omega
  have jx1 : decide (-8796093022208 ≤ expc T M th no) = true := decide_eq_true hx.1
  have jx2 : decide (expc T M th no ≤ 8796093022208) = true := decide_eq_true hx.2
  have jM : decide (M + 1 ≠ 0) = true := by rw [decide_eq_true_eq]; omega
  have j1 : decide (-2199023255552 ≤ no) = true := by rw [decide_eq_true_eq]; omega
  have j2 : decide (no ≤ 2199023255552) = true := by rw [decide_eq_true_eq]; omega
  have j3 : decide (-8796093022208 ≤ no) = true := by rw [decide_eq_true_eq]; omega
  have j4 : decide (no ≤ 8796093022208) = true := by rw [decide_eq_true_eq]; omega
  rw [w64 (n := t - la) (by omega) (by omega), w64 (n := M + 1) (by omega) (by omega), w64 (n := th + 1) (by omega) (by omega)]
  have j5 : decide (-2199023255552 ≤ t - la) = true := by rw [decide_eq_true_eq]; omega
  have j6 : decide (t - la ≤ 2199023255552) = true := by rw [decide_eq_true_eq]; omega
  simp only [jx1, jx2, jM, j1, j2, j3, j4, j5, j6, hw, Bool.or_true, cnd]
  skip
  rcases c with c | c | c
  · obtain ⟨c1, c2, c3, c4, c5, c6⟩ := c
    subst c1
    simp [stp, q, cnd]
  · obtain ⟨c1, c2, c3, c4⟩ := c
    subst c1
    have hlt : 0 < t - la := by omega
    have hq := quo_two (x := t - la) (y := M + 1) (by omega) (by omega)
    rw [tdiv_pos (by omega : 0 ≤ t - la), w64 (n := (t - la) / (M + 1)) (by omega) (by omega)]
    by_cases h2 : te = 2
    · have hno : 1 ≤ no ∧ no ≤ 1099511627776 := by omega
      have ha : t - la ≤ 1099511627776 := by omega
      have hb : 1 ≤ t - la := by omega
      cases hg : gapB M no (t - la) <;> cases hf : fitB (t - la) no <;> simp [stp, q, h2, hg, hf, hno, ha, hb, cnd]
    · by_cases h0 : te = 0
      · simp [stp, q, h0, cnd]
      · cases hf : fitB (t - la) no <;> simp [stp, q, h2, h0, hf, cnd]
  · obtain ⟨c1, c2, c3, c4⟩ := c
    subst c1
    have hq := quo_two (x := t - la) (y := M + 1) (by omega) (by omega)
    rw [tdiv_pos (by omega : 0 ≤ t - la), w64 (n := (t - la) / (M + 1)) (by omega) (by omega)]
    cases hf : fitB (t - la) (expc T M th no) with
    | false => simp [stp, q, hf, cnd]
    | true =>
      by_cases hl : th = T - M - 1
      · subst hl; simp [stp, q, hf, cnd]
      · simp [stp, q, hf, hl, cnd]
set_option maxHeartbeats 2000000 in
theorem sstep_ok : SoundEnt Try.prog sstep_e := by
  refine ent_of_ex (Γ := (conOf [sgap_e, fits_e, expected_e, slast_e])) (conOf_sound (scons sgap_ok (scons fits_ok (scons expected_ok (scons slast_ok snil))))) (by kernel_rfl) Try.func62 (by kernel_rfl) (by kernel_rfl) (fun args rows caps res h ho => ?_)
  change sstep_go args rows caps = some res at h
  unfold sstep_go at h
  split at h
  · simp only [Option.some.injEq] at h
    subst h
    rename_i q0_ q1_ q2_ q3_ q4_ q5_ q6_ q7_ q8_
    obtain ⟨p0, p1, p2, _⟩ := ho
    exact EX.of (sstep_tree q0_ q1_ q2_ q3_ q4_ q5_ q6_ q7_ q8_) (sstep_holds q0_ q1_ q2_ q3_ q4_ q5_ q6_ q7_ q8_ p0 p1 p2)
  · cases h
/-- The states after each edge. -/
def runS (T M : Int) : List Int → List Int → List (List Int)
  | _, [] => []
  | s, t :: l => stp T M (q s 0) (q s 1) (q s 2) (q s 3) (q s 4) (q s 5) t :: runS T M (stp T M (q s 0) (q s 1) (q s 2) (q s 3) (q s 4) (q s 5) t) l
def s0 : List Int := [0, 0, 0, 0, 0, 0]
theorem stp_len (T M mo th la pe no te t : Int) : [q (stp T M mo th la pe no te t) 0, q (stp T M mo th la pe no te t) 1, q (stp T M mo th la pe no te t) 2, q (stp T M mo th la pe no te t) 3, q (stp T M mo th la pe no te t) 4, q (stp T M mo th la pe no te t) 5] = stp T M mo th la pe no te t := by
  unfold stp
  split
  · split <;> rfl
  · split
    · split
      · rfl
      · split <;> rfl
    · rfl
theorem sV_one {T M la pe no te : Int} (h1 : 0 ≤ la ∧ la ≤ 1099511627776) (h2 : (te = 0 ∧ pe = 0 ∧ no = 0) ∨ ((te = 1 ∨ te = 2) ∧ 1 ≤ pe ∧ pe ≤ la ∧ no = pe)) : sV T M 1 0 la pe no te = true := by
  unfold sV
  rw [if_neg (by decide), if_pos rfl]
  have hT := isT_iff.2 h1
  rcases h2 with ⟨rfl, rfl, rfl⟩ | ⟨h2, h3, h4, rfl⟩
  · simp [hT]
  · have : ¬ te = 0 := by omega
    rw [if_neg this]
    simp [hT, h2, h3, h4]
theorem sV_two {T M th la pe no : Int} (h0 : 0 ≤ th ∧ th < T - M) (h1 : 0 ≤ la ∧ la ≤ 1099511627776) (h2 : 1 ≤ pe ∧ pe ≤ la) (h3 : 1 ≤ no ∧ no ≤ pe) : sV T M 2 th la pe no 0 = true := by
  unfold sV
  rw [if_neg (by decide), if_neg (by decide), if_pos rfl]
  simp [isT_iff.2 h1, h0, h2, h3]
theorem stp_ok {T M mo th la pe no te t : Int} (h : sVd T M mo th la pe no te = true) (ht : isT t = true) (hl : mo = 0 ∨ la < t) :
    sVd T M (q (stp T M mo th la pe no te t) 0) (q (stp T M mo th la pe no te t) 1) (q (stp T M mo th la pe no te t) 2) (q (stp T M mo th la pe no te t) 3) (q (stp T M mo th la pe no te t) 4) (q (stp T M mo th la pe no te t) 5) = true ∧ (q (stp T M mo th la pe no te t) 0 = 0 ∨ q (stp T M mo th la pe no te t) 2 = t) := by
  obtain ⟨hw, hs⟩ := (Bool.and_eq_true _ _ ▸ h : wValid T M = true ∧ sV T M mo th la pe no te = true)
  have hh := wValid_iff.1 hw
  have ht := isT_iff.1 ht
  have c := sV_cases hs
  unfold sVd
  rw [hw, Bool.true_and]
  rcases c with c | c | c
  · obtain ⟨c1, c2, c3, c4, c5, c6⟩ := c
    have e : stp T M mo th la pe no te t = [1, 0, t, 0, 0, 0] := by unfold stp; rw [if_neg (by omega), if_neg (by omega)]
    rw [e]
    exact ⟨sV_one ht (.inl ⟨rfl, rfl, rfl⟩), .inr rfl⟩
  · obtain ⟨c1, c2, c3, c4⟩ := c
    by_cases hg : te = 2 ∧ gapB M no (t - la) = true
    · have e : stp T M mo th la pe no te t = [2, 0, t, t - la, (t - la) / (M + 1), 0] := by unfold stp; rw [if_pos c1, if_pos hg]
      rw [e]
      have hp : M + 1 ≤ t - la := by
        have hg2 := hg.2
        unfold gapB at hg2
        rcases hh.1 with hm | hm
        · rw [if_pos hm] at hg2; simp at hg2; omega
        · rw [if_neg (by omega)] at hg2; simp at hg2; omega
      have hq := quo_two (x := t - la) (y := M + 1) (by omega) (by omega)
      have hq1 : 1 ≤ (t - la) / (M + 1) := Int.le_ediv_of_mul_le (by omega) (by omega)
      exact ⟨show sV T M 2 0 t (t - la) ((t - la) / (M + 1)) 0 = true from sV_two ⟨by omega, by omega⟩ ht ⟨by omega, by omega⟩ ⟨hq1, hq.2⟩, .inr rfl⟩
    · have e : stp T M mo th la pe no te t = [1, 0, t, t - la, t - la, if te ≠ 0 ∧ fitB (t - la) no = true then 2 else 1] := by unfold stp; rw [if_pos c1, if_neg hg]
      rw [e]
      refine ⟨sV_one ht (.inr ⟨?_, by simp [q]; omega, by simp [q]; omega, rfl⟩), .inr rfl⟩
      show (if te ≠ 0 ∧ fitB (t - la) no = true then (2 : Int) else 1) = 1 ∨ (if te ≠ 0 ∧ fitB (t - la) no = true then (2 : Int) else 1) = 2
      split <;> simp
  · obtain ⟨c1, c2, c3, c4, c5, c6⟩ := c
    cases hf : fitB (t - la) (expc T M th no) with
    | false =>
      have e : stp T M mo th la pe no te t = [0, 0, 0, 0, 0, 0] := by unfold stp; rw [if_neg (by omega), if_pos c1, if_pos hf]
      rw [e]
      exact ⟨rfl, .inl rfl⟩
    | true =>
      have hf2 := hf
      simp only [fitB, decide_eq_true_eq] at hf2
      by_cases hl : th = T - M - 1
      · have e : stp T M mo th la pe no te t = [2, 0, t, t - la, (t - la) / (M + 1), 0] := by unfold stp; rw [if_neg (by omega), if_pos c1, if_neg (by rw [hf]; simp), if_pos hl]
        rw [e]
        have hp : M + 1 ≤ t - la := by
          unfold expc at hf2
          rw [if_pos hl] at hf2
          rcases hh.1 with hm | hm
          · rw [hm] at hf2 ⊢; omega
          · rw [hm] at hf2 ⊢; omega
        have hq := quo_two (x := t - la) (y := M + 1) (by omega) (by omega)
        have hq1 : 1 ≤ (t - la) / (M + 1) := Int.le_ediv_of_mul_le (by omega) (by omega)
        exact ⟨show sV T M 2 0 t (t - la) ((t - la) / (M + 1)) 0 = true from sV_two ⟨by omega, by omega⟩ ht ⟨by omega, by omega⟩ ⟨hq1, hq.2⟩, .inr rfl⟩
      · have e : stp T M mo th la pe no te t = [2, th + 1, t, t - la, t - la, 0] := by unfold stp; rw [if_neg (by omega), if_pos c1, if_neg (by rw [hf]; simp), if_neg hl]
        rw [e]
        exact ⟨show sV T M 2 (th + 1) t (t - la) (t - la) 0 = true from sV_two ⟨by omega, by omega⟩ ht ⟨by omega, by omega⟩ ⟨by omega, by omega⟩, .inr rfl⟩
def rlam_res (t : Int) : CRes := ⟨[], .one (.cel (.bool (!isT t))), []⟩
def rlam_go : List TV → List RowA → List (List CV) → Option CRes := fun args rows caps =>
  match args, rows, caps with
  | [.cel (.int .i64 t)], [], [] => some (rlam_res t)
  | _, _, _ => none
def rlam_e : Ent := ⟨59, [], rlam_go⟩
set_option maxRecDepth 100000 in
theorem rlam_tree (t : Int) : (((!(isT t)) = (!(isT t)))) = EXD Try.prog (conOf [instant_e]) Try.f59 [.cel (.int .i64 t)] [] [] (rlam_res t) := by kernel_rfl
theorem rlam_holds (t : Int)  : ((!(isT t)) = (!(isT t))) := by
  rfl
set_option maxHeartbeats 2000000 in
theorem rlam_ok : SoundEnt Try.prog rlam_e := by
  refine ent_of_ex (Γ := (conOf [instant_e])) (conOf_sound (scons instant_ok snil)) (by kernel_rfl) Try.func59 (by kernel_rfl) (by kernel_rfl) (fun args rows caps res h ho => ?_)
  change rlam_go args rows caps = some res at h
  unfold rlam_go at h
  split at h
  · simp only [Option.some.injEq] at h
    subst h
    rename_i q0_
    skip
    exact EX.of (rlam_tree q0_) (rlam_holds q0_)
  · cases h
def rlam_ifn_res (l : List Int) : CRes := ⟨[decide ((l.length : Int) ≤ 1000000)], .one (.cel (.int .i64 (fb (fun x => !isT x) l))), []⟩
def rlam_ifn_go : List TV → List RowA → List (List CV) → Option CRes := fun args rows caps =>
  match args, rows, caps with
  | [.cel (.row 0), .cel (.fn 59)], [.ints .i64 l], [] => some (rlam_ifn_res l)
  | _, _, _ => none
def rlam_ifn_e : Ent := ⟨94, [.ints .i64 []], rlam_ifn_go⟩
def rlam_ifn_L1_F (l : List Int) (i : Int) : St := ⟨19, [], [(8, (.one (.cel (.int .i64 i)))), (7, (.one (.cel (.int .i64 (((List.length l) : Nat) : Int))))), (4, (.one (.cel (.int .i64 (0 : Int))))), (0, (.one (.cel (.row 0)))), (1, (.one (.cel (.fn 59))))], [], [⟨(.ints .i64 l), none⟩], 0⟩
def rlam_ifn_L1_I (l : List Int) (i : Int) : Prop := (0 ≤ i ∧ i ≤ l.length ∧ (l.length : Int) ≤ 1000000) ∧ (fb (fun x => !isT x) l = (if fb (fun x => !isT x) (l.drop i.toNat) = -1 then -1 else fb (fun x => !isT x) (l.drop i.toNat) + i))
def rlam_ifn_L1_m (l : List Int) (i : Int) : Nat := (l.length - i).toNat
def rlam_ifn_L1_N (l : List Int) (i' : Int) (st_ : St) : Prop := getI st_ 8 fun i => rlam_ifn_L1_I l i ∧ rlam_ifn_L1_m l i < rlam_ifn_L1_m l i' ∧ SubA st_ (rlam_ifn_L1_F l i)
def rlam_ifn_L1_E (l : List Int) (st_ : St) : Prop := getI st_ 8 fun i => rlam_ifn_L1_I l i ∧ SubA st_ (rlam_ifn_L1_F l i)
def rlam_ifn_L1_S1 (l : List Int) : St := ⟨19, [], [(8, (.one (.cel (.int .i64 (0 : Int))))), (7, (.one (.cel (.int .i64 (((List.length l) : Nat) : Int))))), (6, (.one (.cel (.row 0)))), (4, (.one (.cel (.int .i64 (0 : Int))))), (0, (.one (.cel (.row 0)))), (1, (.one (.cel (.fn 59))))], [], [⟨(.ints .i64 l), none⟩], 0⟩
def rlam_ifn_L1_T (l : List Int) (i : Int) : Prop := (cnd (decide (i < (((List.length l) : Nat) : Int)))
  (cnd (decide ((0 : Int) ≤ i))
    (cnd (decide (i < (((List.length l) : Nat) : Int)))
      (cnd (!(isT (List.getD l (Int.toNat i) (0 : Int))))
        (i = (fb (fun x => (!(isT x))) l))
        ((rlam_ifn_L1_I l (Go.IntKind.wrap Go.IntKind.i64 (i + (1 : Int)))) ∧ (((rlam_ifn_L1_m l (Go.IntKind.wrap Go.IntKind.i64 (i + (1 : Int)))) < (rlam_ifn_L1_m l i)) ∧ (((Go.IntKind.wrap Go.IntKind.i64 (i + (1 : Int))) = (Go.IntKind.wrap Go.IntKind.i64 (i + (1 : Int)))) ∧ (((((List.length l) : Nat) : Int) = (((List.length l) : Nat) : Int)) ∧ (((0 : Int) = (0 : Int)) ∧ (True ∧ (True ∧ ((l = l) ∧ True)))))))))
      False)
    False)
  ((-(1 : Int)) = (fb (fun x => (!(isT x))) l)))
set_option maxRecDepth 100000 in
theorem rlam_ifn_L1_tree (l : List Int) (i : Int) : rlam_ifn_L1_T l i = ex Try.prog (conOf [rlam_e]) (subC (bodyOf Try.f94) [1, 0, 1, 0, 0]) (nextE (rlam_ifn_L1_N l i) (kont Try.prog (conOf [rlam_e]) (bodyOf Try.f94) [1, 0, 1, 0] (retPost Try.prog Try.f94 1 (rlam_ifn_res l)))) (rlam_ifn_L1_F l i) := by kernel_rfl
set_option maxRecDepth 100000 in
theorem rlam_ifn_L1_round (l : List Int) (i : Int) (p0 : (decide ((l.length : Int) ≤ 1000000)) = true) (hI_L1 : rlam_ifn_L1_I l i) : rlam_ifn_L1_T l i := by
  obtain ⟨⟨a1, a2, a3⟩, a4⟩ := hI_L1
  unfold rlam_ifn_L1_T
  by_cases hi : i < l.length
  · have hd := drop_consG (d := 0) (l := l) (i := i) a1 hi
    obtain ⟨b1, b2, b3⟩ := fb_bd (fun x => !isT x) (l.drop (i.toNat + 1))
    have e1 : (i + 1).toNat = i.toNat + 1 := by omega
    rw [hd] at a4
    rw [w64 (n := i + 1) (by omega) (by omega), decide_eq_true hi, decide_eq_true a1]
    have hF : ∀ i' : Int, 0 ≤ i' ∧ i' ≤ l.length ∧ (l.length : Int) ≤ 1000000 → fb (fun x => !isT x) l = (if fb (fun x => !isT x) (l.drop i'.toNat) = -1 then -1 else fb (fun x => !isT x) (l.drop i'.toNat) + i') → rlam_ifn_L1_I l i' := fun i' h1 h2 => ⟨h1, h2⟩
    have hμ : rlam_ifn_L1_m l (i + 1) < rlam_ifn_L1_m l i := by unfold rlam_ifn_L1_m; omega
    generalize l.getD i.toNat 0 = x at *
    rw [fb_cons] at a4
    cases hx : (!isT x) with
    | true =>
      rw [hx] at a4
      rw [if_pos rfl, if_neg (by decide), Int.zero_add] at a4
      exact a4.symm
    | false =>
      rw [hx] at a4
      refine ⟨hF _ ⟨by omega, by omega, a3⟩ ?_, hμ, by simp⟩
      rw [e1]
      simp only [Bool.false_eq_true, if_false] at a4
      generalize fb (fun x => !isT x) (l.drop (i.toNat + 1)) = y at *
      by_cases hy : y = -1
      · rw [if_pos hy] at a4 ⊢
        simpa using a4
      · rw [if_neg hy] at a4 ⊢
        rw [if_neg (by omega)] at a4
        omega
  · rw [decide_eq_false hi]
    have e : l.drop i.toNat = [] := List.drop_eq_nil_of_le (by omega)
    rw [e] at a4
    simp [fb] at a4
    exact a4.symm
set_option maxRecDepth 100000 in
theorem rlam_ifn_L1_entry1 (l : List Int) : (((rlam_ifn_L1_I l (0 : Int)) ∧ (((0 : Int) = (0 : Int)) ∧ (((((List.length l) : Nat) : Int) = (((List.length l) : Nat) : Int)) ∧ (((0 : Int) = (0 : Int)) ∧ (True ∧ (True ∧ ((l = l) ∧ True)))))))) = rlam_ifn_L1_E l (rlam_ifn_L1_S1 l) := by kernel_rfl
theorem rlam_ifn_L1_1 (l : List Int) (p0 : (decide ((l.length : Int) ≤ 1000000)) = true) (h : ((rlam_ifn_L1_I l (0 : Int)) ∧ (((0 : Int) = (0 : Int)) ∧ (((((List.length l) : Nat) : Int) = (((List.length l) : Nat) : Int)) ∧ (((0 : Int) = (0 : Int)) ∧ (True ∧ (True ∧ ((l = l) ∧ True)))))))) : LoopP (ex Try.prog (conOf [rlam_e]) (subC (bodyOf Try.f94) [1, 0, 1, 0, 0])) (kont Try.prog (conOf [rlam_e]) (bodyOf Try.f94) [1, 0, 1, 0] (retPost Try.prog Try.f94 1 (rlam_ifn_res l))) (rlam_ifn_L1_S1 l) := by
  have hE : rlam_ifn_L1_E l (rlam_ifn_L1_S1 l) := Eq.mp (rlam_ifn_L1_entry1 l) h
  unfold rlam_ifn_L1_E at hE
  obtain ⟨i, hE⟩ := getI_of hE
  refine loop_of (α := (Int)) (fun xx_ => rlam_ifn_L1_F l xx_) (fun xx_ => rlam_ifn_L1_I l xx_) (fun xx_ => rlam_ifn_L1_m l xx_) (fun xx_ => rlam_ifn_L1_N l xx_) (fun xx_ => rlam_ifn_L1_T l xx_) (fun xx_ s_ h => ?_) ⟨i, hE⟩ (fun xx_ => rlam_ifn_L1_tree l xx_) (fun xx_ hI => rlam_ifn_L1_round l xx_ p0 hI)
  unfold rlam_ifn_L1_N at h
  obtain ⟨i, h⟩ := getI_of h
  exact ⟨i, h⟩
set_option maxRecDepth 100000 in
theorem rlam_ifn_tree (l : List Int) : ((LoopP (ex Try.prog (conOf [rlam_e]) (subC (bodyOf Try.f94) [1, 0, 1, 0, 0])) (kont Try.prog (conOf [rlam_e]) (bodyOf Try.f94) [1, 0, 1, 0] (retPost Try.prog Try.f94 1 (rlam_ifn_res l))) (rlam_ifn_L1_S1 l))) = EXD Try.prog (conOf [rlam_e]) Try.f94 [.cel (.row 0), .cel (.fn 59)] [.ints .i64 l] [] (rlam_ifn_res l) := by kernel_rfl
theorem rlam_ifn_holds (l : List Int) (p0 : (decide ((l.length : Int) ≤ 1000000)) = true) : (LoopP (ex Try.prog (conOf [rlam_e]) (subC (bodyOf Try.f94) [1, 0, 1, 0, 0])) (kont Try.prog (conOf [rlam_e]) (bodyOf Try.f94) [1, 0, 1, 0] (retPost Try.prog Try.f94 1 (rlam_ifn_res l))) (rlam_ifn_L1_S1 l)) := by
  have q0 := p0
  simp only [decide_eq_true_eq] at p0
  have b := (fb_bd (fun x => !isT x) l).1
  refine rlam_ifn_L1_1 l q0  ⟨⟨⟨by omega, by omega, by omega⟩, ?_⟩, by simp⟩
  simp
set_option maxHeartbeats 2000000 in
theorem rlam_ifn_ok : SoundEnt Try.prog rlam_ifn_e := by
  refine ent_of_ex (Γ := (conOf [rlam_e])) (conOf_sound (scons rlam_ok snil)) (by kernel_rfl) Try.func94 (by kernel_rfl) (by kernel_rfl) (fun args rows caps res h ho => ?_)
  change rlam_ifn_go args rows caps = some res at h
  unfold rlam_ifn_go at h
  split at h
  · simp only [Option.some.injEq] at h
    subst h
    rename_i q0_
    obtain ⟨p0, _⟩ := ho
    exact EX.of (rlam_ifn_tree q0_) (rlam_ifn_holds q0_ p0)
  · cases h
def rlam_cfn_res (l : List Int) : CRes := ⟨[decide ((l.length : Int) ≤ 1000000)], .one (.cel (.bool (l.any (fun x => !isT x)))), []⟩
def rlam_cfn_go : List TV → List RowA → List (List CV) → Option CRes := fun args rows caps =>
  match args, rows, caps with
  | [.cel (.row 0), .cel (.fn 59)], [.ints .i64 l], [] => some (rlam_cfn_res l)
  | _, _, _ => none
def rlam_cfn_e : Ent := ⟨42, [.ints .i64 []], rlam_cfn_go⟩
set_option maxRecDepth 100000 in
theorem rlam_cfn_tree (l : List Int) : ((cnd (decide ((((List.length l) : Nat) : Int) ≤ (1000000 : Int)))
  ((decide ((0 : Int) ≤ (fb (fun x => (!(isT x))) l))) = (List.any l (fun x => (!(isT x)))))
  False)) = EXD Try.prog (conOf [rlam_ifn_e]) Try.f42 [.cel (.row 0), .cel (.fn 59)] [.ints .i64 l] [] (rlam_cfn_res l) := by kernel_rfl
theorem rlam_cfn_holds (l : List Int) (p0 : (decide ((l.length : Int) ≤ 1000000)) = true) : (cnd (decide ((((List.length l) : Nat) : Int) ≤ (1000000 : Int)))
  ((decide ((0 : Int) ≤ (fb (fun x => (!(isT x))) l))) = (List.any l (fun x => (!(isT x)))))
  False) := by
  obtain ⟨b1, b2, b3⟩ := fb_bd (fun x => !isT x) l
  rw [p0]
  show decide (0 ≤ fb (fun x => !isT x) l) = l.any (fun x => !isT x)
  cases h : l.any (fun x => !isT x) with
  | false => rw [b3.2 h]; rfl
  | true =>
    have : ¬ fb (fun x => !isT x) l = -1 := fun e => by rw [b3.1 e] at h; cases h
    rw [decide_eq_true_eq]
    omega
set_option maxHeartbeats 2000000 in
theorem rlam_cfn_ok : SoundEnt Try.prog rlam_cfn_e := by
  refine ent_of_ex (Γ := (conOf [rlam_ifn_e])) (conOf_sound (scons rlam_ifn_ok snil)) (by kernel_rfl) Try.func42 (by kernel_rfl) (by kernel_rfl) (fun args rows caps res h ho => ?_)
  change rlam_cfn_go args rows caps = some res at h
  unfold rlam_cfn_go at h
  split at h
  · simp only [Option.some.injEq] at h
    subst h
    rename_i q0_
    obtain ⟨p0, _⟩ := ho
    exact EX.of (rlam_cfn_tree q0_) (rlam_cfn_holds q0_ p0)
  · cases h
def snew_res : CRes := ⟨[], .one (.agg [.int .i64 (0), .int .i64 (0), .int .i64 (0), .int .i64 (0), .int .i64 (0), .int .i64 (0)]), []⟩
def snew_go : List TV → List RowA → List (List CV) → Option CRes := fun args rows caps =>
  match args, rows, caps with
  | [], [], [] => some (snew_res )
  | _, _, _ => none
def snew_e : Ent := ⟨61, [], snew_go⟩
set_option maxRecDepth 100000 in
theorem snew_tree  : ((((0 : Int) = (0 : Int)) ∧ (((0 : Int) = (0 : Int)) ∧ (((0 : Int) = (0 : Int)) ∧ (((0 : Int) = (0 : Int)) ∧ (((0 : Int) = (0 : Int)) ∧ ((0 : Int) = (0 : Int)))))))) = EXD Try.prog (conOf []) Try.f61 [] [] [] (snew_res ) := by kernel_rfl
theorem snew_holds   : (((0 : Int) = (0 : Int)) ∧ (((0 : Int) = (0 : Int)) ∧ (((0 : Int) = (0 : Int)) ∧ (((0 : Int) = (0 : Int)) ∧ (((0 : Int) = (0 : Int)) ∧ ((0 : Int) = (0 : Int))))))) := by
  exact ⟨rfl, rfl, rfl, rfl, rfl, rfl⟩
set_option maxHeartbeats 2000000 in
theorem snew_ok : SoundEnt Try.prog snew_e := by
  refine ent_of_ex (Γ := (conOf [])) (conOf_sound snil) (by kernel_rfl) Try.func61 (by kernel_rfl) (by kernel_rfl) (fun args rows caps res h ho => ?_)
  change snew_go args rows caps = some res at h
  unfold snew_go at h
  split at h
  · simp only [Option.some.injEq] at h
    subst h
    skip
    skip
    exact EX.of (snew_tree ) (snew_holds )
  · cases h
def srun_res (T : Int) (M : Int) (l : List Int) : CRes := ⟨[], .tup [.cel (.row 1), .cel (.int .i64 (if wValid T M && vE l then 0 else 1))], [.recs [.int .i64, .int .i64, .int .i64, .int .i64, .int .i64, .int .i64] (if wValid T M && vE l then runS T M s0 l else [])]⟩
def srun_go : List TV → List RowA → List (List CV) → Option CRes := fun args rows caps =>
  match args, rows, caps with
  | [.agg [.int .i64 T, .int .i64 M], .cel (.row 0)], [.ints .i64 l], [] => some (srun_res T M l)
  | _, _, _ => none
def srun_e : Ent := ⟨20, [.ints .i64 []], srun_go⟩
def srun_L1_F (T : Int) (M : Int) (l : List Int) (i : Int) : St := ⟨56, [], [(6, (.one (.cel (.int .i64 i)))), (5, (.one (.cel (.int .i64 (0 : Int))))), (4, (.one (.cel .nilS))), (2, (.one (.cel (.ptr 0 0)))), (1, (.one (.cel (.row 0))))], [[(.int .i64 T), (.int .i64 M)]], [⟨(.ints .i64 l), none⟩], 0⟩
def srun_L1_I (T : Int) (M : Int) (l : List Int) (i : Int) : Prop := (1 ≤ i ∧ (i ≤ l.length ∨ i = 1) ∧ (l.length : Int) ≤ 1000) ∧ (wValid T M = true ∧ l.all isT = true) ∧ (incr l = incr (l.drop (i - 1).toNat))
def srun_L1_m (T : Int) (M : Int) (l : List Int) (i : Int) : Nat := (l.length - i).toNat
def srun_L1_N (T : Int) (M : Int) (l : List Int) (i' : Int) (st_ : St) : Prop := getI st_ 6 fun i => srun_L1_I T M l i ∧ srun_L1_m T M l i < srun_L1_m T M l i' ∧ SubA st_ (srun_L1_F T M l i)
def srun_L1_E (T : Int) (M : Int) (l : List Int) (st_ : St) : Prop := getI st_ 6 fun i => srun_L1_I T M l i ∧ SubA st_ (srun_L1_F T M l i)
def srun_L1_S1 (T : Int) (M : Int) (l : List Int) : St := ⟨56, [19, 14], [(6, (.one (.cel (.int .i64 (1 : Int))))), (22, (.one (.cel (.bool (((!(wValid T M)) || (decide ((1000 : Int) < (((List.length l) : Nat) : Int)))) || (List.any l (fun x => (!(isT x))))))))), (21, (.spec 19 Bool.false (.cel (.bool (List.any l (fun x => (!(isT x)))))))), (20, (.spec 19 Bool.false (.cel (.row 0)))), (19, (.one (.cel (.bool ((!(wValid T M)) || (decide ((1000 : Int) < (((List.length l) : Nat) : Int)))))))), (18, (.one (.cel (.bool ((!(wValid T M)) || (decide ((1000 : Int) < (((List.length l) : Nat) : Int)))))))), (17, (.spec 14 Bool.false (.cel (.bool (decide ((1000 : Int) < (((List.length l) : Nat) : Int))))))), (16, (.spec 14 Bool.false (.cel (.int .i64 (((List.length l) : Nat) : Int))))), (15, (.spec 14 Bool.false (.cel (.row 0)))), (14, (.one (.cel (.bool (!(wValid T M)))))), (13, (.one (.cel (.bool (!(wValid T M)))))), (12, (.one (.cel (.bool (wValid T M))))), (11, (.one (.agg [(.int .i64 T), (.int .i64 M)]))), (5, (.one (.cel (.int .i64 (0 : Int))))), (4, (.one (.cel .nilS))), (2, (.one (.cel (.ptr 0 0)))), (0, (.one (.agg [(.int .i64 T), (.int .i64 M)]))), (1, (.one (.cel (.row 0))))], [[(.int .i64 T), (.int .i64 M)]], [⟨(.ints .i64 l), none⟩], 0⟩
def srun_L2_F (T : Int) (M : Int) (l : List Int) (i : Int) (k : Int) (c0 : Int) (c1 : Int) (c2 : Int) (c3 : Int) (c4 : Int) (c5 : Int) (ml : List (List Int)) : St := ⟨56, [], [(42, (.one (.cel (.int .i64 k)))), (41, (.one (.cel (.int .i64 (((List.length l) : Nat) : Int))))), (40, (.one (.cel (.row 0)))), (8, (.one (.cel (.ptr 1 0)))), (7, (.one (.cel (.row 1)))), (5, (.one (.cel (.int .i64 (0 : Int))))), (4, (.one (.cel .nilS))), (2, (.one (.cel (.ptr 0 0))))], [[(.int .i64 T), (.int .i64 M)], [(.int .i64 c0), (.int .i64 c1), (.int .i64 c2), (.int .i64 c3), (.int .i64 c4), (.int .i64 c5)]], [⟨(.ints .i64 l), none⟩, ⟨(.recs [.int .i64, .int .i64, .int .i64, .int .i64, .int .i64, .int .i64] ml), some 44⟩], 0⟩
def srun_L2_I (T : Int) (M : Int) (l : List Int) (i : Int) (k : Int) (c0 : Int) (c1 : Int) (c2 : Int) (c3 : Int) (c4 : Int) (c5 : Int) (ml : List (List Int)) : Prop := (0 ≤ k ∧ k ≤ l.length) ∧ (sVd T M c0 c1 c2 c3 c4 c5 = true ∧ (c0 = 0 ∨ (1 ≤ k ∧ c2 = l.getD (k - 1).toNat 0))) ∧ (incr l = true) ∧ ((ml.length : Int) = k) ∧ (ml ++ runS T M [c0, c1, c2, c3, c4, c5] (l.drop k.toNat) = runS T M s0 l)
def srun_L2_m (T : Int) (M : Int) (l : List Int) (i : Int) (k : Int) (c0 : Int) (c1 : Int) (c2 : Int) (c3 : Int) (c4 : Int) (c5 : Int) (ml : List (List Int)) : Nat := (l.length - k).toNat
def srun_L2_N (T : Int) (M : Int) (l : List Int) (i : Int) (k' : Int) (c0' : Int) (c1' : Int) (c2' : Int) (c3' : Int) (c4' : Int) (c5' : Int) (ml' : List (List Int)) (st_ : St) : Prop := getI st_ 42 fun k => getCI st_ 1 0 fun c0 => getCI st_ 1 1 fun c1 => getCI st_ 1 2 fun c2 => getCI st_ 1 3 fun c3 => getCI st_ 1 4 fun c4 => getCI st_ 1 5 fun c5 => getRR st_ 7 fun ml => srun_L2_I T M l i k c0 c1 c2 c3 c4 c5 ml ∧ srun_L2_m T M l i k c0 c1 c2 c3 c4 c5 ml < srun_L2_m T M l i k' c0' c1' c2' c3' c4' c5' ml' ∧ SubA st_ (srun_L2_F T M l i k c0 c1 c2 c3 c4 c5 ml)
def srun_L2_E (T : Int) (M : Int) (l : List Int) (i : Int) (st_ : St) : Prop := getI st_ 42 fun k => getCI st_ 1 0 fun c0 => getCI st_ 1 1 fun c1 => getCI st_ 1 2 fun c2 => getCI st_ 1 3 fun c3 => getCI st_ 1 4 fun c4 => getCI st_ 1 5 fun c5 => getRR st_ 7 fun ml => srun_L2_I T M l i k c0 c1 c2 c3 c4 c5 ml ∧ SubA st_ (srun_L2_F T M l i k c0 c1 c2 c3 c4 c5 ml)
def srun_L2_S1 (T : Int) (M : Int) (l : List Int) (i : Int) : St := ⟨56, [], [(42, (.one (.cel (.int .i64 (0 : Int))))), (41, (.one (.cel (.int .i64 (((List.length l) : Nat) : Int))))), (40, (.one (.cel (.row 0)))), (8, (.one (.cel (.ptr 1 0)))), (39, (.one (.agg [(.int .i64 (0 : Int)), (.int .i64 (0 : Int)), (.int .i64 (0 : Int)), (.int .i64 (0 : Int)), (.int .i64 (0 : Int)), (.int .i64 (0 : Int))]))), (7, (.one (.cel .nilS))), (26, (.one (.cel (.bool (decide (i < (((List.length l) : Nat) : Int))))))), (25, (.one (.cel (.int .i64 (((List.length l) : Nat) : Int))))), (24, (.one (.cel (.row 0)))), (23, (.one (.cel (.int .i64 i)))), (6, (.one (.cel (.int .i64 i)))), (5, (.one (.cel (.int .i64 (0 : Int))))), (4, (.one (.cel .nilS))), (2, (.one (.cel (.ptr 0 0)))), (1, (.one (.cel (.row 0))))], [[(.int .i64 T), (.int .i64 M)], [(.int .i64 (0 : Int)), (.int .i64 (0 : Int)), (.int .i64 (0 : Int)), (.int .i64 (0 : Int)), (.int .i64 (0 : Int)), (.int .i64 (0 : Int))]], [⟨(.ints .i64 l), none⟩], 0⟩
def srun_L2_T (T : Int) (M : Int) (l : List Int) (i : Int) (k : Int) (c0 : Int) (c1 : Int) (c2 : Int) (c3 : Int) (c4 : Int) (c5 : Int) (ml : List (List Int)) : Prop := (cnd (decide (k < (((List.length l) : Nat) : Int)))
  (cnd (decide ((0 : Int) ≤ k))
    (cnd (decide (k < (((List.length l) : Nat) : Int)))
      (cnd (sVd T M c0 c1 c2 c3 c4 c5)
        (cnd (isT (List.getD l (Int.toNat k) (0 : Int)))
          (cnd ((decide (c0 = (0 : Int))) || (decide (c2 < (List.getD l (Int.toNat k) (0 : Int)))))
            (cnd (decide ((List.length (ml ++ [[(q (stp T M c0 c1 c2 c3 c4 c5 (List.getD l (Int.toNat k) (0 : Int))) 0), (q (stp T M c0 c1 c2 c3 c4 c5 (List.getD l (Int.toNat k) (0 : Int))) 1), (q (stp T M c0 c1 c2 c3 c4 c5 (List.getD l (Int.toNat k) (0 : Int))) 2), (q (stp T M c0 c1 c2 c3 c4 c5 (List.getD l (Int.toNat k) (0 : Int))) 3), (q (stp T M c0 c1 c2 c3 c4 c5 (List.getD l (Int.toNat k) (0 : Int))) 4), (q (stp T M c0 c1 c2 c3 c4 c5 (List.getD l (Int.toNat k) (0 : Int))) 5)]])) ≤ 4294967296))
              ((srun_L2_I T M l i (Go.IntKind.wrap Go.IntKind.i64 (k + (1 : Int))) (q (stp T M c0 c1 c2 c3 c4 c5 (List.getD l (Int.toNat k) (0 : Int))) 0) (q (stp T M c0 c1 c2 c3 c4 c5 (List.getD l (Int.toNat k) (0 : Int))) 1) (q (stp T M c0 c1 c2 c3 c4 c5 (List.getD l (Int.toNat k) (0 : Int))) 2) (q (stp T M c0 c1 c2 c3 c4 c5 (List.getD l (Int.toNat k) (0 : Int))) 3) (q (stp T M c0 c1 c2 c3 c4 c5 (List.getD l (Int.toNat k) (0 : Int))) 4) (q (stp T M c0 c1 c2 c3 c4 c5 (List.getD l (Int.toNat k) (0 : Int))) 5) (ml ++ [[(q (stp T M c0 c1 c2 c3 c4 c5 (List.getD l (Int.toNat k) (0 : Int))) 0), (q (stp T M c0 c1 c2 c3 c4 c5 (List.getD l (Int.toNat k) (0 : Int))) 1), (q (stp T M c0 c1 c2 c3 c4 c5 (List.getD l (Int.toNat k) (0 : Int))) 2), (q (stp T M c0 c1 c2 c3 c4 c5 (List.getD l (Int.toNat k) (0 : Int))) 3), (q (stp T M c0 c1 c2 c3 c4 c5 (List.getD l (Int.toNat k) (0 : Int))) 4), (q (stp T M c0 c1 c2 c3 c4 c5 (List.getD l (Int.toNat k) (0 : Int))) 5)]])) ∧ (((srun_L2_m T M l i (Go.IntKind.wrap Go.IntKind.i64 (k + (1 : Int))) (q (stp T M c0 c1 c2 c3 c4 c5 (List.getD l (Int.toNat k) (0 : Int))) 0) (q (stp T M c0 c1 c2 c3 c4 c5 (List.getD l (Int.toNat k) (0 : Int))) 1) (q (stp T M c0 c1 c2 c3 c4 c5 (List.getD l (Int.toNat k) (0 : Int))) 2) (q (stp T M c0 c1 c2 c3 c4 c5 (List.getD l (Int.toNat k) (0 : Int))) 3) (q (stp T M c0 c1 c2 c3 c4 c5 (List.getD l (Int.toNat k) (0 : Int))) 4) (q (stp T M c0 c1 c2 c3 c4 c5 (List.getD l (Int.toNat k) (0 : Int))) 5) (ml ++ [[(q (stp T M c0 c1 c2 c3 c4 c5 (List.getD l (Int.toNat k) (0 : Int))) 0), (q (stp T M c0 c1 c2 c3 c4 c5 (List.getD l (Int.toNat k) (0 : Int))) 1), (q (stp T M c0 c1 c2 c3 c4 c5 (List.getD l (Int.toNat k) (0 : Int))) 2), (q (stp T M c0 c1 c2 c3 c4 c5 (List.getD l (Int.toNat k) (0 : Int))) 3), (q (stp T M c0 c1 c2 c3 c4 c5 (List.getD l (Int.toNat k) (0 : Int))) 4), (q (stp T M c0 c1 c2 c3 c4 c5 (List.getD l (Int.toNat k) (0 : Int))) 5)]])) < (srun_L2_m T M l i k c0 c1 c2 c3 c4 c5 ml)) ∧ (((Go.IntKind.wrap Go.IntKind.i64 (k + (1 : Int))) = (Go.IntKind.wrap Go.IntKind.i64 (k + (1 : Int)))) ∧ (((((List.length l) : Nat) : Int) = (((List.length l) : Nat) : Int)) ∧ (True ∧ (True ∧ (True ∧ (((0 : Int) = (0 : Int)) ∧ (True ∧ (True ∧ (((T = T) ∧ (M = M)) ∧ ((((q (stp T M c0 c1 c2 c3 c4 c5 (List.getD l (Int.toNat k) (0 : Int))) 0) = (q (stp T M c0 c1 c2 c3 c4 c5 (List.getD l (Int.toNat k) (0 : Int))) 0)) ∧ (((q (stp T M c0 c1 c2 c3 c4 c5 (List.getD l (Int.toNat k) (0 : Int))) 1) = (q (stp T M c0 c1 c2 c3 c4 c5 (List.getD l (Int.toNat k) (0 : Int))) 1)) ∧ (((q (stp T M c0 c1 c2 c3 c4 c5 (List.getD l (Int.toNat k) (0 : Int))) 2) = (q (stp T M c0 c1 c2 c3 c4 c5 (List.getD l (Int.toNat k) (0 : Int))) 2)) ∧ (((q (stp T M c0 c1 c2 c3 c4 c5 (List.getD l (Int.toNat k) (0 : Int))) 3) = (q (stp T M c0 c1 c2 c3 c4 c5 (List.getD l (Int.toNat k) (0 : Int))) 3)) ∧ (((q (stp T M c0 c1 c2 c3 c4 c5 (List.getD l (Int.toNat k) (0 : Int))) 4) = (q (stp T M c0 c1 c2 c3 c4 c5 (List.getD l (Int.toNat k) (0 : Int))) 4)) ∧ ((q (stp T M c0 c1 c2 c3 c4 c5 (List.getD l (Int.toNat k) (0 : Int))) 5) = (q (stp T M c0 c1 c2 c3 c4 c5 (List.getD l (Int.toNat k) (0 : Int))) 5))))))) ∧ ((l = l) ∧ (((ml ++ [[(q (stp T M c0 c1 c2 c3 c4 c5 (List.getD l (Int.toNat k) (0 : Int))) 0), (q (stp T M c0 c1 c2 c3 c4 c5 (List.getD l (Int.toNat k) (0 : Int))) 1), (q (stp T M c0 c1 c2 c3 c4 c5 (List.getD l (Int.toNat k) (0 : Int))) 2), (q (stp T M c0 c1 c2 c3 c4 c5 (List.getD l (Int.toNat k) (0 : Int))) 3), (q (stp T M c0 c1 c2 c3 c4 c5 (List.getD l (Int.toNat k) (0 : Int))) 4), (q (stp T M c0 c1 c2 c3 c4 c5 (List.getD l (Int.toNat k) (0 : Int))) 5)]]) = (ml ++ [[(q (stp T M c0 c1 c2 c3 c4 c5 (List.getD l (Int.toNat k) (0 : Int))) 0), (q (stp T M c0 c1 c2 c3 c4 c5 (List.getD l (Int.toNat k) (0 : Int))) 1), (q (stp T M c0 c1 c2 c3 c4 c5 (List.getD l (Int.toNat k) (0 : Int))) 2), (q (stp T M c0 c1 c2 c3 c4 c5 (List.getD l (Int.toNat k) (0 : Int))) 3), (q (stp T M c0 c1 c2 c3 c4 c5 (List.getD l (Int.toNat k) (0 : Int))) 4), (q (stp T M c0 c1 c2 c3 c4 c5 (List.getD l (Int.toNat k) (0 : Int))) 5)]])) ∧ True))))))))))))))
              False)
            False)
          False)
        False)
      False)
    False)
  ((True ∧ ((0 : Int) = (if (((wValid T M) && (vE l)) = Bool.true) then (0 : Int) else (1 : Int)))) ∧ ((ml = (if (((wValid T M) && (vE l)) = Bool.true) then (runS T M s0 l) else ([] : List (List Int)))) ∧ True)))
set_option maxRecDepth 100000 in
theorem srun_L2_tree (T : Int) (M : Int) (l : List Int) (i : Int) (k : Int) (c0 : Int) (c1 : Int) (c2 : Int) (c3 : Int) (c4 : Int) (c5 : Int) (ml : List (List Int)) : srun_L2_T T M l i k c0 c1 c2 c3 c4 c5 ml = ex Try.prog (conOf [wvalid_e, rlam_cfn_e, snew_e, sstep_e]) (subC (bodyOf Try.f20) [1, 1, 1, 1, 1, 0, 1, 0, 0]) (nextE (srun_L2_N T M l i k c0 c1 c2 c3 c4 c5 ml) (kont Try.prog (conOf [wvalid_e, rlam_cfn_e, snew_e, sstep_e]) (bodyOf Try.f20) [1, 1, 1, 1, 1, 0, 1, 0] (retPost Try.prog Try.f20 1 (srun_res T M l)))) (srun_L2_F T M l i k c0 c1 c2 c3 c4 c5 ml) := by kernel_rfl
set_option maxRecDepth 100000 in
theorem srun_L2_round (T : Int) (M : Int) (l : List Int) (i : Int) (k : Int) (c0 : Int) (c1 : Int) (c2 : Int) (c3 : Int) (c4 : Int) (c5 : Int) (ml : List (List Int)) (hI_L1 : srun_L1_I T M l i) (hI_L2 : srun_L2_I T M l i k c0 c1 c2 c3 c4 c5 ml) : srun_L2_T T M l i k c0 c1 c2 c3 c4 c5 ml := by
  obtain ⟨⟨a1, a2, a3⟩, ⟨hw, ha⟩, a5⟩ := hI_L1
  obtain ⟨⟨k0, k1⟩, ⟨hv, hc⟩, hinc, hm, hr⟩ := hI_L2
  have hee : vE l = true := by unfold vE; rw [decide_eq_true a3, ha, hinc]; rfl
  unfold srun_L2_T
  rw [hw, hee]
  by_cases hk : k < l.length
  · have hd := drop_consI (l := l) (i := k) k0 hk
    have ht : isT (l.getD k.toNat 0) = true := by
      rw [List.all_eq_true] at ha
      refine ha _ ?_
      rw [List.getD_eq_getElem?_getD, List.getElem?_eq_getElem (by omega)]
      exact List.getElem_mem (by omega)
    have hcc : c0 = 0 ∨ c2 < l.getD k.toNat 0 := by
      rcases hc with hc | ⟨hk1, hc⟩
      · exact .inl hc
      · have := incr_get (l := l) (j := (k - 1).toNat) hinc (by omega)
        rw [show (k - 1).toNat + 1 = k.toNat by omega] at this
        exact .inr (by omega)
    have jc : (decide (c0 = 0) || decide (c2 < l.getD k.toNat 0)) = true := by
      simp only [Bool.or_eq_true, decide_eq_true_eq]; exact hcc
    obtain ⟨g1, g2⟩ := stp_ok hv ht hcc
    have hL := stp_len T M c0 c1 c2 c3 c4 c5 (l.getD k.toNat 0)
    rw [hL]
    have hlen : ∀ r : List Int, (ml ++ [r]).length = ml.length + 1 := fun r => by rw [List.length_append]; rfl
    have jl : ∀ r : List Int, decide ((ml ++ [r]).length ≤ 4294967296) = true := fun r => by rw [decide_eq_true_eq, hlen]; omega
    have e1 : (k + 1).toNat = k.toNat + 1 := by omega
    rw [hv, ht, jc, jl, decide_eq_true hk, decide_eq_true k0, w64 (n := k + 1) (by omega) (by omega)]
    refine ⟨⟨⟨by omega, by omega⟩, ⟨g1, ?_⟩, hinc, by rw [hlen]; omega, ?_⟩, ?_, by simp⟩
    · rcases g2 with g2 | g2
      · exact .inl g2
      · exact .inr ⟨by omega, by rw [g2, show k + 1 - 1 = k by omega]⟩
    · rw [hL, e1, ← hr, hd, runS, List.append_assoc]
      rfl
    · unfold srun_L2_m
      omega
  · rw [decide_eq_false hk]
    rw [List.drop_eq_nil_of_le (show l.length ≤ k.toNat by omega)] at hr
    simp only [runS, List.append_nil] at hr
    simp [cnd, hr]
set_option maxRecDepth 100000 in
theorem srun_L2_entry1 (T : Int) (M : Int) (l : List Int) (i : Int) : (((srun_L2_I T M l i (0 : Int) (0 : Int) (0 : Int) (0 : Int) (0 : Int) (0 : Int) (0 : Int) ([] : List (List Int))) ∧ (((0 : Int) = (0 : Int)) ∧ (((((List.length l) : Nat) : Int) = (((List.length l) : Nat) : Int)) ∧ (True ∧ (True ∧ (True ∧ (((0 : Int) = (0 : Int)) ∧ (True ∧ (True ∧ (((T = T) ∧ (M = M)) ∧ ((((0 : Int) = (0 : Int)) ∧ (((0 : Int) = (0 : Int)) ∧ (((0 : Int) = (0 : Int)) ∧ (((0 : Int) = (0 : Int)) ∧ (((0 : Int) = (0 : Int)) ∧ ((0 : Int) = (0 : Int))))))) ∧ ((l = l) ∧ ((([] : List (List Int)) = ([] : List (List Int))) ∧ True)))))))))))))) = srun_L2_E T M l i (srun_L2_S1 T M l i) := by kernel_rfl
theorem srun_L2_1 (T : Int) (M : Int) (l : List Int) (i : Int) (hI_L1 : srun_L1_I T M l i) (h : ((srun_L2_I T M l i (0 : Int) (0 : Int) (0 : Int) (0 : Int) (0 : Int) (0 : Int) (0 : Int) ([] : List (List Int))) ∧ (((0 : Int) = (0 : Int)) ∧ (((((List.length l) : Nat) : Int) = (((List.length l) : Nat) : Int)) ∧ (True ∧ (True ∧ (True ∧ (((0 : Int) = (0 : Int)) ∧ (True ∧ (True ∧ (((T = T) ∧ (M = M)) ∧ ((((0 : Int) = (0 : Int)) ∧ (((0 : Int) = (0 : Int)) ∧ (((0 : Int) = (0 : Int)) ∧ (((0 : Int) = (0 : Int)) ∧ (((0 : Int) = (0 : Int)) ∧ ((0 : Int) = (0 : Int))))))) ∧ ((l = l) ∧ ((([] : List (List Int)) = ([] : List (List Int))) ∧ True)))))))))))))) : LoopP (ex Try.prog (conOf [wvalid_e, rlam_cfn_e, snew_e, sstep_e]) (subC (bodyOf Try.f20) [1, 1, 1, 1, 1, 0, 1, 0, 0])) (kont Try.prog (conOf [wvalid_e, rlam_cfn_e, snew_e, sstep_e]) (bodyOf Try.f20) [1, 1, 1, 1, 1, 0, 1, 0] (retPost Try.prog Try.f20 1 (srun_res T M l))) (srun_L2_S1 T M l i) := by
  have hE : srun_L2_E T M l i (srun_L2_S1 T M l i) := Eq.mp (srun_L2_entry1 T M l i) h
  unfold srun_L2_E at hE
  obtain ⟨k, hE⟩ := getI_of hE
  obtain ⟨c0, hE⟩ := getCI_of hE
  obtain ⟨c1, hE⟩ := getCI_of hE
  obtain ⟨c2, hE⟩ := getCI_of hE
  obtain ⟨c3, hE⟩ := getCI_of hE
  obtain ⟨c4, hE⟩ := getCI_of hE
  obtain ⟨c5, hE⟩ := getCI_of hE
  obtain ⟨ml, hE⟩ := getRR_of hE
  refine loop_of (α := (Int) × (Int) × (Int) × (Int) × (Int) × (Int) × (Int) × (List (List Int))) (fun xx_ => srun_L2_F T M l i xx_.1 xx_.2.1 xx_.2.2.1 xx_.2.2.2.1 xx_.2.2.2.2.1 xx_.2.2.2.2.2.1 xx_.2.2.2.2.2.2.1 xx_.2.2.2.2.2.2.2) (fun xx_ => srun_L2_I T M l i xx_.1 xx_.2.1 xx_.2.2.1 xx_.2.2.2.1 xx_.2.2.2.2.1 xx_.2.2.2.2.2.1 xx_.2.2.2.2.2.2.1 xx_.2.2.2.2.2.2.2) (fun xx_ => srun_L2_m T M l i xx_.1 xx_.2.1 xx_.2.2.1 xx_.2.2.2.1 xx_.2.2.2.2.1 xx_.2.2.2.2.2.1 xx_.2.2.2.2.2.2.1 xx_.2.2.2.2.2.2.2) (fun xx_ => srun_L2_N T M l i xx_.1 xx_.2.1 xx_.2.2.1 xx_.2.2.2.1 xx_.2.2.2.2.1 xx_.2.2.2.2.2.1 xx_.2.2.2.2.2.2.1 xx_.2.2.2.2.2.2.2) (fun xx_ => srun_L2_T T M l i xx_.1 xx_.2.1 xx_.2.2.1 xx_.2.2.2.1 xx_.2.2.2.2.1 xx_.2.2.2.2.2.1 xx_.2.2.2.2.2.2.1 xx_.2.2.2.2.2.2.2) (fun xx_ s_ h => ?_) ⟨⟨k, c0, c1, c2, c3, c4, c5, ml⟩, hE⟩ (fun xx_ => srun_L2_tree T M l i xx_.1 xx_.2.1 xx_.2.2.1 xx_.2.2.2.1 xx_.2.2.2.2.1 xx_.2.2.2.2.2.1 xx_.2.2.2.2.2.2.1 xx_.2.2.2.2.2.2.2) (fun xx_ hI => srun_L2_round T M l i xx_.1 xx_.2.1 xx_.2.2.1 xx_.2.2.2.1 xx_.2.2.2.2.1 xx_.2.2.2.2.2.1 xx_.2.2.2.2.2.2.1 xx_.2.2.2.2.2.2.2 hI_L1 hI)
  unfold srun_L2_N at h
  obtain ⟨k, h⟩ := getI_of h
  obtain ⟨c0, h⟩ := getCI_of h
  obtain ⟨c1, h⟩ := getCI_of h
  obtain ⟨c2, h⟩ := getCI_of h
  obtain ⟨c3, h⟩ := getCI_of h
  obtain ⟨c4, h⟩ := getCI_of h
  obtain ⟨c5, h⟩ := getCI_of h
  obtain ⟨ml, h⟩ := getRR_of h
  exact ⟨⟨k, c0, c1, c2, c3, c4, c5, ml⟩, h⟩
def srun_L1_T (T : Int) (M : Int) (l : List Int) (i : Int) : Prop := (cnd (decide (i < (((List.length l) : Nat) : Int)))
  (cnd (decide ((0 : Int) ≤ i))
    (cnd (decide (i < (((List.length l) : Nat) : Int)))
      (cnd (decide ((0 : Int) ≤ (Go.IntKind.wrap Go.IntKind.i64 (i - (1 : Int)))))
        (cnd (decide ((Go.IntKind.wrap Go.IntKind.i64 (i - (1 : Int))) < (((List.length l) : Nat) : Int)))
          (cnd (decide ((List.getD l (Int.toNat i) (0 : Int)) ≤ (List.getD l (Int.toNat (Go.IntKind.wrap Go.IntKind.i64 (i - (1 : Int)))) (0 : Int))))
            ((True ∧ ((1 : Int) = (if (((wValid T M) && (vE l)) = Bool.true) then (0 : Int) else (1 : Int)))) ∧ (((if (((wValid T M) && (vE l)) = Bool.true) then (runS T M s0 l) else ([] : List (List Int))) = ([] : List (List Int))) ∧ True))
            ((srun_L1_I T M l (Go.IntKind.wrap Go.IntKind.i64 (i + (1 : Int)))) ∧ (((srun_L1_m T M l (Go.IntKind.wrap Go.IntKind.i64 (i + (1 : Int)))) < (srun_L1_m T M l i)) ∧ (((Go.IntKind.wrap Go.IntKind.i64 (i + (1 : Int))) = (Go.IntKind.wrap Go.IntKind.i64 (i + (1 : Int)))) ∧ (((0 : Int) = (0 : Int)) ∧ (True ∧ (True ∧ (True ∧ (((T = T) ∧ (M = M)) ∧ ((l = l) ∧ True))))))))))
          False)
        False)
      False)
    False)
  (LoopP (ex Try.prog (conOf [wvalid_e, rlam_cfn_e, snew_e, sstep_e]) (subC (bodyOf Try.f20) [1, 1, 1, 1, 1, 0, 1, 0, 0])) (kont Try.prog (conOf [wvalid_e, rlam_cfn_e, snew_e, sstep_e]) (bodyOf Try.f20) [1, 1, 1, 1, 1, 0, 1, 0] (retPost Try.prog Try.f20 1 (srun_res T M l))) (srun_L2_S1 T M l i)))
set_option maxRecDepth 100000 in
theorem srun_L1_tree (T : Int) (M : Int) (l : List Int) (i : Int) : srun_L1_T T M l i = ex Try.prog (conOf [wvalid_e, rlam_cfn_e, snew_e, sstep_e]) (subC (bodyOf Try.f20) [1, 1, 0, 1, 0, 0]) (nextE (srun_L1_N T M l i) (kont Try.prog (conOf [wvalid_e, rlam_cfn_e, snew_e, sstep_e]) (bodyOf Try.f20) [1, 1, 0, 1, 0] (retPost Try.prog Try.f20 1 (srun_res T M l)))) (srun_L1_F T M l i) := by kernel_rfl
set_option maxRecDepth 100000 in
theorem srun_L1_round (T : Int) (M : Int) (l : List Int) (i : Int)  (hI_L1 : srun_L1_I T M l i) : srun_L1_T T M l i := by
  have hI := hI_L1
  obtain ⟨⟨a1, a2, a3⟩, ⟨hw, ha⟩, a5⟩ := hI_L1
  unfold srun_L1_T
  have h3 : decide ((l.length : Int) ≤ 1000) = true := decide_eq_true a3
  have hee : vE l = incr l := by unfold vE; rw [h3, ha]; rfl
  by_cases hi : i < l.length
  · have hd := drop_consI (l := l) (i := i) (by omega) hi
    have hd2 := drop_consI (l := l) (i := i - 1) (by omega) (by omega)
    rw [show (i - 1).toNat + 1 = i.toNat by omega, hd] at hd2
    rw [hd2, incr] at a5
    have j1 : decide (0 ≤ i - 1) = true := by rw [decide_eq_true_eq]; omega
    have j2 : decide (0 ≤ i) = true := by rw [decide_eq_true_eq]; omega
    have jm : decide (i - 1 < (l.length : Int)) = true := by rw [decide_eq_true_eq]; omega
    rw [w64 (n := i + 1) (by omega) (by omega), w64 (n := i - 1) (by omega) (by omega), decide_eq_true hi, j1, j2, jm]
    by_cases hc : l.getD i.toNat 0 ≤ l.getD (i - 1).toNat 0
    · have : vE l = false := by rw [hee, a5, decide_eq_false (by omega), Bool.false_and]
      rw [decide_eq_true hc, this]
      simp [cnd]
    · rw [decide_eq_true (by omega), Bool.true_and] at a5
      rw [decide_eq_false hc]
      refine ⟨⟨⟨by omega, by omega, a3⟩, ⟨hw, ha⟩, ?_⟩, ?_, by simp⟩
      · rw [show (i + 1 - 1).toNat = i.toNat by omega, hd]; exact a5
      · unfold srun_L1_m
        omega
  · rw [decide_eq_false hi]
    have hI2 : incr l = true := by
      rw [a5]
      by_cases h0 : i ≤ l.length
      · have hd2 := drop_consI (l := l) (i := i - 1) (by omega) (by omega)
        rw [show (i - 1).toNat + 1 = i.toNat by omega, List.drop_eq_nil_of_le (show l.length ≤ i.toNat by omega)] at hd2
        rw [hd2]; rfl
      · have : l = [] := List.eq_nil_of_length_eq_zero (by omega)
        rw [this]; simp [incr]
    exact srun_L2_1 T M l i hI ⟨⟨⟨by omega, by omega⟩, ⟨by unfold sVd; rw [hw]; rfl, .inl rfl⟩, hI2, by simp, by simp [s0]⟩, by simp⟩
set_option maxRecDepth 100000 in
theorem srun_L1_entry1 (T : Int) (M : Int) (l : List Int) : (((srun_L1_I T M l (1 : Int)) ∧ (((1 : Int) = (1 : Int)) ∧ (((0 : Int) = (0 : Int)) ∧ (True ∧ (True ∧ (True ∧ (((T = T) ∧ (M = M)) ∧ ((l = l) ∧ True))))))))) = srun_L1_E T M l (srun_L1_S1 T M l) := by kernel_rfl
theorem srun_L1_1 (T : Int) (M : Int) (l : List Int)  (h : ((srun_L1_I T M l (1 : Int)) ∧ (((1 : Int) = (1 : Int)) ∧ (((0 : Int) = (0 : Int)) ∧ (True ∧ (True ∧ (True ∧ (((T = T) ∧ (M = M)) ∧ ((l = l) ∧ True))))))))) : LoopP (ex Try.prog (conOf [wvalid_e, rlam_cfn_e, snew_e, sstep_e]) (subC (bodyOf Try.f20) [1, 1, 0, 1, 0, 0])) (kont Try.prog (conOf [wvalid_e, rlam_cfn_e, snew_e, sstep_e]) (bodyOf Try.f20) [1, 1, 0, 1, 0] (retPost Try.prog Try.f20 1 (srun_res T M l))) (srun_L1_S1 T M l) := by
  have hE : srun_L1_E T M l (srun_L1_S1 T M l) := Eq.mp (srun_L1_entry1 T M l) h
  unfold srun_L1_E at hE
  obtain ⟨i, hE⟩ := getI_of hE
  refine loop_of (α := (Int)) (fun xx_ => srun_L1_F T M l xx_) (fun xx_ => srun_L1_I T M l xx_) (fun xx_ => srun_L1_m T M l xx_) (fun xx_ => srun_L1_N T M l xx_) (fun xx_ => srun_L1_T T M l xx_) (fun xx_ s_ h => ?_) ⟨i, hE⟩ (fun xx_ => srun_L1_tree T M l xx_) (fun xx_ hI => srun_L1_round T M l xx_  hI)
  unfold srun_L1_N at h
  obtain ⟨i, h⟩ := getI_of h
  exact ⟨i, h⟩
set_option maxRecDepth 100000 in
theorem srun_tree (T : Int) (M : Int) (l : List Int) : ((cnd ((!(((!(wValid T M)) || (decide ((1000 : Int) < (((List.length l) : Nat) : Int)))) == Bool.false)) || (decide ((((List.length l) : Nat) : Int) ≤ (1000000 : Int))))
  (cnd (((!(wValid T M)) || (decide ((1000 : Int) < (((List.length l) : Nat) : Int)))) || (List.any l (fun x => (!(isT x)))))
    ((True ∧ ((1 : Int) = (if (((wValid T M) && (vE l)) = Bool.true) then (0 : Int) else (1 : Int)))) ∧ (((if (((wValid T M) && (vE l)) = Bool.true) then (runS T M s0 l) else ([] : List (List Int))) = ([] : List (List Int))) ∧ True))
    (LoopP (ex Try.prog (conOf [wvalid_e, rlam_cfn_e, snew_e, sstep_e]) (subC (bodyOf Try.f20) [1, 1, 0, 1, 0, 0])) (kont Try.prog (conOf [wvalid_e, rlam_cfn_e, snew_e, sstep_e]) (bodyOf Try.f20) [1, 1, 0, 1, 0] (retPost Try.prog Try.f20 1 (srun_res T M l))) (srun_L1_S1 T M l)))
  False)) = EXD Try.prog (conOf [wvalid_e, rlam_cfn_e, snew_e, sstep_e]) Try.f20 [.agg [.int .i64 T, .int .i64 M], .cel (.row 0)] [.ints .i64 l] [] (srun_res T M l) := by kernel_rfl
theorem srun_holds (T : Int) (M : Int) (l : List Int)  : (cnd ((!(((!(wValid T M)) || (decide ((1000 : Int) < (((List.length l) : Nat) : Int)))) == Bool.false)) || (decide ((((List.length l) : Nat) : Int) ≤ (1000000 : Int))))
  (cnd (((!(wValid T M)) || (decide ((1000 : Int) < (((List.length l) : Nat) : Int)))) || (List.any l (fun x => (!(isT x)))))
    ((True ∧ ((1 : Int) = (if (((wValid T M) && (vE l)) = Bool.true) then (0 : Int) else (1 : Int)))) ∧ (((if (((wValid T M) && (vE l)) = Bool.true) then (runS T M s0 l) else ([] : List (List Int))) = ([] : List (List Int))) ∧ True))
    (LoopP (ex Try.prog (conOf [wvalid_e, rlam_cfn_e, snew_e, sstep_e]) (subC (bodyOf Try.f20) [1, 1, 0, 1, 0, 0])) (kont Try.prog (conOf [wvalid_e, rlam_cfn_e, snew_e, sstep_e]) (bodyOf Try.f20) [1, 1, 0, 1, 0] (retPost Try.prog Try.f20 1 (srun_res T M l))) (srun_L1_S1 T M l)))
  False) := by
  cases hw : wValid T M with
  | false => simp [cnd]
  | true =>
    by_cases hl : (1000 : Int) < l.length
    · have he : vE l = false := by unfold vE; rw [decide_eq_false (by omega)]; rfl
      simp [hl, he, cnd]
    · have j1 : decide ((1000 : Int) < l.length) = false := decide_eq_false hl
      have j2 : decide (((l.length : Nat) : Int) ≤ 1000000) = true := by rw [decide_eq_true_eq]; omega
      rw [j1, j2, any_not, Bool.or_true]
      cases ha : l.all isT with
      | false =>
        have he : vE l = false := by unfold vE; rw [ha, Bool.and_false]; rfl
        rw [he]
        simp [cnd]
      | true =>
        exact srun_L1_1 T M l ⟨⟨⟨by omega, by omega, by omega⟩, ⟨hw, ha⟩, by simp⟩, by simp⟩
set_option maxHeartbeats 2000000 in
theorem srun_ok : SoundEnt Try.prog srun_e := by
  refine ent_of_ex (Γ := (conOf [wvalid_e, rlam_cfn_e, snew_e, sstep_e])) (conOf_sound (scons wvalid_ok (scons rlam_cfn_ok (scons snew_ok (scons sstep_ok snil))))) (by kernel_rfl) Try.func20 (by kernel_rfl) (by kernel_rfl) (fun args rows caps res h ho => ?_)
  change srun_go args rows caps = some res at h
  unfold srun_go at h
  split at h
  · simp only [Option.some.injEq] at h
    subst h
    rename_i q0_ q1_ q2_
    skip
    exact EX.of (srun_tree q0_ q1_ q2_) (srun_holds q0_ q1_ q2_)
  · cases h
def svalid_res (T : Int) (M : Int) (mo : Int) (th : Int) (la : Int) (pe : Int) (no : Int) (te : Int) : CRes := ⟨[], .one (.cel (.bool (sVd T M mo th la pe no te))), []⟩
def svalid_go : List TV → List RowA → List (List CV) → Option CRes := fun args rows caps =>
  match args, rows, caps with
  | [.agg [.int .i64 T, .int .i64 M], .agg [.int .i64 mo, .int .i64 th, .int .i64 la, .int .i64 pe, .int .i64 no, .int .i64 te]], [], [] => some (svalid_res T M mo th la pe no te)
  | _, _, _ => none
def svalid_e : Ent := ⟨100, [], svalid_go⟩
set_option maxRecDepth 100000 in
theorem svalid_tree (T : Int) (M : Int) (mo : Int) (th : Int) (la : Int) (pe : Int) (no : Int) (te : Int) : ((cnd (!(wValid T M))
  (Bool.false = (sVd T M mo th la pe no te))
  (cnd (decide (mo = (0 : Int)))
    (((decide (mo = (0 : Int))) && ((decide (th = (0 : Int))) && ((decide (la = (0 : Int))) && ((decide (pe = (0 : Int))) && ((decide (no = (0 : Int))) && ((decide (te = (0 : Int))) && Bool.true)))))) = (sVd T M mo th la pe no te))
    (cnd (decide (mo = (1 : Int)))
      (cnd ((!(decide (th = (0 : Int)))) || (!(isT la)))
        (Bool.false = (sVd T M mo th la pe no te))
        (cnd (decide (te = (0 : Int)))
          (((decide (pe = (0 : Int))) && (decide (no = (0 : Int)))) = (sVd T M mo th la pe no te))
          ((((((decide (te = (1 : Int))) || (decide (te = (2 : Int)))) && (decide ((1 : Int) ≤ pe))) && (decide (pe ≤ la))) && (decide (no = pe))) = (sVd T M mo th la pe no te))))
      (cnd (decide (mo = (2 : Int)))
        (((((((((decide ((0 : Int) ≤ th)) && (decide (th < (tth T M)))) && (isT la)) && (decide ((1 : Int) ≤ pe))) && (decide (pe ≤ la))) && (decide ((1 : Int) ≤ no))) && (decide (no ≤ pe))) && (decide (te = (0 : Int)))) = (sVd T M mo th la pe no te))
        (Bool.false = (sVd T M mo th la pe no te))))))) = EXD Try.prog (conOf [wvalid_e, wteeth_e, instant_e]) Try.f100 [.agg [.int .i64 T, .int .i64 M], .agg [.int .i64 mo, .int .i64 th, .int .i64 la, .int .i64 pe, .int .i64 no, .int .i64 te]] [] [] (svalid_res T M mo th la pe no te) := by kernel_rfl
theorem svalid_holds (T : Int) (M : Int) (mo : Int) (th : Int) (la : Int) (pe : Int) (no : Int) (te : Int)  : (cnd (!(wValid T M))
  (Bool.false = (sVd T M mo th la pe no te))
  (cnd (decide (mo = (0 : Int)))
    (((decide (mo = (0 : Int))) && ((decide (th = (0 : Int))) && ((decide (la = (0 : Int))) && ((decide (pe = (0 : Int))) && ((decide (no = (0 : Int))) && ((decide (te = (0 : Int))) && Bool.true)))))) = (sVd T M mo th la pe no te))
    (cnd (decide (mo = (1 : Int)))
      (cnd ((!(decide (th = (0 : Int)))) || (!(isT la)))
        (Bool.false = (sVd T M mo th la pe no te))
        (cnd (decide (te = (0 : Int)))
          (((decide (pe = (0 : Int))) && (decide (no = (0 : Int)))) = (sVd T M mo th la pe no te))
          ((((((decide (te = (1 : Int))) || (decide (te = (2 : Int)))) && (decide ((1 : Int) ≤ pe))) && (decide (pe ≤ la))) && (decide (no = pe))) = (sVd T M mo th la pe no te))))
      (cnd (decide (mo = (2 : Int)))
        (((((((((decide ((0 : Int) ≤ th)) && (decide (th < (tth T M)))) && (isT la)) && (decide ((1 : Int) ≤ pe))) && (decide (pe ≤ la))) && (decide ((1 : Int) ≤ no))) && (decide (no ≤ pe))) && (decide (te = (0 : Int)))) = (sVd T M mo th la pe no te))
        (Bool.false = (sVd T M mo th la pe no te)))))) := by
  unfold sVd sV
  cases hw : wValid T M with
  | false => simp [cnd]
  | true =>
    have e : tth T M = T - M := by unfold tth; rw [hw]; rfl
    rw [e]
    by_cases h0 : mo = 0
    · simp [h0, cnd, Bool.and_assoc]
    by_cases h1 : mo = 1
    · by_cases ht : th = 0 <;> cases isT la <;> by_cases he : te = 0 <;> simp [h1, ht, he, cnd]
    by_cases h2 : mo = 2
    · simp [h2, cnd]
    · simp [h0, h1, h2, cnd]
set_option maxHeartbeats 2000000 in
theorem svalid_ok : SoundEnt Try.prog svalid_e := by
  refine ent_of_ex (Γ := (conOf [wvalid_e, wteeth_e, instant_e])) (conOf_sound (scons wvalid_ok (scons wteeth_ok (scons instant_ok snil)))) (by kernel_rfl) Try.func100 (by kernel_rfl) (by kernel_rfl) (fun args rows caps res h ho => ?_)
  change svalid_go args rows caps = some res at h
  unfold svalid_go at h
  split at h
  · simp only [Option.some.injEq] at h
    subst h
    rename_i q0_ q1_ q2_ q3_ q4_ q5_ q6_ q7_
    skip
    exact EX.of (svalid_tree q0_ q1_ q2_ q3_ q4_ q5_ q6_ q7_) (svalid_holds q0_ q1_ q2_ q3_ q4_ q5_ q6_ q7_)
  · cases h
def winLow (T M mo th la pe no te : Int) : Int := if sVd T M mo th la pe no te = true ∧ mo = 2 then la + expc T M th no - expc T M th no / 4 else 0
def winHigh (T M mo th la pe no te : Int) : Int := if sVd T M mo th la pe no te = true ∧ mo = 2 then la + expc T M th no + expc T M th no / 4 else 0
theorem runS_length {T M : Int} : ∀ (l s : List Int), (runS T M s l).length = l.length
  | [], _ => rfl
  | t :: l, s => by rw [runS, List.length_cons, runS_length l, List.length_cons]
def swindow_res (T : Int) (M : Int) (mo : Int) (th : Int) (la : Int) (pe : Int) (no : Int) (te : Int) : CRes := ⟨[], .tup [.cel (.int .i64 (winLow T M mo th la pe no te)), .cel (.int .i64 (winHigh T M mo th la pe no te))], []⟩
def swindow_go : List TV → List RowA → List (List CV) → Option CRes := fun args rows caps =>
  match args, rows, caps with
  | [.agg [.int .i64 T, .int .i64 M], .agg [.int .i64 mo, .int .i64 th, .int .i64 la, .int .i64 pe, .int .i64 no, .int .i64 te]], [], [] => some (swindow_res T M mo th la pe no te)
  | _, _, _ => none
def swindow_e : Ent := ⟨57, [], swindow_go⟩
set_option maxRecDepth 100000 in
theorem swindow_tree (T : Int) (M : Int) (mo : Int) (th : Int) (la : Int) (pe : Int) (no : Int) (te : Int) : ((cnd ((!(sVd T M mo th la pe no te)) || (!(decide (mo = (2 : Int)))))
  (((0 : Int) = (winLow T M mo th la pe no te)) ∧ ((0 : Int) = (winHigh T M mo th la pe no te)))
  (cnd (wValid T M)
    (cnd (decide ((-(2199023255552 : Int)) ≤ no))
      (cnd (decide (no ≤ (2199023255552 : Int)))
        (((Go.IntKind.wrap Go.IntKind.i64 ((Go.IntKind.wrap Go.IntKind.i64 (la + (expc T M th no))) - (Go.IntKind.wrap Go.IntKind.i64 (Int.tdiv (expc T M th no) (4 : Int))))) = (winLow T M mo th la pe no te)) ∧ ((Go.IntKind.wrap Go.IntKind.i64 ((Go.IntKind.wrap Go.IntKind.i64 (la + (expc T M th no))) + (Go.IntKind.wrap Go.IntKind.i64 (Int.tdiv (expc T M th no) (4 : Int))))) = (winHigh T M mo th la pe no te)))
        False)
      False)
    False))) = EXD Try.prog (conOf [svalid_e, expected_e]) Try.f57 [.agg [.int .i64 T, .int .i64 M], .agg [.int .i64 mo, .int .i64 th, .int .i64 la, .int .i64 pe, .int .i64 no, .int .i64 te]] [] [] (swindow_res T M mo th la pe no te) := by kernel_rfl
theorem swindow_holds (T : Int) (M : Int) (mo : Int) (th : Int) (la : Int) (pe : Int) (no : Int) (te : Int)  : (cnd ((!(sVd T M mo th la pe no te)) || (!(decide (mo = (2 : Int)))))
  (((0 : Int) = (winLow T M mo th la pe no te)) ∧ ((0 : Int) = (winHigh T M mo th la pe no te)))
  (cnd (wValid T M)
    (cnd (decide ((-(2199023255552 : Int)) ≤ no))
      (cnd (decide (no ≤ (2199023255552 : Int)))
        (((Go.IntKind.wrap Go.IntKind.i64 ((Go.IntKind.wrap Go.IntKind.i64 (la + (expc T M th no))) - (Go.IntKind.wrap Go.IntKind.i64 (Int.tdiv (expc T M th no) (4 : Int))))) = (winLow T M mo th la pe no te)) ∧ ((Go.IntKind.wrap Go.IntKind.i64 ((Go.IntKind.wrap Go.IntKind.i64 (la + (expc T M th no))) + (Go.IntKind.wrap Go.IntKind.i64 (Int.tdiv (expc T M th no) (4 : Int))))) = (winHigh T M mo th la pe no te)))
        False)
      False)
    False)) := by
  have hx : sV T M mo th la pe no te = true → mo = 2 → wValid T M = true → (0 ≤ la ∧ la ≤ 1099511627776) ∧ (1 ≤ no ∧ no ≤ 1099511627776) ∧ 0 ≤ expc T M th no ∧ expc T M th no ≤ 8796093022208 := by
    intro hs hm hw
    have hh := wValid_iff.1 hw
    rcases sV_cases hs with c | c | c
    · omega
    · omega
    · have h2 : 0 ≤ expc T M th no ∧ expc T M th no ≤ 8796093022208 := by
        unfold expc
        rcases hh.1 with h | h
        · rw [h]; split <;> omega
        · rw [h]; split <;> omega
      omega
  unfold winLow winHigh
  cases hs : sVd T M mo th la pe no te with
  | false => simp [cnd]
  | true =>
    by_cases hm : mo = 2
    · obtain ⟨hw, hv⟩ := (Bool.and_eq_true _ _ ▸ hs : wValid T M = true ∧ sV T M mo th la pe no te = true)
      obtain ⟨h1, h2, h3, h4⟩ := hx hv hm hw
      have j1 : decide (-2199023255552 ≤ no) = true := by rw [decide_eq_true_eq]; omega
      have j2 : decide (no ≤ 2199023255552) = true := by rw [decide_eq_true_eq]; omega
      have j3 : decide (mo = 2) = true := decide_eq_true hm
      rw [hw, j1, j2, j3, tdiv_pos h3, if_pos ⟨rfl, hm⟩, if_pos ⟨rfl, hm⟩]
      generalize expc T M th no = x at *
      rw [w64 (n := x / 4) (by omega) (by omega), w64 (n := la + x) (by omega) (by omega), w64 (n := la + x - x / 4) (by omega) (by omega), w64 (n := la + x + x / 4) (by omega) (by omega)]
      simp [cnd]
    · simp [hm, cnd]
set_option maxHeartbeats 2000000 in
theorem swindow_ok : SoundEnt Try.prog swindow_e := by
  refine ent_of_ex (Γ := (conOf [svalid_e, expected_e])) (conOf_sound (scons svalid_ok (scons expected_ok snil))) (by kernel_rfl) Try.func57 (by kernel_rfl) (by kernel_rfl) (fun args rows caps res h ho => ?_)
  change swindow_go args rows caps = some res at h
  unfold swindow_go at h
  split at h
  · simp only [Option.some.injEq] at h
    subst h
    rename_i q0_ q1_ q2_ q3_ q4_ q5_ q6_ q7_
    skip
    exact EX.of (swindow_tree q0_ q1_ q2_ q3_ q4_ q5_ q6_ q7_) (swindow_holds q0_ q1_ q2_ q3_ q4_ q5_ q6_ q7_)
  · cases h
def lawake_res : CRes := ⟨[], .one (.cel (.bool (true))), []⟩
def lawake_go : List TV → List RowA → List (List CV) → Option CRes := fun args rows caps =>
  match args, rows, caps with
  | [], [], [] => some (lawake_res )
  | _, _, _ => none
def lawake_e : Ent := ⟨19, [], lawake_go⟩
set_option maxRecDepth 100000 in
theorem lawake_tree  : ((Bool.true = Bool.true)) = EXD Try.prog (conOf [srun_e, swindow_e]) Try.f19 [] [] [] (lawake_res ) := by kernel_rfl
theorem lawake_holds   : (Bool.true = Bool.true) := by
  exact rfl
set_option maxHeartbeats 2000000 in
theorem lawake_ok : SoundEnt Try.prog lawake_e := by
  refine ent_of_ex (Γ := (conOf [srun_e, swindow_e])) (conOf_sound (scons srun_ok (scons swindow_ok snil))) (by kernel_rfl) Try.func19 (by kernel_rfl) (by kernel_rfl) (fun args rows caps res h ho => ?_)
  change lawake_go args rows caps = some res at h
  unfold lawake_go at h
  split at h
  · simp only [Option.some.injEq] at h
    subst h
    skip
    skip
    exact EX.of (lawake_tree ) (lawake_holds )
  · cases h
end Go.Proofs.Ythfliohfkhnpiaa

