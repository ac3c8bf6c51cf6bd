/- The wheel's synchronization by the symbolic run: wheels, states, a step. -/
import Derived.Test.YtcaadikffaflnaaProg
import Derived.Test.YtcaadikffaflnaaEd
import Derived.Test.YtcaadikffaflnaaOr
namespace Go.Proofs.Ytcaadikffaflnaa
set_option linter.unusedVariables false
set_option linter.unusedSimpArgs false
open Go.RowKit

def isT (t : Int) : Bool := decide (0 ≤ t) && decide (t ≤ 1099511627776)
theorem isT_iff {t : Int} : isT t = true ↔ 0 ≤ t ∧ t ≤ 1099511627776 := by simp [isT]
def wValid (T M : Int) : Bool := (decide (M = 1) || decide (M = 2)) && decide (12 ≤ T) && decide (T ≤ 120) && decide (8 * M ≤ T) && decide (23040 % T = 0)
theorem wValid_iff {T M : Int} : wValid T M = true ↔ (M = 1 ∨ M = 2) ∧ 12 ≤ T ∧ T ≤ 120 ∧ 8 * M ≤ T ∧ 23040 % T = 0 := by simp [wValid, and_assoc]
def tth (T M : Int) : Int := if wValid T M then T - M else 0
def gapB (M no p : Int) : Bool := if M = 1 then decide (3 * no < 2 * p) else decide (2 * no < p)
def fitB (p q : Int) : Bool := decide (4 * max (p - q) (q - p) ≤ q)
def expc (T M th no : Int) : Int := if th = T - M - 1 then (M + 1) * no else no
def sV (T M mo th la pe no te : Int) : Bool :=
  if mo = 0 then decide (th = 0) && decide (la = 0) && decide (pe = 0) && decide (no = 0) && decide (te = 0)
  else if mo = 1 then decide (th = 0) && isT la && (if te = 0 then decide (pe = 0) && decide (no = 0) else (decide (te = 1) || decide (te = 2)) && decide (1 ≤ pe) && decide (pe ≤ la) && decide (no = pe))
  else if mo = 2 then decide (0 ≤ th) && decide (th < T - M) && isT la && decide (1 ≤ pe) && decide (pe ≤ la) && decide (1 ≤ no) && decide (no ≤ pe) && decide (te = 0) else false
def sVd (T M mo th la pe no te : Int) : Bool := wValid T M && sV T M mo th la pe no te
def stp (T M mo th la pe no te t : Int) : List Int :=
  if mo = 1 then (if te = 2 ∧ gapB M no (t - la) = true then [2, 0, t, t - la, (t - la) / (M + 1), 0] else [1, 0, t, t - la, t - la, if te ≠ 0 ∧ fitB (t - la) no = true then 2 else 1])
  else if mo = 2 then (if fitB (t - la) (expc T M th no) = false then [0, 0, 0, 0, 0, 0] else if th = T - M - 1 then [2, 0, t, t - la, (t - la) / (M + 1), 0] else [2, th + 1, t, t - la, t - la, 0])
  else [1, 0, t, 0, 0, 0]
theorem quo_pos {x y : Int} (h0 : 0 ≤ x) (h1 : 1 ≤ y) : 0 ≤ x / y ∧ x / y ≤ x := ⟨Int.ediv_nonneg h0 (by omega), Int.ediv_le_self _ h0⟩
theorem sV_cases {T M mo th la pe no te : Int} (h : sV T M mo th la pe no te = true) : (mo = 0 ∧ th = 0 ∧ la = 0 ∧ pe = 0 ∧ no = 0 ∧ te = 0) ∨
    (mo = 1 ∧ th = 0 ∧ (0 ≤ la ∧ la ≤ 1099511627776) ∧ ((te = 0 ∧ pe = 0 ∧ no = 0) ∨ ((te = 1 ∨ te = 2) ∧ 1 ≤ pe ∧ pe ≤ la ∧ no = pe))) ∨
    (mo = 2 ∧ (0 ≤ th ∧ th < T - M) ∧ (0 ≤ la ∧ la ≤ 1099511627776) ∧ (1 ≤ pe ∧ pe ≤ la) ∧ (1 ≤ no ∧ no ≤ pe) ∧ te = 0) := by
  unfold sV at h
  by_cases h0 : mo = 0
  · rw [if_pos h0] at h
    simp only [Bool.and_eq_true, decide_eq_true_eq] at h
    exact .inl ⟨h0, h.1.1.1.1, h.1.1.1.2, h.1.1.2, h.1.2, h.2⟩
  rw [if_neg h0] at h
  by_cases h1 : mo = 1
  · rw [if_pos h1] at h
    simp only [Bool.and_eq_true, decide_eq_true_eq, isT_iff] at h
    refine .inr (.inl ⟨h1, h.1.1, h.1.2, ?_⟩)
    have h3 := h.2
    by_cases he : te = 0
    · rw [if_pos he] at h3
      simp only [Bool.and_eq_true, decide_eq_true_eq] at h3
      exact .inl ⟨he, h3.1, h3.2⟩
    · rw [if_neg he] at h3
      simp only [Bool.and_eq_true, Bool.or_eq_true, decide_eq_true_eq] at h3
      exact .inr ⟨h3.1.1.1, h3.1.1.2, h3.1.2, h3.2⟩
  rw [if_neg h1] at h
  by_cases h2 : mo = 2
  · rw [if_pos h2] at h
    simp only [Bool.and_eq_true, decide_eq_true_eq, isT_iff] at h
    exact .inr (.inr ⟨h2, ⟨h.1.1.1.1.1.1.1, h.1.1.1.1.1.1.2⟩, h.1.1.1.1.1.2, ⟨h.1.1.1.1.2, h.1.1.1.2⟩, ⟨h.1.1.2, h.1.2⟩, h.2⟩)
  · rw [if_neg h2] at h
    cases h
def q (l : List Int) (k : Nat) : Int := l.getD k 0
def wvalid_res (T : Int) (M : Int) : CRes := ⟨[], .one (.cel (.bool (wValid T M))), []⟩
def wvalid_go : List TV → List RowA → Option CRes := fun args rows =>
  match args, rows with
  | [.agg [.int .i64 T, .int .i64 M]], [] => some (wvalid_res T M)
  | _, _ => none
def wvalid_e : Ent := ⟨29, [], wvalid_go⟩
set_option maxRecDepth 100000 in
theorem wvalid_tree (T : Int) (M : Int) : ((cnd ((!((((((decide (M = (1 : Int))) || (decide (M = (2 : Int)))) && (decide ((12 : Int) ≤ T))) && (decide (T ≤ (120 : Int)))) && (decide ((Go.IntKind.wrap Go.IntKind.i64 ((8 : Int) * M)) ≤ T))) == Bool.true)) || (decide (T ≠ (0 : Int))))
  (((((((decide (M = (1 : Int))) || (decide (M = (2 : Int)))) && (decide ((12 : Int) ≤ T))) && (decide (T ≤ (120 : Int)))) && (decide ((Go.IntKind.wrap Go.IntKind.i64 ((8 : Int) * M)) ≤ T))) && (decide ((Int.tmod (23040 : Int) T) = (0 : Int)))) = (wValid T M))
  False)) = EXD Try.prog (conOf []) Try.f29 [.agg [.int .i64 T, .int .i64 M]] [] (wvalid_res T M) := by kernel_rfl
theorem wvalid_holds (T : Int) (M : Int)  : (cnd ((!((((((decide (M = (1 : Int))) || (decide (M = (2 : Int)))) && (decide ((12 : Int) ≤ T))) && (decide (T ≤ (120 : Int)))) && (decide ((Go.IntKind.wrap Go.IntKind.i64 ((8 : Int) * M)) ≤ T))) == Bool.true)) || (decide (T ≠ (0 : Int))))
  (((((((decide (M = (1 : Int))) || (decide (M = (2 : Int)))) && (decide ((12 : Int) ≤ T))) && (decide (T ≤ (120 : Int)))) && (decide ((Go.IntKind.wrap Go.IntKind.i64 ((8 : Int) * M)) ≤ T))) && (decide ((Int.tmod (23040 : Int) T) = (0 : Int)))) = (wValid T M))
  False) := by
  by_cases hM : M = 1 ∨ M = 2
  · rw [w64 (n := 8 * M) (by omega) (by omega)]
    by_cases hT : 12 ≤ T
    · have e : Int.tmod 23040 T = 23040 % T := tmod_pos (by decide)
      have h0 : decide (T ≠ 0) = true := by simp; omega
      rw [e, h0, Bool.or_true]
      simp only [cnd, wValid]
    · have h0 : decide (12 ≤ T) = false := by simpa using hT
      rw [h0]
      simp [cnd, wValid, h0]
  · have h0 : (decide (M = 1) || decide (M = 2)) = false := by simp; omega
    rw [h0]
    simp [cnd, wValid, h0]
set_option maxHeartbeats 2000000 in
theorem wvalid_ok : SoundEnt Try.prog wvalid_e := by
  refine ent_of_ex (Γ := (conOf [])) (conOf_sound snil) (by kernel_rfl) Try.func29 (by kernel_rfl) (by kernel_rfl) (fun args rows res h ho => ?_)
  change wvalid_go args rows = some res at h
  unfold wvalid_go at h
  split at h
  · simp only [Option.some.injEq] at h
    subst h
    rename_i q0_ q1_
    skip
    exact EX.of (wvalid_tree q0_ q1_) (wvalid_holds q0_ q1_)
  · cases h
def wteeth_res (T : Int) (M : Int) : CRes := ⟨[], .one (.cel (.int .i64 (tth T M))), []⟩
def wteeth_go : List TV → List RowA → Option CRes := fun args rows =>
  match args, rows with
  | [.agg [.int .i64 T, .int .i64 M]], [] => some (wteeth_res T M)
  | _, _ => none
def wteeth_e : Ent := ⟨14, [], wteeth_go⟩
set_option maxRecDepth 100000 in
theorem wteeth_tree (T : Int) (M : Int) : ((cnd (!(wValid T M))
  ((0 : Int) = (tth T M))
  ((Go.IntKind.wrap Go.IntKind.i64 (T - M)) = (tth T M)))) = EXD Try.prog (conOf [wvalid_e]) Try.f14 [.agg [.int .i64 T, .int .i64 M]] [] (wteeth_res T M) := by kernel_rfl
theorem wteeth_holds (T : Int) (M : Int)  : (cnd (!(wValid T M))
  ((0 : Int) = (tth T M))
  ((Go.IntKind.wrap Go.IntKind.i64 (T - M)) = (tth T M))) := by
  unfold tth
  by_cases h : wValid T M = true
  · have hh := wValid_iff.1 h
    simp only [h, Bool.not_true, cnd, if_true]
    rw [w64 (by omega) (by omega)]
  · have h : wValid T M = false := by simpa using h
    simp [h, cnd]
set_option maxHeartbeats 2000000 in
theorem wteeth_ok : SoundEnt Try.prog wteeth_e := by
  refine ent_of_ex (Γ := (conOf [wvalid_e])) (conOf_sound (scons wvalid_ok snil)) (by kernel_rfl) Try.func14 (by kernel_rfl) (by kernel_rfl) (fun args rows res h ho => ?_)
  change wteeth_go args rows = some res at h
  unfold wteeth_go at h
  split at h
  · simp only [Option.some.injEq] at h
    subst h
    rename_i q0_ q1_
    skip
    exact EX.of (wteeth_tree q0_ q1_) (wteeth_holds q0_ q1_)
  · cases h
def wv16_res (T : Int) (M : Int) : CRes := ⟨[], .one (.cel (.bool (wValid T M))), []⟩
def wv16_go : List TV → List RowA → Option CRes := fun args rows =>
  match args, rows with
  | [.agg [.int .i64 T, .int .i64 M]], [] => some (wv16_res T M)
  | _, _ => none
def wv16_e : Ent := ⟨34, [], wv16_go⟩
set_option maxRecDepth 100000 in
theorem wv16_tree (T : Int) (M : Int) : ((cnd ((!((((((decide (M = (1 : Int))) || (decide (M = (2 : Int)))) && (decide ((12 : Int) ≤ T))) && (decide (T ≤ (120 : Int)))) && (decide ((Go.IntKind.wrap Go.IntKind.i64 ((8 : Int) * M)) ≤ T))) == Bool.true)) || (decide (T ≠ (0 : Int))))
  (((((((decide (M = (1 : Int))) || (decide (M = (2 : Int)))) && (decide ((12 : Int) ≤ T))) && (decide (T ≤ (120 : Int)))) && (decide ((Go.IntKind.wrap Go.IntKind.i64 ((8 : Int) * M)) ≤ T))) && (decide ((Int.tmod (23040 : Int) T) = (0 : Int)))) = (wValid T M))
  False)) = EXD Try.prog (conOf []) Try.f34 [.agg [.int .i64 T, .int .i64 M]] [] (wv16_res T M) := by kernel_rfl
theorem wv16_holds (T : Int) (M : Int)  : (cnd ((!((((((decide (M = (1 : Int))) || (decide (M = (2 : Int)))) && (decide ((12 : Int) ≤ T))) && (decide (T ≤ (120 : Int)))) && (decide ((Go.IntKind.wrap Go.IntKind.i64 ((8 : Int) * M)) ≤ T))) == Bool.true)) || (decide (T ≠ (0 : Int))))
  (((((((decide (M = (1 : Int))) || (decide (M = (2 : Int)))) && (decide ((12 : Int) ≤ T))) && (decide (T ≤ (120 : Int)))) && (decide ((Go.IntKind.wrap Go.IntKind.i64 ((8 : Int) * M)) ≤ T))) && (decide ((Int.tmod (23040 : Int) T) = (0 : Int)))) = (wValid T M))
  False) := by
  by_cases hM : M = 1 ∨ M = 2
  · rw [w64 (n := 8 * M) (by omega) (by omega)]
    by_cases hT : 12 ≤ T
    · have e : Int.tmod 23040 T = 23040 % T := tmod_pos (by decide)
      have h0 : decide (T ≠ 0) = true := by simp; omega
      rw [e, h0, Bool.or_true]
      simp only [cnd, wValid]
    · have h0 : decide (12 ≤ T) = false := by simpa using hT
      rw [h0]
      simp [cnd, wValid, h0]
  · have h0 : (decide (M = 1) || decide (M = 2)) = false := by simp; omega
    rw [h0]
    simp [cnd, wValid, h0]
set_option maxHeartbeats 2000000 in
theorem wv16_ok : SoundEnt Try.prog wv16_e := by
  refine ent_of_ex (Γ := (conOf [])) (conOf_sound snil) (by kernel_rfl) Try.func34 (by kernel_rfl) (by kernel_rfl) (fun args rows res h ho => ?_)
  change wv16_go args rows = some res at h
  unfold wv16_go at h
  split at h
  · simp only [Option.some.injEq] at h
    subst h
    rename_i q0_ q1_
    skip
    exact EX.of (wv16_tree q0_ q1_) (wv16_holds q0_ q1_)
  · cases h
def wt16_res (T : Int) (M : Int) : CRes := ⟨[wValid T M], .one (.cel (.int .i64 (tth T M))), []⟩
def wt16_go : List TV → List RowA → Option CRes := fun args rows =>
  match args, rows with
  | [.agg [.int .i64 T, .int .i64 M]], [] => some (wt16_res T M)
  | _, _ => none
def wt16_e : Ent := ⟨35, [], wt16_go⟩
set_option maxRecDepth 100000 in
theorem wt16_tree (T : Int) (M : Int) : (((Go.IntKind.wrap Go.IntKind.i64 (T - M)) = (tth T M))) = EXD Try.prog (conOf []) Try.f35 [.agg [.int .i64 T, .int .i64 M]] [] (wt16_res T M) := by kernel_rfl
theorem wt16_holds (T : Int) (M : Int) (p0 : wValid T M = true) : ((Go.IntKind.wrap Go.IntKind.i64 (T - M)) = (tth T M)) := by
  have hh := wValid_iff.1 p0
  unfold tth
  rw [if_pos p0, w64 (by omega) (by omega)]
set_option maxHeartbeats 2000000 in
theorem wt16_ok : SoundEnt Try.prog wt16_e := by
  refine ent_of_ex (Γ := (conOf [])) (conOf_sound snil) (by kernel_rfl) Try.func35 (by kernel_rfl) (by kernel_rfl) (fun args rows res h ho => ?_)
  change wt16_go args rows = some res at h
  unfold wt16_go at h
  split at h
  · simp only [Option.some.injEq] at h
    subst h
    rename_i q0_ q1_
    obtain ⟨p0, _⟩ := ho
    exact EX.of (wt16_tree q0_ q1_) (wt16_holds q0_ q1_ p0)
  · cases h
def instant_res (t : Int) : CRes := ⟨[], .one (.cel (.bool (isT t))), []⟩
def instant_go : List TV → List RowA → Option CRes := fun args rows =>
  match args, rows with
  | [.cel (.int .i64 t)], [] => some (instant_res t)
  | _, _ => none
def instant_e : Ent := ⟨31, [], instant_go⟩
set_option maxRecDepth 100000 in
theorem instant_tree (t : Int) : ((((decide ((0 : Int) ≤ t)) && (decide (t ≤ (1099511627776 : Int)))) = (isT t))) = EXD Try.prog (conOf []) Try.f31 [.cel (.int .i64 t)] [] (instant_res t) := by kernel_rfl
theorem instant_holds (t : Int)  : (((decide ((0 : Int) ≤ t)) && (decide (t ≤ (1099511627776 : Int)))) = (isT t)) := by
  rfl
set_option maxHeartbeats 2000000 in
theorem instant_ok : SoundEnt Try.prog instant_e := by
  refine ent_of_ex (Γ := (conOf [])) (conOf_sound snil) (by kernel_rfl) Try.func31 (by kernel_rfl) (by kernel_rfl) (fun args rows res h ho => ?_)
  change instant_go args rows = some res at h
  unfold instant_go at h
  split at h
  · simp only [Option.some.injEq] at h
    subst h
    rename_i q0_
    skip
    exact EX.of (instant_tree q0_) (instant_holds q0_)
  · cases h
def rtime_res (t : Int) : CRes := ⟨[], .one (.cel (.bool (isT t))), []⟩
def rtime_go : List TV → List RowA → Option CRes := fun args rows =>
  match args, rows with
  | [.cel (.int .i64 t)], [] => some (rtime_res t)
  | _, _ => none
def rtime_e : Ent := ⟨19, [], rtime_go⟩
set_option maxRecDepth 100000 in
theorem rtime_tree (t : Int) : ((((decide ((0 : Int) ≤ t)) && (decide (t ≤ (1099511627776 : Int)))) = (isT t))) = EXD Try.prog (conOf []) Try.f19 [.cel (.int .i64 t)] [] (rtime_res t) := by kernel_rfl
theorem rtime_holds (t : Int)  : (((decide ((0 : Int) ≤ t)) && (decide (t ≤ (1099511627776 : Int)))) = (isT t)) := by
  rfl
set_option maxHeartbeats 2000000 in
theorem rtime_ok : SoundEnt Try.prog rtime_e := by
  refine ent_of_ex (Γ := (conOf [])) (conOf_sound snil) (by kernel_rfl) Try.func19 (by kernel_rfl) (by kernel_rfl) (fun args rows res h ho => ?_)
  change rtime_go args rows = some res at h
  unfold rtime_go at h
  split at h
  · simp only [Option.some.injEq] at h
    subst h
    rename_i q0_
    skip
    exact EX.of (rtime_tree q0_) (rtime_holds q0_)
  · cases h
def sgap_res (T : Int) (M : Int) (no : Int) (p : Int) : CRes := ⟨[decide (-2199023255552 ≤ no), decide (no ≤ 2199023255552), decide (-2199023255552 ≤ p), decide (p ≤ 2199023255552)], .one (.cel (.bool (gapB M no p))), []⟩
def sgap_go : List TV → List RowA → Option CRes := fun args rows =>
  match args, rows with
  | [.agg [.int .i64 T, .int .i64 M], .cel (.int .i64 no), .cel (.int .i64 p)], [] => some (sgap_res T M no p)
  | _, _ => none
def sgap_e : Ent := ⟨33, [], sgap_go⟩
set_option maxRecDepth 100000 in
theorem sgap_tree (T : Int) (M : Int) (no : Int) (p : Int) : ((cnd (decide (M = (1 : Int)))
  ((decide ((Go.IntKind.wrap Go.IntKind.i64 ((3 : Int) * no)) < (Go.IntKind.wrap Go.IntKind.i64 ((2 : Int) * p)))) = (gapB M no p))
  ((decide ((Go.IntKind.wrap Go.IntKind.i64 ((2 : Int) * no)) < p)) = (gapB M no p)))) = EXD Try.prog (conOf []) Try.f33 [.agg [.int .i64 T, .int .i64 M], .cel (.int .i64 no), .cel (.int .i64 p)] [] (sgap_res T M no p) := by kernel_rfl
theorem sgap_holds (T : Int) (M : Int) (no : Int) (p : Int) (p0 : decide (-2199023255552 ≤ no) = true) (p1 : decide (no ≤ 2199023255552) = true) (p2 : decide (-2199023255552 ≤ p) = true) (p3 : decide (p ≤ 2199023255552) = true) : (cnd (decide (M = (1 : Int)))
  ((decide ((Go.IntKind.wrap Go.IntKind.i64 ((3 : Int) * no)) < (Go.IntKind.wrap Go.IntKind.i64 ((2 : Int) * p)))) = (gapB M no p))
  ((decide ((Go.IntKind.wrap Go.IntKind.i64 ((2 : Int) * no)) < p)) = (gapB M no p))) := by
  simp only [decide_eq_true_eq] at p0 p1 p2 p3
  rw [w64 (n := 3 * no) (by omega) (by omega), w64 (n := 2 * p) (by omega) (by omega), w64 (n := 2 * no) (by omega) (by omega)]
  unfold gapB
  by_cases h : M = 1
  · simp [h, cnd]
  · simp [h, cnd]
set_option maxHeartbeats 2000000 in
theorem sgap_ok : SoundEnt Try.prog sgap_e := by
  refine ent_of_ex (Γ := (conOf [])) (conOf_sound snil) (by kernel_rfl) Try.func33 (by kernel_rfl) (by kernel_rfl) (fun args rows res h ho => ?_)
  change sgap_go args rows = some res at h
  unfold sgap_go at h
  split at h
  · simp only [Option.some.injEq] at h
    subst h
    rename_i q0_ q1_ q2_ q3_
    obtain ⟨p0, p1, p2, p3, _⟩ := ho
    exact EX.of (sgap_tree q0_ q1_ q2_ q3_) (sgap_holds q0_ q1_ q2_ q3_ p0 p1 p2 p3)
  · cases h
def sGap_res (T : Int) (M : Int) (no : Int) (p : Int) : CRes := ⟨[], .one (.cel (.bool (wValid T M && decide (1 ≤ no) && decide (no ≤ 1099511627776) && decide (1 ≤ p) && decide (p ≤ 1099511627776) && gapB M no p))), []⟩
def sGap_go : List TV → List RowA → Option CRes := fun args rows =>
  match args, rows with
  | [.agg [.int .i64 T, .int .i64 M], .cel (.int .i64 no), .cel (.int .i64 p)], [] => some (sGap_res T M no p)
  | _, _ => none
def sGap_e : Ent := ⟨15, [], sGap_go⟩
set_option maxRecDepth 100000 in
theorem sGap_tree (T : Int) (M : Int) (no : Int) (p : Int) : ((cnd ((!((((((wValid T M) && (decide ((1 : Int) ≤ no))) && (decide (no ≤ (1099511627776 : Int)))) && (decide ((1 : Int) ≤ p))) && (decide (p ≤ (1099511627776 : Int)))) == Bool.true)) || (decide ((-(2199023255552 : Int)) ≤ no)))
  (cnd ((!((((((wValid T M) && (decide ((1 : Int) ≤ no))) && (decide (no ≤ (1099511627776 : Int)))) && (decide ((1 : Int) ≤ p))) && (decide (p ≤ (1099511627776 : Int)))) == Bool.true)) || (decide (no ≤ (2199023255552 : Int))))
    (cnd ((!((((((wValid T M) && (decide ((1 : Int) ≤ no))) && (decide (no ≤ (1099511627776 : Int)))) && (decide ((1 : Int) ≤ p))) && (decide (p ≤ (1099511627776 : Int)))) == Bool.true)) || (decide ((-(2199023255552 : Int)) ≤ p)))
      (cnd ((!((((((wValid T M) && (decide ((1 : Int) ≤ no))) && (decide (no ≤ (1099511627776 : Int)))) && (decide ((1 : Int) ≤ p))) && (decide (p ≤ (1099511627776 : Int)))) == Bool.true)) || (decide (p ≤ (2199023255552 : Int))))
        (((((((wValid T M) && (decide ((1 : Int) ≤ no))) && (decide (no ≤ (1099511627776 : Int)))) && (decide ((1 : Int) ≤ p))) && (decide (p ≤ (1099511627776 : Int)))) && (gapB M no p)) = ((((((wValid T M) && (decide ((1 : Int) ≤ no))) && (decide (no ≤ (1099511627776 : Int)))) && (decide ((1 : Int) ≤ p))) && (decide (p ≤ (1099511627776 : Int)))) && (gapB M no p)))
        False)
      False)
    False)
  False)) = EXD Try.prog (conOf [wvalid_e, sgap_e]) Try.f15 [.agg [.int .i64 T, .int .i64 M], .cel (.int .i64 no), .cel (.int .i64 p)] [] (sGap_res T M no p) := by kernel_rfl
theorem sGap_holds (T : Int) (M : Int) (no : Int) (p : Int)  : (cnd ((!((((((wValid T M) && (decide ((1 : Int) ≤ no))) && (decide (no ≤ (1099511627776 : Int)))) && (decide ((1 : Int) ≤ p))) && (decide (p ≤ (1099511627776 : Int)))) == Bool.true)) || (decide ((-(2199023255552 : Int)) ≤ no)))
  (cnd ((!((((((wValid T M) && (decide ((1 : Int) ≤ no))) && (decide (no ≤ (1099511627776 : Int)))) && (decide ((1 : Int) ≤ p))) && (decide (p ≤ (1099511627776 : Int)))) == Bool.true)) || (decide (no ≤ (2199023255552 : Int))))
    (cnd ((!((((((wValid T M) && (decide ((1 : Int) ≤ no))) && (decide (no ≤ (1099511627776 : Int)))) && (decide ((1 : Int) ≤ p))) && (decide (p ≤ (1099511627776 : Int)))) == Bool.true)) || (decide ((-(2199023255552 : Int)) ≤ p)))
      (cnd ((!((((((wValid T M) && (decide ((1 : Int) ≤ no))) && (decide (no ≤ (1099511627776 : Int)))) && (decide ((1 : Int) ≤ p))) && (decide (p ≤ (1099511627776 : Int)))) == Bool.true)) || (decide (p ≤ (2199023255552 : Int))))
        (((((((wValid T M) && (decide ((1 : Int) ≤ no))) && (decide (no ≤ (1099511627776 : Int)))) && (decide ((1 : Int) ≤ p))) && (decide (p ≤ (1099511627776 : Int)))) && (gapB M no p)) = ((((((wValid T M) && (decide ((1 : Int) ≤ no))) && (decide (no ≤ (1099511627776 : Int)))) && (decide ((1 : Int) ≤ p))) && (decide (p ≤ (1099511627776 : Int)))) && (gapB M no p)))
        False)
      False)
    False)
  False) := by
  by_cases h : 1 ≤ no ∧ no ≤ 1099511627776 ∧ 1 ≤ p ∧ p ≤ 1099511627776
  · have j1 : decide (-2199023255552 ≤ no) = true := by rw [decide_eq_true_eq]; omega
    have j2 : decide (no ≤ 2199023255552) = true := by rw [decide_eq_true_eq]; omega
    have j3 : decide (-2199023255552 ≤ p) = true := by rw [decide_eq_true_eq]; omega
    have j4 : decide (p ≤ 2199023255552) = true := by rw [decide_eq_true_eq]; omega
    simp only [j1, j2, j3, j4, Bool.or_true, cnd]
  · have j : ((((wValid T M && decide (1 ≤ no)) && decide (no ≤ 1099511627776)) && decide (1 ≤ p)) && decide (p ≤ 1099511627776)) = false := by
      rw [Bool.eq_false_iff]
      intro hh
      simp only [Bool.and_eq_true, decide_eq_true_eq] at hh
      exact h ⟨hh.1.1.1.2, hh.1.1.2, hh.1.2, hh.2⟩
    rw [j]
    simp [cnd]
set_option maxHeartbeats 2000000 in
theorem sGap_ok : SoundEnt Try.prog sGap_e := by
  refine ent_of_ex (Γ := (conOf [wvalid_e, sgap_e])) (conOf_sound (scons wvalid_ok (scons sgap_ok snil))) (by kernel_rfl) Try.func15 (by kernel_rfl) (by kernel_rfl) (fun args rows res h ho => ?_)
  change sGap_go args rows = some res at h
  unfold sGap_go at h
  split at h
  · simp only [Option.some.injEq] at h
    subst h
    rename_i q0_ q1_ q2_ q3_
    skip
    exact EX.of (sGap_tree q0_ q1_ q2_ q3_) (sGap_holds q0_ q1_ q2_ q3_)
  · cases h
def rGap_res (T : Int) (M : Int) (no : Int) (p : Int) : CRes := ⟨[], .one (.cel (.bool (wValid T M && decide (1 ≤ no) && decide (no ≤ 1099511627776) && decide (1 ≤ p) && decide (p ≤ 1099511627776) && gapB M no p))), []⟩
def rGap_go : List TV → List RowA → Option CRes := fun args rows =>
  match args, rows with
  | [.agg [.int .i64 T, .int .i64 M], .cel (.int .i64 no), .cel (.int .i64 p)], [] => some (rGap_res T M no p)
  | _, _ => none
def rGap_e : Ent := ⟨22, [], rGap_go⟩
set_option maxRecDepth 100000 in
theorem rGap_tree (T : Int) (M : Int) (no : Int) (p : Int) : ((cnd (((((!(wValid T M)) || (decide (no < (1 : Int)))) || (decide ((1099511627776 : Int) < no))) || (decide (p < (1 : Int)))) || (decide ((1099511627776 : Int) < p)))
  (Bool.false = ((((((wValid T M) && (decide ((1 : Int) ≤ no))) && (decide (no ≤ (1099511627776 : Int)))) && (decide ((1 : Int) ≤ p))) && (decide (p ≤ (1099511627776 : Int)))) && (gapB M no p)))
  (cnd (decide (M = (1 : Int)))
    ((decide ((Go.IntKind.wrap Go.IntKind.i64 ((3 : Int) * no)) < (Go.IntKind.wrap Go.IntKind.i64 ((2 : Int) * p)))) = ((((((wValid T M) && (decide ((1 : Int) ≤ no))) && (decide (no ≤ (1099511627776 : Int)))) && (decide ((1 : Int) ≤ p))) && (decide (p ≤ (1099511627776 : Int)))) && (gapB M no p)))
    ((decide ((Go.IntKind.wrap Go.IntKind.i64 ((2 : Int) * no)) < p)) = ((((((wValid T M) && (decide ((1 : Int) ≤ no))) && (decide (no ≤ (1099511627776 : Int)))) && (decide ((1 : Int) ≤ p))) && (decide (p ≤ (1099511627776 : Int)))) && (gapB M no p)))))) = EXD Try.prog (conOf [wv16_e]) Try.f22 [.agg [.int .i64 T, .int .i64 M], .cel (.int .i64 no), .cel (.int .i64 p)] [] (rGap_res T M no p) := by kernel_rfl
theorem rGap_holds (T : Int) (M : Int) (no : Int) (p : Int)  : (cnd (((((!(wValid T M)) || (decide (no < (1 : Int)))) || (decide ((1099511627776 : Int) < no))) || (decide (p < (1 : Int)))) || (decide ((1099511627776 : Int) < p)))
  (Bool.false = ((((((wValid T M) && (decide ((1 : Int) ≤ no))) && (decide (no ≤ (1099511627776 : Int)))) && (decide ((1 : Int) ≤ p))) && (decide (p ≤ (1099511627776 : Int)))) && (gapB M no p)))
  (cnd (decide (M = (1 : Int)))
    ((decide ((Go.IntKind.wrap Go.IntKind.i64 ((3 : Int) * no)) < (Go.IntKind.wrap Go.IntKind.i64 ((2 : Int) * p)))) = ((((((wValid T M) && (decide ((1 : Int) ≤ no))) && (decide (no ≤ (1099511627776 : Int)))) && (decide ((1 : Int) ≤ p))) && (decide (p ≤ (1099511627776 : Int)))) && (gapB M no p)))
    ((decide ((Go.IntKind.wrap Go.IntKind.i64 ((2 : Int) * no)) < p)) = ((((((wValid T M) && (decide ((1 : Int) ≤ no))) && (decide (no ≤ (1099511627776 : Int)))) && (decide ((1 : Int) ≤ p))) && (decide (p ≤ (1099511627776 : Int)))) && (gapB M no p))))) := by
  by_cases h : (1 ≤ no ∧ no ≤ 1099511627776 ∧ 1 ≤ p ∧ p ≤ 1099511627776) ∧ wValid T M = true
  · obtain ⟨⟨h1, h2, h3, h4⟩, h5⟩ := h
    have e1 : ¬ no < 1 := by omega
    have e2 : ¬ 1099511627776 < no := by omega
    have e3 : ¬ p < 1 := by omega
    have e4 : ¬ 1099511627776 < p := by omega
    rw [w64 (n := 3 * no) (by omega) (by omega), w64 (n := 2 * p) (by omega) (by omega), w64 (n := 2 * no) (by omega) (by omega)]
    by_cases hm : M = 1
    · subst hm
      simp [h1, h2, h3, h4, h5, e1, e2, e3, e4, gapB, cnd]
    · simp [h1, h2, h3, h4, h5, e1, e2, e3, e4, hm, gapB, cnd]
  · have j : (((((!(wValid T M)) || (decide (no < (1 : Int)))) || (decide ((1099511627776 : Int) < no))) || (decide (p < (1 : Int)))) || (decide ((1099511627776 : Int) < p))) = true := by
      cases hw : wValid T M with
      | false => simp
      | true =>
        simp only [Bool.or_eq_true, decide_eq_true_eq]
        have : ¬ (1 ≤ no ∧ no ≤ 1099511627776 ∧ 1 ≤ p ∧ p ≤ 1099511627776) := fun hh => h ⟨hh, hw⟩
        simp
        omega
    have j2 : ((((wValid T M && decide (1 ≤ no)) && decide (no ≤ 1099511627776)) && decide (1 ≤ p)) && decide (p ≤ 1099511627776)) = false := by
      rw [Bool.eq_false_iff]
      intro hh
      simp only [Bool.and_eq_true, decide_eq_true_eq] at hh
      exact h ⟨⟨hh.1.1.1.2, hh.1.1.2, hh.1.2, hh.2⟩, hh.1.1.1.1⟩
    rw [j, j2]
    simp [cnd]
set_option maxHeartbeats 2000000 in
theorem rGap_ok : SoundEnt Try.prog rGap_e := by
  refine ent_of_ex (Γ := (conOf [wv16_e])) (conOf_sound (scons wv16_ok snil)) (by kernel_rfl) Try.func22 (by kernel_rfl) (by kernel_rfl) (fun args rows res h ho => ?_)
  change rGap_go args rows = some res at h
  unfold rGap_go at h
  split at h
  · simp only [Option.some.injEq] at h
    subst h
    rename_i q0_ q1_ q2_ q3_
    skip
    exact EX.of (rGap_tree q0_ q1_ q2_ q3_) (rGap_holds q0_ q1_ q2_ q3_)
  · cases h
def fits_res (p : Int) (q0 : Int) : CRes := ⟨[decide (-2199023255552 ≤ p), decide (p ≤ 2199023255552), decide (-8796093022208 ≤ q0), decide (q0 ≤ 8796093022208)], .one (.cel (.bool (fitB p q0))), []⟩
def fits_go : List TV → List RowA → Option CRes := fun args rows =>
  match args, rows with
  | [.cel (.int .i64 p), .cel (.int .i64 q0)], [] => some (fits_res p q0)
  | _, _ => none
def fits_e : Ent := ⟨39, [], fits_go⟩
set_option maxRecDepth 100000 in
theorem fits_tree (p : Int) (q0 : Int) : (((decide ((Go.IntKind.wrap Go.IntKind.i64 ((4 : Int) * (gmax (Go.IntKind.wrap Go.IntKind.i64 (p - q0)) (Go.IntKind.wrap Go.IntKind.i64 (q0 - p))))) ≤ q0)) = (fitB p q0))) = EXD Try.prog (conOf []) Try.f39 [.cel (.int .i64 p), .cel (.int .i64 q0)] [] (fits_res p q0) := by kernel_rfl
theorem fits_holds (p : Int) (q0 : Int) (p0 : decide (-2199023255552 ≤ p) = true) (p1 : decide (p ≤ 2199023255552) = true) (p2 : decide (-8796093022208 ≤ q0) = true) (p3 : decide (q0 ≤ 8796093022208) = true) : ((decide ((Go.IntKind.wrap Go.IntKind.i64 ((4 : Int) * (gmax (Go.IntKind.wrap Go.IntKind.i64 (p - q0)) (Go.IntKind.wrap Go.IntKind.i64 (q0 - p))))) ≤ q0)) = (fitB p q0)) := by
  simp only [decide_eq_true_eq] at p0 p1 p2 p3
  rw [w64 (n := p - q0) (by omega) (by omega), w64 (n := q0 - p) (by omega) (by omega)]
  have e : gmax (p - q0) (q0 - p) = max (p - q0) (q0 - p) := by unfold gmax; omega
  rw [e, w64 (n := 4 * max (p - q0) (q0 - p)) (by omega) (by omega)]
  rfl
set_option maxHeartbeats 2000000 in
theorem fits_ok : SoundEnt Try.prog fits_e := by
  refine ent_of_ex (Γ := (conOf [])) (conOf_sound snil) (by kernel_rfl) Try.func39 (by kernel_rfl) (by kernel_rfl) (fun args rows res h ho => ?_)
  change fits_go args rows = some res at h
  unfold fits_go at h
  split at h
  · simp only [Option.some.injEq] at h
    subst h
    rename_i q0_ q1_
    obtain ⟨p0, p1, p2, p3, _⟩ := ho
    exact EX.of (fits_tree q0_ q1_) (fits_holds q0_ q1_ p0 p1 p2 p3)
  · cases h
def rfits_res (p : Int) (q0 : Int) : CRes := ⟨[decide (-2199023255552 ≤ p), decide (p ≤ 2199023255552), decide (-8796093022208 ≤ q0), decide (q0 ≤ 8796093022208)], .one (.cel (.bool (fitB p q0))), []⟩
def rfits_go : List TV → List RowA → Option CRes := fun args rows =>
  match args, rows with
  | [.cel (.int .i64 p), .cel (.int .i64 q0)], [] => some (rfits_res p q0)
  | _, _ => none
def rfits_e : Ent := ⟨36, [], rfits_go⟩
set_option maxRecDepth 100000 in
theorem rfits_tree (p : Int) (q0 : Int) : ((cnd (decide ((Go.IntKind.wrap Go.IntKind.i64 (p - q0)) < (0 : Int)))
  ((decide ((Go.IntKind.wrap Go.IntKind.i64 ((4 : Int) * (Go.IntKind.wrap Go.IntKind.i64 ((0 : Int) - (Go.IntKind.wrap Go.IntKind.i64 (p - q0)))))) ≤ q0)) = (fitB p q0))
  ((decide ((Go.IntKind.wrap Go.IntKind.i64 ((4 : Int) * (Go.IntKind.wrap Go.IntKind.i64 (p - q0)))) ≤ q0)) = (fitB p q0)))) = EXD Try.prog (conOf []) Try.f36 [.cel (.int .i64 p), .cel (.int .i64 q0)] [] (rfits_res p q0) := by kernel_rfl
theorem rfits_holds (p : Int) (q0 : Int) (p0 : decide (-2199023255552 ≤ p) = true) (p1 : decide (p ≤ 2199023255552) = true) (p2 : decide (-8796093022208 ≤ q0) = true) (p3 : decide (q0 ≤ 8796093022208) = true) : (cnd (decide ((Go.IntKind.wrap Go.IntKind.i64 (p - q0)) < (0 : Int)))
  ((decide ((Go.IntKind.wrap Go.IntKind.i64 ((4 : Int) * (Go.IntKind.wrap Go.IntKind.i64 ((0 : Int) - (Go.IntKind.wrap Go.IntKind.i64 (p - q0)))))) ≤ q0)) = (fitB p q0))
  ((decide ((Go.IntKind.wrap Go.IntKind.i64 ((4 : Int) * (Go.IntKind.wrap Go.IntKind.i64 (p - q0)))) ≤ q0)) = (fitB p q0))) := by
  simp only [decide_eq_true_eq] at p0 p1 p2 p3
  rw [w64 (n := p - q0) (by omega) (by omega), w64 (n := 0 - (p - q0)) (by omega) (by omega), w64 (n := 4 * (0 - (p - q0))) (by omega) (by omega), w64 (n := 4 * (p - q0)) (by omega) (by omega)]
  unfold fitB
  by_cases h : p - q0 < 0
  · rw [decide_eq_true h, show max (p - q0) (q0 - p) = 0 - (p - q0) by omega]
    trivial
  · rw [decide_eq_false h, show max (p - q0) (q0 - p) = p - q0 by omega]
    trivial
set_option maxHeartbeats 2000000 in
theorem rfits_ok : SoundEnt Try.prog rfits_e := by
  refine ent_of_ex (Γ := (conOf [])) (conOf_sound snil) (by kernel_rfl) Try.func36 (by kernel_rfl) (by kernel_rfl) (fun args rows res h ho => ?_)
  change rfits_go args rows = some res at h
  unfold rfits_go at h
  split at h
  · simp only [Option.some.injEq] at h
    subst h
    rename_i q0_ q1_
    obtain ⟨p0, p1, p2, p3, _⟩ := ho
    exact EX.of (rfits_tree q0_ q1_) (rfits_holds q0_ q1_ p0 p1 p2 p3)
  · cases h
def slast_res (T : Int) (M : Int) (mo : Int) (th : Int) (la : Int) (pe : Int) (no : Int) (te : Int) : CRes := ⟨[wValid T M], .one (.cel (.bool (decide (th = T - M - 1)))), []⟩
def slast_go : List TV → List RowA → Option CRes := fun args rows =>
  match args, rows with
  | [.agg [.int .i64 T, .int .i64 M], .agg [.int .i64 mo, .int .i64 th, .int .i64 la, .int .i64 pe, .int .i64 no, .int .i64 te]], [] => some (slast_res T M mo th la pe no te)
  | _, _ => none
def slast_e : Ent := ⟨40, [], slast_go⟩
set_option maxRecDepth 100000 in
theorem slast_tree (T : Int) (M : Int) (mo : Int) (th : Int) (la : Int) (pe : Int) (no : Int) (te : Int) : (((decide (th = (Go.IntKind.wrap Go.IntKind.i64 ((tth T M) - (1 : Int))))) = (decide (th = ((T - M) - (1 : Int)))))) = EXD Try.prog (conOf [wteeth_e]) Try.f40 [.agg [.int .i64 T, .int .i64 M], .agg [.int .i64 mo, .int .i64 th, .int .i64 la, .int .i64 pe, .int .i64 no, .int .i64 te]] [] (slast_res T M mo th la pe no te) := by kernel_rfl
theorem slast_holds (T : Int) (M : Int) (mo : Int) (th : Int) (la : Int) (pe : Int) (no : Int) (te : Int) (p0 : wValid T M = true) : ((decide (th = (Go.IntKind.wrap Go.IntKind.i64 ((tth T M) - (1 : Int))))) = (decide (th = ((T - M) - (1 : Int))))) := by
  have hh := wValid_iff.1 p0
  have e : tth T M = T - M := by unfold tth; rw [if_pos p0]
  rw [e, w64 (n := T - M - 1) (by omega) (by omega)]
set_option maxHeartbeats 2000000 in
theorem slast_ok : SoundEnt Try.prog slast_e := by
  refine ent_of_ex (Γ := (conOf [wteeth_e])) (conOf_sound (scons wteeth_ok snil)) (by kernel_rfl) Try.func40 (by kernel_rfl) (by kernel_rfl) (fun args rows res h ho => ?_)
  change slast_go args rows = some res at h
  unfold slast_go at h
  split at h
  · simp only [Option.some.injEq] at h
    subst h
    rename_i q0_ q1_ q2_ q3_ q4_ q5_ q6_ q7_
    obtain ⟨p0, _⟩ := ho
    exact EX.of (slast_tree q0_ q1_ q2_ q3_ q4_ q5_ q6_ q7_) (slast_holds q0_ q1_ q2_ q3_ q4_ q5_ q6_ q7_ p0)
  · cases h
def expected_res (T : Int) (M : Int) (mo : Int) (th : Int) (la : Int) (pe : Int) (no : Int) (te : Int) : CRes := ⟨[wValid T M, decide (-2199023255552 ≤ no), decide (no ≤ 2199023255552)], .one (.cel (.int .i64 (expc T M th no))), []⟩
def expected_go : List TV → List RowA → Option CRes := fun args rows =>
  match args, rows with
  | [.agg [.int .i64 T, .int .i64 M], .agg [.int .i64 mo, .int .i64 th, .int .i64 la, .int .i64 pe, .int .i64 no, .int .i64 te]], [] => some (expected_res T M mo th la pe no te)
  | _, _ => none
def expected_e : Ent := ⟨38, [], expected_go⟩
set_option maxRecDepth 100000 in
theorem expected_tree (T : Int) (M : Int) (mo : Int) (th : Int) (la : Int) (pe : Int) (no : Int) (te : Int) : ((cnd (wValid T M)
  (cnd (decide (th = ((T - M) - (1 : Int))))
    ((Go.IntKind.wrap Go.IntKind.i64 ((Go.IntKind.wrap Go.IntKind.i64 (M + (1 : Int))) * no)) = (expc T M th no))
    (no = (expc T M th no)))
  False)) = EXD Try.prog (conOf [slast_e]) Try.f38 [.agg [.int .i64 T, .int .i64 M], .agg [.int .i64 mo, .int .i64 th, .int .i64 la, .int .i64 pe, .int .i64 no, .int .i64 te]] [] (expected_res T M mo th la pe no te) := by kernel_rfl
theorem expected_holds (T : Int) (M : Int) (mo : Int) (th : Int) (la : Int) (pe : Int) (no : Int) (te : Int) (p0 : wValid T M = true) (p1 : decide (-2199023255552 ≤ no) = true) (p2 : decide (no ≤ 2199023255552) = true) : (cnd (wValid T M)
  (cnd (decide (th = ((T - M) - (1 : Int))))
    ((Go.IntKind.wrap Go.IntKind.i64 ((Go.IntKind.wrap Go.IntKind.i64 (M + (1 : Int))) * no)) = (expc T M th no))
    (no = (expc T M th no)))
  False) := by
  have hh := wValid_iff.1 p0
  simp only [decide_eq_true_eq] at p1 p2
  have e : tth T M = T - M := by unfold tth; rw [if_pos p0]
  have hm : -8796093022208 ≤ (M + 1) * no ∧ (M + 1) * no ≤ 8796093022208 := by
    rcases hh.1 with h | h
    · rw [h]; omega
    · rw [h]; omega
  rw [w64 (n := M + 1) (by omega) (by omega), w64 (n := (M + 1) * no) (by omega) (by omega)]
  unfold expc
  by_cases h : th = T - M - 1
  · simp [h, p0, cnd]
  · simp [h, p0, cnd]
set_option maxHeartbeats 2000000 in
theorem expected_ok : SoundEnt Try.prog expected_e := by
  refine ent_of_ex (Γ := (conOf [slast_e])) (conOf_sound (scons slast_ok snil)) (by kernel_rfl) Try.func38 (by kernel_rfl) (by kernel_rfl) (fun args rows res h ho => ?_)
  change expected_go args rows = some res at h
  unfold expected_go at h
  split at h
  · simp only [Option.some.injEq] at h
    subst h
    rename_i q0_ q1_ q2_ q3_ q4_ q5_ q6_ q7_
    obtain ⟨p0, p1, p2, _⟩ := ho
    exact EX.of (expected_tree q0_ q1_ q2_ q3_ q4_ q5_ q6_ q7_) (expected_holds q0_ q1_ q2_ q3_ q4_ q5_ q6_ q7_ p0 p1 p2)
  · cases h
def rexpected_res (T : Int) (M : Int) (mo : Int) (th : Int) (la : Int) (pe : Int) (no : Int) (te : Int) : CRes := ⟨[wValid T M, decide (-2199023255552 ≤ no), decide (no ≤ 2199023255552)], .one (.cel (.int .i64 (expc T M th no))), []⟩
def rexpected_go : List TV → List RowA → Option CRes := fun args rows =>
  match args, rows with
  | [.agg [.int .i64 T, .int .i64 M], .agg [.int .i64 mo, .int .i64 th, .int .i64 la, .int .i64 pe, .int .i64 no, .int .i64 te]], [] => some (rexpected_res T M mo th la pe no te)
  | _, _ => none
def rexpected_e : Ent := ⟨37, [], rexpected_go⟩
set_option maxRecDepth 100000 in
theorem rexpected_tree (T : Int) (M : Int) (mo : Int) (th : Int) (la : Int) (pe : Int) (no : Int) (te : Int) : ((cnd (wValid T M)
  (cnd (decide (th = (Go.IntKind.wrap Go.IntKind.i64 ((tth T M) - (1 : Int)))))
    ((Go.IntKind.wrap Go.IntKind.i64 ((Go.IntKind.wrap Go.IntKind.i64 (M + (1 : Int))) * no)) = (expc T M th no))
    (no = (expc T M th no)))
  False)) = EXD Try.prog (conOf [wt16_e]) Try.f37 [.agg [.int .i64 T, .int .i64 M], .agg [.int .i64 mo, .int .i64 th, .int .i64 la, .int .i64 pe, .int .i64 no, .int .i64 te]] [] (rexpected_res T M mo th la pe no te) := by kernel_rfl
theorem rexpected_holds (T : Int) (M : Int) (mo : Int) (th : Int) (la : Int) (pe : Int) (no : Int) (te : Int) (p0 : wValid T M = true) (p1 : decide (-2199023255552 ≤ no) = true) (p2 : decide (no ≤ 2199023255552) = true) : (cnd (wValid T M)
  (cnd (decide (th = (Go.IntKind.wrap Go.IntKind.i64 ((tth T M) - (1 : Int)))))
    ((Go.IntKind.wrap Go.IntKind.i64 ((Go.IntKind.wrap Go.IntKind.i64 (M + (1 : Int))) * no)) = (expc T M th no))
    (no = (expc T M th no)))
  False) := by
  have hh := wValid_iff.1 p0
  simp only [decide_eq_true_eq] at p1 p2
  have e : tth T M = T - M := by unfold tth; rw [if_pos p0]
  have hm : -8796093022208 ≤ (M + 1) * no ∧ (M + 1) * no ≤ 8796093022208 := by
    rcases hh.1 with h | h
    · rw [h]; omega
    · rw [h]; omega
  rw [e, w64 (n := T - M - 1) (by omega) (by omega), w64 (n := M + 1) (by omega) (by omega), w64 (n := (M + 1) * no) (by omega) (by omega)]
  unfold expc
  by_cases h : th = T - M - 1
  · simp [h, p0, cnd]
  · simp [h, p0, cnd]
set_option maxHeartbeats 2000000 in
theorem rexpected_ok : SoundEnt Try.prog rexpected_e := by
  refine ent_of_ex (Γ := (conOf [wt16_e])) (conOf_sound (scons wt16_ok snil)) (by kernel_rfl) Try.func37 (by kernel_rfl) (by kernel_rfl) (fun args rows res h ho => ?_)
  change rexpected_go args rows = some res at h
  unfold rexpected_go at h
  split at h
  · simp only [Option.some.injEq] at h
    subst h
    rename_i q0_ q1_ q2_ q3_ q4_ q5_ q6_ q7_
    obtain ⟨p0, p1, p2, _⟩ := ho
    exact EX.of (rexpected_tree q0_ q1_ q2_ q3_ q4_ q5_ q6_ q7_) (rexpected_holds q0_ q1_ q2_ q3_ q4_ q5_ q6_ q7_ p0 p1 p2)
  · cases h
def svalid_res (T : Int) (M : Int) (mo : Int) (th : Int) (la : Int) (pe : Int) (no : Int) (te : Int) : CRes := ⟨[], .one (.cel (.bool (sVd T M mo th la pe no te))), []⟩
def svalid_go : List TV → List RowA → Option CRes := fun args rows =>
  match args, rows with
  | [.agg [.int .i64 T, .int .i64 M], .agg [.int .i64 mo, .int .i64 th, .int .i64 la, .int .i64 pe, .int .i64 no, .int .i64 te]], [] => some (svalid_res T M mo th la pe no te)
  | _, _ => none
def svalid_e : Ent := ⟨17, [], svalid_go⟩
set_option maxRecDepth 100000 in
theorem svalid_tree (T : Int) (M : Int) (mo : Int) (th : Int) (la : Int) (pe : Int) (no : Int) (te : Int) : ((cnd (!(wValid T M))
  (Bool.false = (sVd T M mo th la pe no te))
  (cnd (decide (mo = (0 : Int)))
    (((decide (mo = (0 : Int))) && ((decide (th = (0 : Int))) && ((decide (la = (0 : Int))) && ((decide (pe = (0 : Int))) && ((decide (no = (0 : Int))) && ((decide (te = (0 : Int))) && Bool.true)))))) = (sVd T M mo th la pe no te))
    (cnd (decide (mo = (1 : Int)))
      (cnd ((!(decide (th = (0 : Int)))) || (!(isT la)))
        (Bool.false = (sVd T M mo th la pe no te))
        (cnd (decide (te = (0 : Int)))
          (((decide (pe = (0 : Int))) && (decide (no = (0 : Int)))) = (sVd T M mo th la pe no te))
          ((((((decide (te = (1 : Int))) || (decide (te = (2 : Int)))) && (decide ((1 : Int) ≤ pe))) && (decide (pe ≤ la))) && (decide (no = pe))) = (sVd T M mo th la pe no te))))
      (cnd (decide (mo = (2 : Int)))
        (((((((((decide ((0 : Int) ≤ th)) && (decide (th < (tth T M)))) && (isT la)) && (decide ((1 : Int) ≤ pe))) && (decide (pe ≤ la))) && (decide ((1 : Int) ≤ no))) && (decide (no ≤ pe))) && (decide (te = (0 : Int)))) = (sVd T M mo th la pe no te))
        (Bool.false = (sVd T M mo th la pe no te))))))) = EXD Try.prog (conOf [wvalid_e, wteeth_e, instant_e]) Try.f17 [.agg [.int .i64 T, .int .i64 M], .agg [.int .i64 mo, .int .i64 th, .int .i64 la, .int .i64 pe, .int .i64 no, .int .i64 te]] [] (svalid_res T M mo th la pe no te) := by kernel_rfl
theorem svalid_holds (T : Int) (M : Int) (mo : Int) (th : Int) (la : Int) (pe : Int) (no : Int) (te : Int)  : (cnd (!(wValid T M))
  (Bool.false = (sVd T M mo th la pe no te))
  (cnd (decide (mo = (0 : Int)))
    (((decide (mo = (0 : Int))) && ((decide (th = (0 : Int))) && ((decide (la = (0 : Int))) && ((decide (pe = (0 : Int))) && ((decide (no = (0 : Int))) && ((decide (te = (0 : Int))) && Bool.true)))))) = (sVd T M mo th la pe no te))
    (cnd (decide (mo = (1 : Int)))
      (cnd ((!(decide (th = (0 : Int)))) || (!(isT la)))
        (Bool.false = (sVd T M mo th la pe no te))
        (cnd (decide (te = (0 : Int)))
          (((decide (pe = (0 : Int))) && (decide (no = (0 : Int)))) = (sVd T M mo th la pe no te))
          ((((((decide (te = (1 : Int))) || (decide (te = (2 : Int)))) && (decide ((1 : Int) ≤ pe))) && (decide (pe ≤ la))) && (decide (no = pe))) = (sVd T M mo th la pe no te))))
      (cnd (decide (mo = (2 : Int)))
        (((((((((decide ((0 : Int) ≤ th)) && (decide (th < (tth T M)))) && (isT la)) && (decide ((1 : Int) ≤ pe))) && (decide (pe ≤ la))) && (decide ((1 : Int) ≤ no))) && (decide (no ≤ pe))) && (decide (te = (0 : Int)))) = (sVd T M mo th la pe no te))
        (Bool.false = (sVd T M mo th la pe no te)))))) := by
  unfold sVd sV
  cases hw : wValid T M with
  | false => simp [cnd]
  | true =>
    have e : tth T M = T - M := by unfold tth; rw [hw]; rfl
    rw [e]
    by_cases h0 : mo = 0
    · simp [h0, cnd, Bool.and_assoc]
    by_cases h1 : mo = 1
    · by_cases ht : th = 0 <;> cases isT la <;> by_cases he : te = 0 <;> simp [h1, ht, he, cnd]
    by_cases h2 : mo = 2
    · simp [h2, cnd]
    · simp [h0, h1, h2, cnd]
set_option maxHeartbeats 2000000 in
theorem svalid_ok : SoundEnt Try.prog svalid_e := by
  refine ent_of_ex (Γ := (conOf [wvalid_e, wteeth_e, instant_e])) (conOf_sound (scons wvalid_ok (scons wteeth_ok (scons instant_ok snil)))) (by kernel_rfl) Try.func17 (by kernel_rfl) (by kernel_rfl) (fun args rows res h ho => ?_)
  change svalid_go args rows = some res at h
  unfold svalid_go at h
  split at h
  · simp only [Option.some.injEq] at h
    subst h
    rename_i q0_ q1_ q2_ q3_ q4_ q5_ q6_ q7_
    skip
    exact EX.of (svalid_tree q0_ q1_ q2_ q3_ q4_ q5_ q6_ q7_) (svalid_holds q0_ q1_ q2_ q3_ q4_ q5_ q6_ q7_)
  · cases h
def rsvalid_res (T : Int) (M : Int) (mo : Int) (th : Int) (la : Int) (pe : Int) (no : Int) (te : Int) : CRes := ⟨[], .one (.cel (.bool (sVd T M mo th la pe no te))), []⟩
def rsvalid_go : List TV → List RowA → Option CRes := fun args rows =>
  match args, rows with
  | [.agg [.int .i64 T, .int .i64 M], .agg [.int .i64 mo, .int .i64 th, .int .i64 la, .int .i64 pe, .int .i64 no, .int .i64 te]], [] => some (rsvalid_res T M mo th la pe no te)
  | _, _ => none
def rsvalid_e : Ent := ⟨18, [], rsvalid_go⟩
set_option maxRecDepth 100000 in
theorem rsvalid_tree (T : Int) (M : Int) (mo : Int) (th : Int) (la : Int) (pe : Int) (no : Int) (te : Int) : ((cnd (!(wValid T M))
  (Bool.false = (sVd T M mo th la pe no te))
  (cnd (decide (mo = (0 : Int)))
    (((decide (mo = (0 : Int))) && ((decide (th = (0 : Int))) && ((decide (la = (0 : Int))) && ((decide (pe = (0 : Int))) && ((decide (no = (0 : Int))) && ((decide (te = (0 : Int))) && Bool.true)))))) = (sVd T M mo th la pe no te))
    (cnd (decide (mo = (1 : Int)))
      (cnd ((!(isT la)) || (!(decide (th = (0 : Int)))))
        (Bool.false = (sVd T M mo th la pe no te))
        (cnd (decide (pe = (0 : Int)))
          (((decide (no = (0 : Int))) && (decide (te = (0 : Int)))) = (sVd T M mo th la pe no te))
          (((((decide ((1 : Int) ≤ pe)) && (decide (pe ≤ la))) && (decide (no = pe))) && ((decide (te = (1 : Int))) || (decide (te = (2 : Int))))) = (sVd T M mo th la pe no te))))
      (cnd (decide (mo = (2 : Int)))
        (cnd ((!(((isT la) && (decide ((0 : Int) ≤ th))) == Bool.true)) || (wValid T M))
          (((((((((isT la) && (decide ((0 : Int) ≤ th))) && (decide (th < (tth T M)))) && (decide ((1 : Int) ≤ pe))) && (decide (pe ≤ la))) && (decide ((1 : Int) ≤ no))) && (decide (no ≤ pe))) && (decide (te = (0 : Int)))) = (sVd T M mo th la pe no te))
          False)
        (Bool.false = (sVd T M mo th la pe no te))))))) = EXD Try.prog (conOf [wv16_e, wt16_e, rtime_e]) Try.f18 [.agg [.int .i64 T, .int .i64 M], .agg [.int .i64 mo, .int .i64 th, .int .i64 la, .int .i64 pe, .int .i64 no, .int .i64 te]] [] (rsvalid_res T M mo th la pe no te) := by kernel_rfl
theorem rsvalid_holds (T : Int) (M : Int) (mo : Int) (th : Int) (la : Int) (pe : Int) (no : Int) (te : Int)  : (cnd (!(wValid T M))
  (Bool.false = (sVd T M mo th la pe no te))
  (cnd (decide (mo = (0 : Int)))
    (((decide (mo = (0 : Int))) && ((decide (th = (0 : Int))) && ((decide (la = (0 : Int))) && ((decide (pe = (0 : Int))) && ((decide (no = (0 : Int))) && ((decide (te = (0 : Int))) && Bool.true)))))) = (sVd T M mo th la pe no te))
    (cnd (decide (mo = (1 : Int)))
      (cnd ((!(isT la)) || (!(decide (th = (0 : Int)))))
        (Bool.false = (sVd T M mo th la pe no te))
        (cnd (decide (pe = (0 : Int)))
          (((decide (no = (0 : Int))) && (decide (te = (0 : Int)))) = (sVd T M mo th la pe no te))
          (((((decide ((1 : Int) ≤ pe)) && (decide (pe ≤ la))) && (decide (no = pe))) && ((decide (te = (1 : Int))) || (decide (te = (2 : Int))))) = (sVd T M mo th la pe no te))))
      (cnd (decide (mo = (2 : Int)))
        (cnd ((!(((isT la) && (decide ((0 : Int) ≤ th))) == Bool.true)) || (wValid T M))
          (((((((((isT la) && (decide ((0 : Int) ≤ th))) && (decide (th < (tth T M)))) && (decide ((1 : Int) ≤ pe))) && (decide (pe ≤ la))) && (decide ((1 : Int) ≤ no))) && (decide (no ≤ pe))) && (decide (te = (0 : Int)))) = (sVd T M mo th la pe no te))
          False)
        (Bool.false = (sVd T M mo th la pe no te)))))) := by
  unfold sVd sV
  cases hw : wValid T M with
  | false => simp [cnd]
  | true =>
    have e : tth T M = T - M := by unfold tth; rw [hw]; rfl
    rw [e]
    by_cases h0 : mo = 0
    · simp [h0, cnd, Bool.and_assoc]
    by_cases h1 : mo = 1
    · by_cases ht : th = 0
      · cases isT la with
        | false => simp [h1, ht, cnd]
        | true =>
          by_cases hp : pe = 0
          · by_cases he : te = 0
            · simp [h1, ht, hp, he, cnd]
            · simp [h1, ht, hp, he, cnd]
          · by_cases he : te = 0
            · have a1 : ¬ (te = 1) := by omega
              simp [h1, ht, hp, he, cnd]
            · by_cases a : te = 1 <;> by_cases b : te = 2 <;> by_cases c : 1 ≤ pe <;> by_cases d : pe ≤ la <;> by_cases f : no = pe <;> simp [h1, ht, hp, he, a, b, c, d, f, cnd] <;> omega
      · cases isT la <;> simp [h1, ht, cnd]
    by_cases h2 : mo = 2
    · cases isT la <;> by_cases a : 0 ≤ th <;> by_cases b : th < T - M <;> simp [h2, a, b, cnd]
    · simp [h0, h1, h2, cnd]
set_option maxHeartbeats 2000000 in
theorem rsvalid_ok : SoundEnt Try.prog rsvalid_e := by
  refine ent_of_ex (Γ := (conOf [wv16_e, wt16_e, rtime_e])) (conOf_sound (scons wv16_ok (scons wt16_ok (scons rtime_ok snil)))) (by kernel_rfl) Try.func18 (by kernel_rfl) (by kernel_rfl) (fun args rows res h ho => ?_)
  change rsvalid_go args rows = some res at h
  unfold rsvalid_go at h
  split at h
  · simp only [Option.some.injEq] at h
    subst h
    rename_i q0_ q1_ q2_ q3_ q4_ q5_ q6_ q7_
    skip
    exact EX.of (rsvalid_tree q0_ q1_ q2_ q3_ q4_ q5_ q6_ q7_) (rsvalid_holds q0_ q1_ q2_ q3_ q4_ q5_ q6_ q7_)
  · cases h
def sstep_res (T : Int) (M : Int) (mo : Int) (th : Int) (la : Int) (pe : Int) (no : Int) (te : Int) (t : Int) : CRes := ⟨[sVd T M mo th la pe no te, isT t, (decide (mo = 0) || decide (la < t))], .one (.agg [.int .i64 (q (stp T M mo th la pe no te t) 0), .int .i64 (q (stp T M mo th la pe no te t) 1), .int .i64 (q (stp T M mo th la pe no te t) 2), .int .i64 (q (stp T M mo th la pe no te t) 3), .int .i64 (q (stp T M mo th la pe no te t) 4), .int .i64 (q (stp T M mo th la pe no te t) 5)]), []⟩
def sstep_go : List TV → List RowA → Option CRes := fun args rows =>
  match args, rows with
  | [.agg [.int .i64 T, .int .i64 M], .agg [.int .i64 mo, .int .i64 th, .int .i64 la, .int .i64 pe, .int .i64 no, .int .i64 te], .cel (.int .i64 t)], [] => some (sstep_res T M mo th la pe no te t)
  | _, _ => none
def sstep_e : Ent := ⟨32, [], sstep_go⟩
set_option maxRecDepth 100000 in
theorem sstep_tree (T : Int) (M : Int) (mo : Int) (th : Int) (la : Int) (pe : Int) (no : Int) (te : Int) (t : Int) : ((cnd (decide (mo = (1 : Int)))
  (cnd ((!((decide (te = (2 : Int))) == Bool.true)) || (decide ((-(2199023255552 : Int)) ≤ no)))
    (cnd ((!((decide (te = (2 : Int))) == Bool.true)) || (decide (no ≤ (2199023255552 : Int))))
      (cnd ((!((decide (te = (2 : Int))) == Bool.true)) || (decide ((-(2199023255552 : Int)) ≤ (Go.IntKind.wrap Go.IntKind.i64 (t - la)))))
        (cnd ((!((decide (te = (2 : Int))) == Bool.true)) || (decide ((Go.IntKind.wrap Go.IntKind.i64 (t - la)) ≤ (2199023255552 : Int))))
          (cnd ((decide (te = (2 : Int))) && (gapB M no (Go.IntKind.wrap Go.IntKind.i64 (t - la))))
            (cnd (decide ((Go.IntKind.wrap Go.IntKind.i64 (M + (1 : Int))) ≠ (0 : Int)))
              (((2 : Int) = (q (stp T M mo th la pe no te t) 0)) ∧ (((0 : Int) = (q (stp T M mo th la pe no te t) 1)) ∧ ((t = (q (stp T M mo th la pe no te t) 2)) ∧ (((Go.IntKind.wrap Go.IntKind.i64 (t - la)) = (q (stp T M mo th la pe no te t) 3)) ∧ (((Go.IntKind.wrap Go.IntKind.i64 (Int.tdiv (Go.IntKind.wrap Go.IntKind.i64 (t - la)) (Go.IntKind.wrap Go.IntKind.i64 (M + (1 : Int))))) = (q (stp T M mo th la pe no te t) 4)) ∧ ((0 : Int) = (q (stp T M mo th la pe no te t) 5)))))))
              False)
            (cnd ((!((!(decide (te = (0 : Int)))) == Bool.true)) || (decide ((-(2199023255552 : Int)) ≤ (Go.IntKind.wrap Go.IntKind.i64 (t - la)))))
              (cnd ((!((!(decide (te = (0 : Int)))) == Bool.true)) || (decide ((Go.IntKind.wrap Go.IntKind.i64 (t - la)) ≤ (2199023255552 : Int))))
                (cnd ((!((!(decide (te = (0 : Int)))) == Bool.true)) || (decide ((-(8796093022208 : Int)) ≤ no)))
                  (cnd ((!((!(decide (te = (0 : Int)))) == Bool.true)) || (decide (no ≤ (8796093022208 : Int))))
                    (cnd ((!(decide (te = (0 : Int)))) && (fitB (Go.IntKind.wrap Go.IntKind.i64 (t - la)) no))
                      (((1 : Int) = (q (stp T M mo th la pe no te t) 0)) ∧ (((0 : Int) = (q (stp T M mo th la pe no te t) 1)) ∧ ((t = (q (stp T M mo th la pe no te t) 2)) ∧ (((Go.IntKind.wrap Go.IntKind.i64 (t - la)) = (q (stp T M mo th la pe no te t) 3)) ∧ (((Go.IntKind.wrap Go.IntKind.i64 (t - la)) = (q (stp T M mo th la pe no te t) 4)) ∧ ((2 : Int) = (q (stp T M mo th la pe no te t) 5)))))))
                      (((1 : Int) = (q (stp T M mo th la pe no te t) 0)) ∧ (((0 : Int) = (q (stp T M mo th la pe no te t) 1)) ∧ ((t = (q (stp T M mo th la pe no te t) 2)) ∧ (((Go.IntKind.wrap Go.IntKind.i64 (t - la)) = (q (stp T M mo th la pe no te t) 3)) ∧ (((Go.IntKind.wrap Go.IntKind.i64 (t - la)) = (q (stp T M mo th la pe no te t) 4)) ∧ ((1 : Int) = (q (stp T M mo th la pe no te t) 5))))))))
                    False)
                  False)
                False)
              False))
          False)
        False)
      False)
    False)
  (cnd (decide (mo = (2 : Int)))
    (cnd (wValid T M)
      (cnd (decide ((-(2199023255552 : Int)) ≤ no))
        (cnd (decide (no ≤ (2199023255552 : Int)))
          (cnd (decide ((-(2199023255552 : Int)) ≤ (Go.IntKind.wrap Go.IntKind.i64 (t - la))))
            (cnd (decide ((Go.IntKind.wrap Go.IntKind.i64 (t - la)) ≤ (2199023255552 : Int)))
              (cnd (decide ((-(8796093022208 : Int)) ≤ (expc T M th no)))
                (cnd (decide ((expc T M th no) ≤ (8796093022208 : Int)))
                  (cnd (!(fitB (Go.IntKind.wrap Go.IntKind.i64 (t - la)) (expc T M th no)))
                    (((0 : Int) = (q (stp T M mo th la pe no te t) 0)) ∧ (((0 : Int) = (q (stp T M mo th la pe no te t) 1)) ∧ (((0 : Int) = (q (stp T M mo th la pe no te t) 2)) ∧ (((0 : Int) = (q (stp T M mo th la pe no te t) 3)) ∧ (((0 : Int) = (q (stp T M mo th la pe no te t) 4)) ∧ ((0 : Int) = (q (stp T M mo th la pe no te t) 5)))))))
                    (cnd (wValid T M)
                      (cnd (decide (th = ((T - M) - (1 : Int))))
                        (cnd (decide ((Go.IntKind.wrap Go.IntKind.i64 (M + (1 : Int))) ≠ (0 : Int)))
                          (((2 : Int) = (q (stp T M mo th la pe no te t) 0)) ∧ (((0 : Int) = (q (stp T M mo th la pe no te t) 1)) ∧ ((t = (q (stp T M mo th la pe no te t) 2)) ∧ (((Go.IntKind.wrap Go.IntKind.i64 (t - la)) = (q (stp T M mo th la pe no te t) 3)) ∧ (((Go.IntKind.wrap Go.IntKind.i64 (Int.tdiv (Go.IntKind.wrap Go.IntKind.i64 (t - la)) (Go.IntKind.wrap Go.IntKind.i64 (M + (1 : Int))))) = (q (stp T M mo th la pe no te t) 4)) ∧ ((0 : Int) = (q (stp T M mo th la pe no te t) 5)))))))
                          False)
                        (((2 : Int) = (q (stp T M mo th la pe no te t) 0)) ∧ (((Go.IntKind.wrap Go.IntKind.i64 (th + (1 : Int))) = (q (stp T M mo th la pe no te t) 1)) ∧ ((t = (q (stp T M mo th la pe no te t) 2)) ∧ (((Go.IntKind.wrap Go.IntKind.i64 (t - la)) = (q (stp T M mo th la pe no te t) 3)) ∧ (((Go.IntKind.wrap Go.IntKind.i64 (t - la)) = (q (stp T M mo th la pe no te t) 4)) ∧ ((0 : Int) = (q (stp T M mo th la pe no te t) 5))))))))
                      False))
                  False)
                False)
              False)
            False)
          False)
        False)
      False)
    (((1 : Int) = (q (stp T M mo th la pe no te t) 0)) ∧ (((0 : Int) = (q (stp T M mo th la pe no te t) 1)) ∧ ((t = (q (stp T M mo th la pe no te t) 2)) ∧ (((0 : Int) = (q (stp T M mo th la pe no te t) 3)) ∧ (((0 : Int) = (q (stp T M mo th la pe no te t) 4)) ∧ ((0 : Int) = (q (stp T M mo th la pe no te t) 5)))))))))) = EXD Try.prog (conOf [sgap_e, fits_e, expected_e, slast_e]) Try.f32 [.agg [.int .i64 T, .int .i64 M], .agg [.int .i64 mo, .int .i64 th, .int .i64 la, .int .i64 pe, .int .i64 no, .int .i64 te], .cel (.int .i64 t)] [] (sstep_res T M mo th la pe no te t) := by kernel_rfl
theorem sstep_holds (T : Int) (M : Int) (mo : Int) (th : Int) (la : Int) (pe : Int) (no : Int) (te : Int) (t : Int) (p0 : sVd T M mo th la pe no te = true) (p1 : isT t = true) (p2 : (decide (mo = 0) || decide (la < t)) = true) : (cnd (decide (mo = (1 : Int)))
  (cnd ((!((decide (te = (2 : Int))) == Bool.true)) || (decide ((-(2199023255552 : Int)) ≤ no)))
    (cnd ((!((decide (te = (2 : Int))) == Bool.true)) || (decide (no ≤ (2199023255552 : Int))))
      (cnd ((!((decide (te = (2 : Int))) == Bool.true)) || (decide ((-(2199023255552 : Int)) ≤ (Go.IntKind.wrap Go.IntKind.i64 (t - la)))))
        (cnd ((!((decide (te = (2 : Int))) == Bool.true)) || (decide ((Go.IntKind.wrap Go.IntKind.i64 (t - la)) ≤ (2199023255552 : Int))))
          (cnd ((decide (te = (2 : Int))) && (gapB M no (Go.IntKind.wrap Go.IntKind.i64 (t - la))))
            (cnd (decide ((Go.IntKind.wrap Go.IntKind.i64 (M + (1 : Int))) ≠ (0 : Int)))
              (((2 : Int) = (q (stp T M mo th la pe no te t) 0)) ∧ (((0 : Int) = (q (stp T M mo th la pe no te t) 1)) ∧ ((t = (q (stp T M mo th la pe no te t) 2)) ∧ (((Go.IntKind.wrap Go.IntKind.i64 (t - la)) = (q (stp T M mo th la pe no te t) 3)) ∧ (((Go.IntKind.wrap Go.IntKind.i64 (Int.tdiv (Go.IntKind.wrap Go.IntKind.i64 (t - la)) (Go.IntKind.wrap Go.IntKind.i64 (M + (1 : Int))))) = (q (stp T M mo th la pe no te t) 4)) ∧ ((0 : Int) = (q (stp T M mo th la pe no te t) 5)))))))
              False)
            (cnd ((!((!(decide (te = (0 : Int)))) == Bool.true)) || (decide ((-(2199023255552 : Int)) ≤ (Go.IntKind.wrap Go.IntKind.i64 (t - la)))))
              (cnd ((!((!(decide (te = (0 : Int)))) == Bool.true)) || (decide ((Go.IntKind.wrap Go.IntKind.i64 (t - la)) ≤ (2199023255552 : Int))))
                (cnd ((!((!(decide (te = (0 : Int)))) == Bool.true)) || (decide ((-(8796093022208 : Int)) ≤ no)))
                  (cnd ((!((!(decide (te = (0 : Int)))) == Bool.true)) || (decide (no ≤ (8796093022208 : Int))))
                    (cnd ((!(decide (te = (0 : Int)))) && (fitB (Go.IntKind.wrap Go.IntKind.i64 (t - la)) no))
                      (((1 : Int) = (q (stp T M mo th la pe no te t) 0)) ∧ (((0 : Int) = (q (stp T M mo th la pe no te t) 1)) ∧ ((t = (q (stp T M mo th la pe no te t) 2)) ∧ (((Go.IntKind.wrap Go.IntKind.i64 (t - la)) = (q (stp T M mo th la pe no te t) 3)) ∧ (((Go.IntKind.wrap Go.IntKind.i64 (t - la)) = (q (stp T M mo th la pe no te t) 4)) ∧ ((2 : Int) = (q (stp T M mo th la pe no te t) 5)))))))
                      (((1 : Int) = (q (stp T M mo th la pe no te t) 0)) ∧ (((0 : Int) = (q (stp T M mo th la pe no te t) 1)) ∧ ((t = (q (stp T M mo th la pe no te t) 2)) ∧ (((Go.IntKind.wrap Go.IntKind.i64 (t - la)) = (q (stp T M mo th la pe no te t) 3)) ∧ (((Go.IntKind.wrap Go.IntKind.i64 (t - la)) = (q (stp T M mo th la pe no te t) 4)) ∧ ((1 : Int) = (q (stp T M mo th la pe no te t) 5))))))))
                    False)
                  False)
                False)
              False))
          False)
        False)
      False)
    False)
  (cnd (decide (mo = (2 : Int)))
    (cnd (wValid T M)
      (cnd (decide ((-(2199023255552 : Int)) ≤ no))
        (cnd (decide (no ≤ (2199023255552 : Int)))
          (cnd (decide ((-(2199023255552 : Int)) ≤ (Go.IntKind.wrap Go.IntKind.i64 (t - la))))
            (cnd (decide ((Go.IntKind.wrap Go.IntKind.i64 (t - la)) ≤ (2199023255552 : Int)))
              (cnd (decide ((-(8796093022208 : Int)) ≤ (expc T M th no)))
                (cnd (decide ((expc T M th no) ≤ (8796093022208 : Int)))
                  (cnd (!(fitB (Go.IntKind.wrap Go.IntKind.i64 (t - la)) (expc T M th no)))
                    (((0 : Int) = (q (stp T M mo th la pe no te t) 0)) ∧ (((0 : Int) = (q (stp T M mo th la pe no te t) 1)) ∧ (((0 : Int) = (q (stp T M mo th la pe no te t) 2)) ∧ (((0 : Int) = (q (stp T M mo th la pe no te t) 3)) ∧ (((0 : Int) = (q (stp T M mo th la pe no te t) 4)) ∧ ((0 : Int) = (q (stp T M mo th la pe no te t) 5)))))))
                    (cnd (wValid T M)
                      (cnd (decide (th = ((T - M) - (1 : Int))))
                        (cnd (decide ((Go.IntKind.wrap Go.IntKind.i64 (M + (1 : Int))) ≠ (0 : Int)))
                          (((2 : Int) = (q (stp T M mo th la pe no te t) 0)) ∧ (((0 : Int) = (q (stp T M mo th la pe no te t) 1)) ∧ ((t = (q (stp T M mo th la pe no te t) 2)) ∧ (((Go.IntKind.wrap Go.IntKind.i64 (t - la)) = (q (stp T M mo th la pe no te t) 3)) ∧ (((Go.IntKind.wrap Go.IntKind.i64 (Int.tdiv (Go.IntKind.wrap Go.IntKind.i64 (t - la)) (Go.IntKind.wrap Go.IntKind.i64 (M + (1 : Int))))) = (q (stp T M mo th la pe no te t) 4)) ∧ ((0 : Int) = (q (stp T M mo th la pe no te t) 5)))))))
                          False)
                        (((2 : Int) = (q (stp T M mo th la pe no te t) 0)) ∧ (((Go.IntKind.wrap Go.IntKind.i64 (th + (1 : Int))) = (q (stp T M mo th la pe no te t) 1)) ∧ ((t = (q (stp T M mo th la pe no te t) 2)) ∧ (((Go.IntKind.wrap Go.IntKind.i64 (t - la)) = (q (stp T M mo th la pe no te t) 3)) ∧ (((Go.IntKind.wrap Go.IntKind.i64 (t - la)) = (q (stp T M mo th la pe no te t) 4)) ∧ ((0 : Int) = (q (stp T M mo th la pe no te t) 5))))))))
                      False))
                  False)
                False)
              False)
            False)
          False)
        False)
      False)
    (((1 : Int) = (q (stp T M mo th la pe no te t) 0)) ∧ (((0 : Int) = (q (stp T M mo th la pe no te t) 1)) ∧ ((t = (q (stp T M mo th la pe no te t) 2)) ∧ (((0 : Int) = (q (stp T M mo th la pe no te t) 3)) ∧ (((0 : Int) = (q (stp T M mo th la pe no te t) 4)) ∧ ((0 : Int) = (q (stp T M mo th la pe no te t) 5))))))))) := by
  obtain ⟨hw, hs⟩ := (Bool.and_eq_true _ _ ▸ p0 : wValid T M = true ∧ sV T M mo th la pe no te = true)
  have hh := wValid_iff.1 hw
  have ht := isT_iff.1 p1
  simp only [Bool.or_eq_true, decide_eq_true_eq] at p2
  have c := sV_cases hs
  have e : tth T M = T - M := by unfold tth; rw [if_pos hw]
  have hx : -8796093022208 ≤ expc T M th no ∧ expc T M th no ≤ 8796093022208 := by
    unfold expc
    rcases hh.1 with h | h
    · rw [h]; split <;> omega
    · rw [h]; split <;> omega
  have jx1 : decide (-8796093022208 ≤ expc T M th no) = true := decide_eq_true hx.1
  have jx2 : decide (expc T M th no ≤ 8796093022208) = true := decide_eq_true hx.2
  have jM : decide (M + 1 ≠ 0) = true := by rw [decide_eq_true_eq]; omega
  have j1 : decide (-2199023255552 ≤ no) = true := by rw [decide_eq_true_eq]; omega
  have j2 : decide (no ≤ 2199023255552) = true := by rw [decide_eq_true_eq]; omega
  have j3 : decide (-8796093022208 ≤ no) = true := by rw [decide_eq_true_eq]; omega
  have j4 : decide (no ≤ 8796093022208) = true := by rw [decide_eq_true_eq]; omega
  rw [w64 (n := t - la) (by omega) (by omega), w64 (n := M + 1) (by omega) (by omega), w64 (n := th + 1) (by omega) (by omega)]
  have j5 : decide (-2199023255552 ≤ t - la) = true := by rw [decide_eq_true_eq]; omega
  have j6 : decide (t - la ≤ 2199023255552) = true := by rw [decide_eq_true_eq]; omega
  simp only [jx1, jx2, jM, j1, j2, j3, j4, j5, j6, hw, Bool.or_true, cnd]
  skip
  rcases c with c | c | c
  · obtain ⟨c1, c2, c3, c4, c5, c6⟩ := c
    subst c1
    simp [stp, q, cnd]
  · obtain ⟨c1, c2, c3, c4⟩ := c
    subst c1
    have hlt : 0 < t - la := by omega
    have hq := quo_pos (x := t - la) (y := M + 1) (by omega) (by omega)
    rw [tdiv_pos (by omega : 0 ≤ t - la), w64 (n := (t - la) / (M + 1)) (by omega) (by omega)]
    by_cases h2 : te = 2
    · have hno : 1 ≤ no ∧ no ≤ 1099511627776 := by omega
      have ha : t - la ≤ 1099511627776 := by omega
      have hb : 1 ≤ t - la := by omega
      cases hg : gapB M no (t - la) <;> cases hf : fitB (t - la) no <;> simp [stp, q, h2, hg, hf, hno, ha, hb, cnd]
    · by_cases h0 : te = 0
      · simp [stp, q, h0, cnd]
      · cases hf : fitB (t - la) no <;> simp [stp, q, h2, h0, hf, cnd]
  · obtain ⟨c1, c2, c3, c4⟩ := c
    subst c1
    have hq := quo_pos (x := t - la) (y := M + 1) (by omega) (by omega)
    rw [tdiv_pos (by omega : 0 ≤ t - la), w64 (n := (t - la) / (M + 1)) (by omega) (by omega)]
    cases hf : fitB (t - la) (expc T M th no) with
    | false => simp [stp, q, hf, cnd]
    | true =>
      by_cases hl : th = T - M - 1
      · subst hl; simp [stp, q, hf, cnd]
      · simp [stp, q, hf, hl, cnd]
set_option maxHeartbeats 2000000 in
theorem sstep_ok : SoundEnt Try.prog sstep_e := by
  refine ent_of_ex (Γ := (conOf [sgap_e, fits_e, expected_e, slast_e])) (conOf_sound (scons sgap_ok (scons fits_ok (scons expected_ok (scons slast_ok snil))))) (by kernel_rfl) Try.func32 (by kernel_rfl) (by kernel_rfl) (fun args rows res h ho => ?_)
  change sstep_go args rows = some res at h
  unfold sstep_go at h
  split at h
  · simp only [Option.some.injEq] at h
    subst h
    rename_i q0_ q1_ q2_ q3_ q4_ q5_ q6_ q7_ q8_
    obtain ⟨p0, p1, p2, _⟩ := ho
    exact EX.of (sstep_tree q0_ q1_ q2_ q3_ q4_ q5_ q6_ q7_ q8_) (sstep_holds q0_ q1_ q2_ q3_ q4_ q5_ q6_ q7_ q8_ p0 p1 p2)
  · cases h
def rstep_res (T : Int) (M : Int) (mo : Int) (th : Int) (la : Int) (pe : Int) (no : Int) (te : Int) (t : Int) : CRes := ⟨[sVd T M mo th la pe no te, isT t, (decide (mo = 0) || decide (la < t))], .one (.agg [.int .i64 (q (stp T M mo th la pe no te t) 0), .int .i64 (q (stp T M mo th la pe no te t) 1), .int .i64 (q (stp T M mo th la pe no te t) 2), .int .i64 (q (stp T M mo th la pe no te t) 3), .int .i64 (q (stp T M mo th la pe no te t) 4), .int .i64 (q (stp T M mo th la pe no te t) 5)]), []⟩
def rstep_go : List TV → List RowA → Option CRes := fun args rows =>
  match args, rows with
  | [.agg [.int .i64 T, .int .i64 M], .agg [.int .i64 mo, .int .i64 th, .int .i64 la, .int .i64 pe, .int .i64 no, .int .i64 te], .cel (.int .i64 t)], [] => some (rstep_res T M mo th la pe no te t)
  | _, _ => none
def rstep_e : Ent := ⟨20, [], rstep_go⟩
set_option maxRecDepth 100000 in
theorem rstep_tree (T : Int) (M : Int) (mo : Int) (th : Int) (la : Int) (pe : Int) (no : Int) (te : Int) (t : Int) : ((cnd (decide (mo = (0 : Int)))
  (((1 : Int) = (q (stp T M mo th la pe no te t) 0)) ∧ (((0 : Int) = (q (stp T M mo th la pe no te t) 1)) ∧ ((t = (q (stp T M mo th la pe no te t) 2)) ∧ (((0 : Int) = (q (stp T M mo th la pe no te t) 3)) ∧ (((0 : Int) = (q (stp T M mo th la pe no te t) 4)) ∧ ((0 : Int) = (q (stp T M mo th la pe no te t) 5)))))))
  (cnd (decide (mo = (1 : Int)))
    (cnd ((decide (te = (2 : Int))) && ((((((wValid T M) && (decide ((1 : Int) ≤ no))) && (decide (no ≤ (1099511627776 : Int)))) && (decide ((1 : Int) ≤ (Go.IntKind.wrap Go.IntKind.i64 (t - la))))) && (decide ((Go.IntKind.wrap Go.IntKind.i64 (t - la)) ≤ (1099511627776 : Int)))) && (gapB M no (Go.IntKind.wrap Go.IntKind.i64 (t - la)))))
      (cnd (decide ((Go.IntKind.wrap Go.IntKind.i64 (M + (1 : Int))) ≠ (0 : Int)))
        (((2 : Int) = (q (stp T M mo th la pe no te t) 0)) ∧ (((0 : Int) = (q (stp T M mo th la pe no te t) 1)) ∧ ((t = (q (stp T M mo th la pe no te t) 2)) ∧ (((Go.IntKind.wrap Go.IntKind.i64 (t - la)) = (q (stp T M mo th la pe no te t) 3)) ∧ (((Go.IntKind.wrap Go.IntKind.i64 (Int.tdiv (Go.IntKind.wrap Go.IntKind.i64 (t - la)) (Go.IntKind.wrap Go.IntKind.i64 (M + (1 : Int))))) = (q (stp T M mo th la pe no te t) 4)) ∧ ((0 : Int) = (q (stp T M mo th la pe no te t) 5)))))))
        False)
      (cnd ((!((!(decide (te = (0 : Int)))) == Bool.true)) || (decide ((-(2199023255552 : Int)) ≤ (Go.IntKind.wrap Go.IntKind.i64 (t - la)))))
        (cnd ((!((!(decide (te = (0 : Int)))) == Bool.true)) || (decide ((Go.IntKind.wrap Go.IntKind.i64 (t - la)) ≤ (2199023255552 : Int))))
          (cnd ((!((!(decide (te = (0 : Int)))) == Bool.true)) || (decide ((-(8796093022208 : Int)) ≤ no)))
            (cnd ((!((!(decide (te = (0 : Int)))) == Bool.true)) || (decide (no ≤ (8796093022208 : Int))))
              (cnd ((!(decide (te = (0 : Int)))) && (fitB (Go.IntKind.wrap Go.IntKind.i64 (t - la)) no))
                (((1 : Int) = (q (stp T M mo th la pe no te t) 0)) ∧ (((0 : Int) = (q (stp T M mo th la pe no te t) 1)) ∧ ((t = (q (stp T M mo th la pe no te t) 2)) ∧ (((Go.IntKind.wrap Go.IntKind.i64 (t - la)) = (q (stp T M mo th la pe no te t) 3)) ∧ (((Go.IntKind.wrap Go.IntKind.i64 (t - la)) = (q (stp T M mo th la pe no te t) 4)) ∧ ((2 : Int) = (q (stp T M mo th la pe no te t) 5)))))))
                (((1 : Int) = (q (stp T M mo th la pe no te t) 0)) ∧ (((0 : Int) = (q (stp T M mo th la pe no te t) 1)) ∧ ((t = (q (stp T M mo th la pe no te t) 2)) ∧ (((Go.IntKind.wrap Go.IntKind.i64 (t - la)) = (q (stp T M mo th la pe no te t) 3)) ∧ (((Go.IntKind.wrap Go.IntKind.i64 (t - la)) = (q (stp T M mo th la pe no te t) 4)) ∧ ((1 : Int) = (q (stp T M mo th la pe no te t) 5))))))))
              False)
            False)
          False)
        False))
    (cnd (wValid T M)
      (cnd (decide ((-(2199023255552 : Int)) ≤ no))
        (cnd (decide (no ≤ (2199023255552 : Int)))
          (cnd (decide ((-(2199023255552 : Int)) ≤ (Go.IntKind.wrap Go.IntKind.i64 (t - la))))
            (cnd (decide ((Go.IntKind.wrap Go.IntKind.i64 (t - la)) ≤ (2199023255552 : Int)))
              (cnd (decide ((-(8796093022208 : Int)) ≤ (expc T M th no)))
                (cnd (decide ((expc T M th no) ≤ (8796093022208 : Int)))
                  (cnd (!(fitB (Go.IntKind.wrap Go.IntKind.i64 (t - la)) (expc T M th no)))
                    (((0 : Int) = (q (stp T M mo th la pe no te t) 0)) ∧ (((0 : Int) = (q (stp T M mo th la pe no te t) 1)) ∧ (((0 : Int) = (q (stp T M mo th la pe no te t) 2)) ∧ (((0 : Int) = (q (stp T M mo th la pe no te t) 3)) ∧ (((0 : Int) = (q (stp T M mo th la pe no te t) 4)) ∧ ((0 : Int) = (q (stp T M mo th la pe no te t) 5)))))))
                    (cnd (wValid T M)
                      (cnd (decide (th = (Go.IntKind.wrap Go.IntKind.i64 ((tth T M) - (1 : Int)))))
                        (cnd (decide ((Go.IntKind.wrap Go.IntKind.i64 (M + (1 : Int))) ≠ (0 : Int)))
                          (((2 : Int) = (q (stp T M mo th la pe no te t) 0)) ∧ (((0 : Int) = (q (stp T M mo th la pe no te t) 1)) ∧ ((t = (q (stp T M mo th la pe no te t) 2)) ∧ (((Go.IntKind.wrap Go.IntKind.i64 (t - la)) = (q (stp T M mo th la pe no te t) 3)) ∧ (((Go.IntKind.wrap Go.IntKind.i64 (Int.tdiv (Go.IntKind.wrap Go.IntKind.i64 (t - la)) (Go.IntKind.wrap Go.IntKind.i64 (M + (1 : Int))))) = (q (stp T M mo th la pe no te t) 4)) ∧ ((0 : Int) = (q (stp T M mo th la pe no te t) 5)))))))
                          False)
                        (((2 : Int) = (q (stp T M mo th la pe no te t) 0)) ∧ (((Go.IntKind.wrap Go.IntKind.i64 (th + (1 : Int))) = (q (stp T M mo th la pe no te t) 1)) ∧ ((t = (q (stp T M mo th la pe no te t) 2)) ∧ (((Go.IntKind.wrap Go.IntKind.i64 (t - la)) = (q (stp T M mo th la pe no te t) 3)) ∧ (((Go.IntKind.wrap Go.IntKind.i64 (t - la)) = (q (stp T M mo th la pe no te t) 4)) ∧ ((0 : Int) = (q (stp T M mo th la pe no te t) 5))))))))
                      False))
                  False)
                False)
              False)
            False)
          False)
        False)
      False)))) = EXD Try.prog (conOf [rGap_e, rfits_e, rexpected_e, wt16_e]) Try.f20 [.agg [.int .i64 T, .int .i64 M], .agg [.int .i64 mo, .int .i64 th, .int .i64 la, .int .i64 pe, .int .i64 no, .int .i64 te], .cel (.int .i64 t)] [] (rstep_res T M mo th la pe no te t) := by kernel_rfl
theorem rstep_holds (T : Int) (M : Int) (mo : Int) (th : Int) (la : Int) (pe : Int) (no : Int) (te : Int) (t : Int) (p0 : sVd T M mo th la pe no te = true) (p1 : isT t = true) (p2 : (decide (mo = 0) || decide (la < t)) = true) : (cnd (decide (mo = (0 : Int)))
  (((1 : Int) = (q (stp T M mo th la pe no te t) 0)) ∧ (((0 : Int) = (q (stp T M mo th la pe no te t) 1)) ∧ ((t = (q (stp T M mo th la pe no te t) 2)) ∧ (((0 : Int) = (q (stp T M mo th la pe no te t) 3)) ∧ (((0 : Int) = (q (stp T M mo th la pe no te t) 4)) ∧ ((0 : Int) = (q (stp T M mo th la pe no te t) 5)))))))
  (cnd (decide (mo = (1 : Int)))
    (cnd ((decide (te = (2 : Int))) && ((((((wValid T M) && (decide ((1 : Int) ≤ no))) && (decide (no ≤ (1099511627776 : Int)))) && (decide ((1 : Int) ≤ (Go.IntKind.wrap Go.IntKind.i64 (t - la))))) && (decide ((Go.IntKind.wrap Go.IntKind.i64 (t - la)) ≤ (1099511627776 : Int)))) && (gapB M no (Go.IntKind.wrap Go.IntKind.i64 (t - la)))))
      (cnd (decide ((Go.IntKind.wrap Go.IntKind.i64 (M + (1 : Int))) ≠ (0 : Int)))
        (((2 : Int) = (q (stp T M mo th la pe no te t) 0)) ∧ (((0 : Int) = (q (stp T M mo th la pe no te t) 1)) ∧ ((t = (q (stp T M mo th la pe no te t) 2)) ∧ (((Go.IntKind.wrap Go.IntKind.i64 (t - la)) = (q (stp T M mo th la pe no te t) 3)) ∧ (((Go.IntKind.wrap Go.IntKind.i64 (Int.tdiv (Go.IntKind.wrap Go.IntKind.i64 (t - la)) (Go.IntKind.wrap Go.IntKind.i64 (M + (1 : Int))))) = (q (stp T M mo th la pe no te t) 4)) ∧ ((0 : Int) = (q (stp T M mo th la pe no te t) 5)))))))
        False)
      (cnd ((!((!(decide (te = (0 : Int)))) == Bool.true)) || (decide ((-(2199023255552 : Int)) ≤ (Go.IntKind.wrap Go.IntKind.i64 (t - la)))))
        (cnd ((!((!(decide (te = (0 : Int)))) == Bool.true)) || (decide ((Go.IntKind.wrap Go.IntKind.i64 (t - la)) ≤ (2199023255552 : Int))))
          (cnd ((!((!(decide (te = (0 : Int)))) == Bool.true)) || (decide ((-(8796093022208 : Int)) ≤ no)))
            (cnd ((!((!(decide (te = (0 : Int)))) == Bool.true)) || (decide (no ≤ (8796093022208 : Int))))
              (cnd ((!(decide (te = (0 : Int)))) && (fitB (Go.IntKind.wrap Go.IntKind.i64 (t - la)) no))
                (((1 : Int) = (q (stp T M mo th la pe no te t) 0)) ∧ (((0 : Int) = (q (stp T M mo th la pe no te t) 1)) ∧ ((t = (q (stp T M mo th la pe no te t) 2)) ∧ (((Go.IntKind.wrap Go.IntKind.i64 (t - la)) = (q (stp T M mo th la pe no te t) 3)) ∧ (((Go.IntKind.wrap Go.IntKind.i64 (t - la)) = (q (stp T M mo th la pe no te t) 4)) ∧ ((2 : Int) = (q (stp T M mo th la pe no te t) 5)))))))
                (((1 : Int) = (q (stp T M mo th la pe no te t) 0)) ∧ (((0 : Int) = (q (stp T M mo th la pe no te t) 1)) ∧ ((t = (q (stp T M mo th la pe no te t) 2)) ∧ (((Go.IntKind.wrap Go.IntKind.i64 (t - la)) = (q (stp T M mo th la pe no te t) 3)) ∧ (((Go.IntKind.wrap Go.IntKind.i64 (t - la)) = (q (stp T M mo th la pe no te t) 4)) ∧ ((1 : Int) = (q (stp T M mo th la pe no te t) 5))))))))
              False)
            False)
          False)
        False))
    (cnd (wValid T M)
      (cnd (decide ((-(2199023255552 : Int)) ≤ no))
        (cnd (decide (no ≤ (2199023255552 : Int)))
          (cnd (decide ((-(2199023255552 : Int)) ≤ (Go.IntKind.wrap Go.IntKind.i64 (t - la))))
            (cnd (decide ((Go.IntKind.wrap Go.IntKind.i64 (t - la)) ≤ (2199023255552 : Int)))
              (cnd (decide ((-(8796093022208 : Int)) ≤ (expc T M th no)))
                (cnd (decide ((expc T M th no) ≤ (8796093022208 : Int)))
                  (cnd (!(fitB (Go.IntKind.wrap Go.IntKind.i64 (t - la)) (expc T M th no)))
                    (((0 : Int) = (q (stp T M mo th la pe no te t) 0)) ∧ (((0 : Int) = (q (stp T M mo th la pe no te t) 1)) ∧ (((0 : Int) = (q (stp T M mo th la pe no te t) 2)) ∧ (((0 : Int) = (q (stp T M mo th la pe no te t) 3)) ∧ (((0 : Int) = (q (stp T M mo th la pe no te t) 4)) ∧ ((0 : Int) = (q (stp T M mo th la pe no te t) 5)))))))
                    (cnd (wValid T M)
                      (cnd (decide (th = (Go.IntKind.wrap Go.IntKind.i64 ((tth T M) - (1 : Int)))))
                        (cnd (decide ((Go.IntKind.wrap Go.IntKind.i64 (M + (1 : Int))) ≠ (0 : Int)))
                          (((2 : Int) = (q (stp T M mo th la pe no te t) 0)) ∧ (((0 : Int) = (q (stp T M mo th la pe no te t) 1)) ∧ ((t = (q (stp T M mo th la pe no te t) 2)) ∧ (((Go.IntKind.wrap Go.IntKind.i64 (t - la)) = (q (stp T M mo th la pe no te t) 3)) ∧ (((Go.IntKind.wrap Go.IntKind.i64 (Int.tdiv (Go.IntKind.wrap Go.IntKind.i64 (t - la)) (Go.IntKind.wrap Go.IntKind.i64 (M + (1 : Int))))) = (q (stp T M mo th la pe no te t) 4)) ∧ ((0 : Int) = (q (stp T M mo th la pe no te t) 5)))))))
                          False)
                        (((2 : Int) = (q (stp T M mo th la pe no te t) 0)) ∧ (((Go.IntKind.wrap Go.IntKind.i64 (th + (1 : Int))) = (q (stp T M mo th la pe no te t) 1)) ∧ ((t = (q (stp T M mo th la pe no te t) 2)) ∧ (((Go.IntKind.wrap Go.IntKind.i64 (t - la)) = (q (stp T M mo th la pe no te t) 3)) ∧ (((Go.IntKind.wrap Go.IntKind.i64 (t - la)) = (q (stp T M mo th la pe no te t) 4)) ∧ ((0 : Int) = (q (stp T M mo th la pe no te t) 5))))))))
                      False))
                  False)
                False)
              False)
            False)
          False)
        False)
      False))) := by
  obtain ⟨hw, hs⟩ := (Bool.and_eq_true _ _ ▸ p0 : wValid T M = true ∧ sV T M mo th la pe no te = true)
  have hh := wValid_iff.1 hw
  have ht := isT_iff.1 p1
  simp only [Bool.or_eq_true, decide_eq_true_eq] at p2
  have c := sV_cases hs
  have e : tth T M = T - M := by unfold tth; rw [if_pos hw]
  have hx : -8796093022208 ≤ expc T M th no ∧ expc T M th no ≤ 8796093022208 := by
    unfold expc
    rcases hh.1 with h | h
    · rw [h]; split <;> omega
    · rw [h]; split <;> omega
  have jx1 : decide (-8796093022208 ≤ expc T M th no) = true := decide_eq_true hx.1
  have jx2 : decide (expc T M th no ≤ 8796093022208) = true := decide_eq_true hx.2
  have jM : decide (M + 1 ≠ 0) = true := by rw [decide_eq_true_eq]; omega
  have j1 : decide (-2199023255552 ≤ no) = true := by rw [decide_eq_true_eq]; omega
  have j2 : decide (no ≤ 2199023255552) = true := by rw [decide_eq_true_eq]; omega
  have j3 : decide (-8796093022208 ≤ no) = true := by rw [decide_eq_true_eq]; omega
  have j4 : decide (no ≤ 8796093022208) = true := by rw [decide_eq_true_eq]; omega
  rw [w64 (n := t - la) (by omega) (by omega), w64 (n := M + 1) (by omega) (by omega), w64 (n := th + 1) (by omega) (by omega)]
  have j5 : decide (-2199023255552 ≤ t - la) = true := by rw [decide_eq_true_eq]; omega
  have j6 : decide (t - la ≤ 2199023255552) = true := by rw [decide_eq_true_eq]; omega
  simp only [jx1, jx2, jM, j1, j2, j3, j4, j5, j6, hw, Bool.or_true, cnd]
  rw [e, w64 (n := T - M - 1) (by omega) (by omega)]
  rcases c with c | c | c
  · obtain ⟨c1, c2, c3, c4, c5, c6⟩ := c
    subst c1
    simp [stp, q, cnd]
  · obtain ⟨c1, c2, c3, c4⟩ := c
    subst c1
    have hlt : 0 < t - la := by omega
    have hq := quo_pos (x := t - la) (y := M + 1) (by omega) (by omega)
    rw [tdiv_pos (by omega : 0 ≤ t - la), w64 (n := (t - la) / (M + 1)) (by omega) (by omega)]
    by_cases h2 : te = 2
    · have hno : 1 ≤ no ∧ no ≤ 1099511627776 := by omega
      have ha : t - la ≤ 1099511627776 := by omega
      have hb : 1 ≤ t - la := by omega
      cases hg : gapB M no (t - la) <;> cases hf : fitB (t - la) no <;> simp [stp, q, h2, hg, hf, hno, ha, hb, cnd]
    · by_cases h0 : te = 0
      · simp [stp, q, h0, cnd]
      · cases hf : fitB (t - la) no <;> simp [stp, q, h2, h0, hf, cnd]
  · obtain ⟨c1, c2, c3, c4⟩ := c
    subst c1
    have hq := quo_pos (x := t - la) (y := M + 1) (by omega) (by omega)
    rw [tdiv_pos (by omega : 0 ≤ t - la), w64 (n := (t - la) / (M + 1)) (by omega) (by omega)]
    cases hf : fitB (t - la) (expc T M th no) with
    | false => simp [stp, q, hf, cnd]
    | true =>
      by_cases hl : th = T - M - 1
      · subst hl; simp [stp, q, hf, cnd]
      · simp [stp, q, hf, hl, cnd]
set_option maxHeartbeats 2000000 in
theorem rstep_ok : SoundEnt Try.prog rstep_e := by
  refine ent_of_ex (Γ := (conOf [rGap_e, rfits_e, rexpected_e, wt16_e])) (conOf_sound (scons rGap_ok (scons rfits_ok (scons rexpected_ok (scons wt16_ok snil))))) (by kernel_rfl) Try.func20 (by kernel_rfl) (by kernel_rfl) (fun args rows res h ho => ?_)
  change rstep_go args rows = some res at h
  unfold rstep_go at h
  split at h
  · simp only [Option.some.injEq] at h
    subst h
    rename_i q0_ q1_ q2_ q3_ q4_ q5_ q6_ q7_ q8_
    obtain ⟨p0, p1, p2, _⟩ := ho
    exact EX.of (rstep_tree q0_ q1_ q2_ q3_ q4_ q5_ q6_ q7_ q8_) (rstep_holds q0_ q1_ q2_ q3_ q4_ q5_ q6_ q7_ q8_ p0 p1 p2)
  · cases h
end Go.Proofs.Ytcaadikffaflnaa

