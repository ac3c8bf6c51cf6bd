/- The wheel's synchronization by the symbolic run: windows, the example, the law of runs. -/
import Derived.Test.YtcaadikffaflnaaS3
namespace Go.Proofs.Ytcaadikffaflnaa
set_option linter.unusedVariables false
set_option linter.unusedSimpArgs false
open Go.RowKit

def winLow (T M mo th la pe no te : Int) : Int := if sVd T M mo th la pe no te = true ∧ mo = 2 then la + expc T M th no - expc T M th no / 4 else 0
def winHigh (T M mo th la pe no te : Int) : Int := if sVd T M mo th la pe no te = true ∧ mo = 2 then la + expc T M th no + expc T M th no / 4 else 0
theorem runS_length {T M : Int} : ∀ (l s : List Int), (runS T M s l).length = l.length
  | [], _ => rfl
  | t :: l, s => by rw [runS, List.length_cons, runS_length l, List.length_cons]
def swindow_res (T : Int) (M : Int) (mo : Int) (th : Int) (la : Int) (pe : Int) (no : Int) (te : Int) : CRes := ⟨[], .tup [.cel (.int .i64 (winLow T M mo th la pe no te)), .cel (.int .i64 (winHigh T M mo th la pe no te))], []⟩
def swindow_go : List TV → List RowA → Option CRes := fun args rows =>
  match args, rows with
  | [.agg [.int .i64 T, .int .i64 M], .agg [.int .i64 mo, .int .i64 th, .int .i64 la, .int .i64 pe, .int .i64 no, .int .i64 te]], [] => some (swindow_res T M mo th la pe no te)
  | _, _ => none
def swindow_e : Ent := ⟨21, [], swindow_go⟩
set_option maxRecDepth 100000 in
theorem swindow_tree (T : Int) (M : Int) (mo : Int) (th : Int) (la : Int) (pe : Int) (no : Int) (te : Int) : ((cnd ((!(sVd T M mo th la pe no te)) || (!(decide (mo = (2 : Int)))))
  (((0 : Int) = (winLow T M mo th la pe no te)) ∧ ((0 : Int) = (winHigh T M mo th la pe no te)))
  (cnd (wValid T M)
    (cnd (decide ((-(2199023255552 : Int)) ≤ no))
      (cnd (decide (no ≤ (2199023255552 : Int)))
        (((Go.IntKind.wrap Go.IntKind.i64 ((Go.IntKind.wrap Go.IntKind.i64 (la + (expc T M th no))) - (Go.IntKind.wrap Go.IntKind.i64 (Int.tdiv (expc T M th no) (4 : Int))))) = (winLow T M mo th la pe no te)) ∧ ((Go.IntKind.wrap Go.IntKind.i64 ((Go.IntKind.wrap Go.IntKind.i64 (la + (expc T M th no))) + (Go.IntKind.wrap Go.IntKind.i64 (Int.tdiv (expc T M th no) (4 : Int))))) = (winHigh T M mo th la pe no te)))
        False)
      False)
    False))) = EXD Try.prog (conOf [svalid_e, expected_e]) Try.f21 [.agg [.int .i64 T, .int .i64 M], .agg [.int .i64 mo, .int .i64 th, .int .i64 la, .int .i64 pe, .int .i64 no, .int .i64 te]] [] (swindow_res T M mo th la pe no te) := by kernel_rfl
theorem swindow_holds (T : Int) (M : Int) (mo : Int) (th : Int) (la : Int) (pe : Int) (no : Int) (te : Int)  : (cnd ((!(sVd T M mo th la pe no te)) || (!(decide (mo = (2 : Int)))))
  (((0 : Int) = (winLow T M mo th la pe no te)) ∧ ((0 : Int) = (winHigh T M mo th la pe no te)))
  (cnd (wValid T M)
    (cnd (decide ((-(2199023255552 : Int)) ≤ no))
      (cnd (decide (no ≤ (2199023255552 : Int)))
        (((Go.IntKind.wrap Go.IntKind.i64 ((Go.IntKind.wrap Go.IntKind.i64 (la + (expc T M th no))) - (Go.IntKind.wrap Go.IntKind.i64 (Int.tdiv (expc T M th no) (4 : Int))))) = (winLow T M mo th la pe no te)) ∧ ((Go.IntKind.wrap Go.IntKind.i64 ((Go.IntKind.wrap Go.IntKind.i64 (la + (expc T M th no))) + (Go.IntKind.wrap Go.IntKind.i64 (Int.tdiv (expc T M th no) (4 : Int))))) = (winHigh T M mo th la pe no te)))
        False)
      False)
    False)) := by
  have hx : sV T M mo th la pe no te = true → mo = 2 → wValid T M = true → (0 ≤ la ∧ la ≤ 1099511627776) ∧ (1 ≤ no ∧ no ≤ 1099511627776) ∧ 0 ≤ expc T M th no ∧ expc T M th no ≤ 8796093022208 := by
    intro hs hm hw
    have hh := wValid_iff.1 hw
    rcases sV_cases hs with c | c | c
    · omega
    · omega
    · have h2 : 0 ≤ expc T M th no ∧ expc T M th no ≤ 8796093022208 := by
        unfold expc
        rcases hh.1 with h | h
        · rw [h]; split <;> omega
        · rw [h]; split <;> omega
      omega
  unfold winLow winHigh
  cases hs : sVd T M mo th la pe no te with
  | false => simp [cnd]
  | true =>
    by_cases hm : mo = 2
    · obtain ⟨hw, hv⟩ := (Bool.and_eq_true _ _ ▸ hs : wValid T M = true ∧ sV T M mo th la pe no te = true)
      obtain ⟨h1, h2, h3, h4⟩ := hx hv hm hw
      have j1 : decide (-2199023255552 ≤ no) = true := by rw [decide_eq_true_eq]; omega
      have j2 : decide (no ≤ 2199023255552) = true := by rw [decide_eq_true_eq]; omega
      have j3 : decide (mo = 2) = true := decide_eq_true hm
      rw [hw, j1, j2, j3, tdiv_pos h3, if_pos ⟨rfl, hm⟩, if_pos ⟨rfl, hm⟩]
      generalize expc T M th no = x at *
      rw [w64 (n := x / 4) (by omega) (by omega), w64 (n := la + x) (by omega) (by omega), w64 (n := la + x - x / 4) (by omega) (by omega), w64 (n := la + x + x / 4) (by omega) (by omega)]
      simp [cnd]
    · simp [hm, cnd]
set_option maxHeartbeats 2000000 in
theorem swindow_ok : SoundEnt Try.prog swindow_e := by
  refine ent_of_ex (Γ := (conOf [svalid_e, expected_e])) (conOf_sound (scons svalid_ok (scons expected_ok snil))) (by kernel_rfl) Try.func21 (by kernel_rfl) (by kernel_rfl) (fun args rows res h ho => ?_)
  change swindow_go args rows = some res at h
  unfold swindow_go at h
  split at h
  · simp only [Option.some.injEq] at h
    subst h
    rename_i q0_ q1_ q2_ q3_ q4_ q5_ q6_ q7_
    skip
    exact EX.of (swindow_tree q0_ q1_ q2_ q3_ q4_ q5_ q6_ q7_) (swindow_holds q0_ q1_ q2_ q3_ q4_ q5_ q6_ q7_)
  · cases h
def awake_res : CRes := ⟨[], .one (.cel (.bool (true))), []⟩
def awake_go : List TV → List RowA → Option CRes := fun args rows =>
  match args, rows with
  | [], [] => some (awake_res )
  | _, _ => none
def awake_e : Ent := ⟨9, [], awake_go⟩
set_option maxRecDepth 100000 in
theorem awake_tree  : ((Bool.true = Bool.true)) = EXD Try.prog (conOf [srun_e, swindow_e]) Try.f9 [] [] (awake_res ) := by kernel_rfl
theorem awake_holds   : (Bool.true = Bool.true) := by
  exact rfl
set_option maxHeartbeats 2000000 in
theorem awake_ok : SoundEnt Try.prog awake_e := by
  refine ent_of_ex (Γ := (conOf [srun_e, swindow_e])) (conOf_sound (scons srun_ok (scons swindow_ok snil))) (by kernel_rfl) Try.func9 (by kernel_rfl) (by kernel_rfl) (fun args rows res h ho => ?_)
  change awake_go args rows = some res at h
  unfold awake_go at h
  split at h
  · simp only [Option.some.injEq] at h
    subst h
    skip
    skip
    exact EX.of (awake_tree ) (awake_holds )
  · cases h
def runs_res (T : Int) (M : Int) (l : List Int) (no : Int) (p : Int) : CRes := ⟨[wfI .i64 T, wfI .i64 M, wfL .i64 l, wfI .i64 no, wfI .i64 p, lenB l], .one (.cel (.bool (true))), []⟩
def runs_go : List TV → List RowA → Option CRes := fun args rows =>
  match args, rows with
  | [.agg [.int .i64 T, .int .i64 M], .cel (.row 0), .cel (.int .i64 no), .cel (.int .i64 p)], [.ints .i64 l] => some (runs_res T M l no p)
  | _, _ => none
def runs_e : Ent := ⟨7, [.ints .i64 []], runs_go⟩
set_option maxRecDepth 100000 in
theorem runs_tree (T : Int) (M : Int) (l : List Int) (no : Int) (p : Int) : ((cnd ((!Bool.true) || ((decide ((300 : Int) < (((List.length l) : Nat) : Int))) && (decide ((((List.length l) : Nat) : Int) ≤ (1000 : Int)))))
  (Bool.true = Bool.true)
  (cnd (!(((((((wValid T M) && (decide ((1 : Int) ≤ no))) && (decide (no ≤ (1099511627776 : Int)))) && (decide ((1 : Int) ≤ p))) && (decide (p ≤ (1099511627776 : Int)))) && (gapB M no p)) == ((((((wValid T M) && (decide ((1 : Int) ≤ no))) && (decide (no ≤ (1099511627776 : Int)))) && (decide ((1 : Int) ≤ p))) && (decide (p ≤ (1099511627776 : Int)))) && (gapB M no p))))
    (Bool.false = Bool.true)
    (cnd ((!((!(sVd T M (0 : Int) (0 : Int) (0 : Int) (0 : Int) (0 : Int) (0 : Int))) == Bool.false)) || (lenB l))
      (cnd ((!(sVd T M (0 : Int) (0 : Int) (0 : Int) (0 : Int) (0 : Int) (0 : Int))) || (!(edgesB l)))
        (((decide ((((List.length (if (((wValid T M) && (edgesB l)) = Bool.true) then (runS T M s0 l) else ([] : List (List Int)))) : Nat) : Int) = (0 : Int))) && (decide ((if (((wValid T M) && (edgesB l)) = Bool.true) then (0 : Int) else (1 : Int)) = (1 : Int)))) = Bool.true)
        (cnd (wValid T M)
          (cnd (edgesB l)
            (cnd (decide ((List.length (if (((wValid T M) && (edgesB l)) = Bool.true) then (runS T M s0 l) else ([] : List (List Int)))) ≤ 1000))
              (cnd (decide ((List.length (runS T M s0 l)) ≤ 1000))
                (((decide ((List.map six (if (((wValid T M) && (edgesB l)) = Bool.true) then (runS T M s0 l) else ([] : List (List Int)))) = (List.map six (runS T M s0 l)))) && (decide ((if (((wValid T M) && (edgesB l)) = Bool.true) then (0 : Int) else (1 : Int)) = (0 : Int)))) = Bool.true)
                False)
              False)
            False)
          False))
      False)))) = EXD Try.prog (conOf [awake_e, srun_e, sGap_e, rGap_e, rsvalid_e, redges_e, rrun_e, equal_e]) Try.f7 [.agg [.int .i64 T, .int .i64 M], .cel (.row 0), .cel (.int .i64 no), .cel (.int .i64 p)] [.ints .i64 l] (runs_res T M l no p) := by kernel_rfl
theorem runs_holds (T : Int) (M : Int) (l : List Int) (no : Int) (p : Int) (p0 : wfI .i64 T = true) (p1 : wfI .i64 M = true) (p2 : wfL .i64 l = true) (p3 : wfI .i64 no = true) (p4 : wfI .i64 p = true) (p5 : lenB l = true) : (cnd ((!Bool.true) || ((decide ((300 : Int) < (((List.length l) : Nat) : Int))) && (decide ((((List.length l) : Nat) : Int) ≤ (1000 : Int)))))
  (Bool.true = Bool.true)
  (cnd (!(((((((wValid T M) && (decide ((1 : Int) ≤ no))) && (decide (no ≤ (1099511627776 : Int)))) && (decide ((1 : Int) ≤ p))) && (decide (p ≤ (1099511627776 : Int)))) && (gapB M no p)) == ((((((wValid T M) && (decide ((1 : Int) ≤ no))) && (decide (no ≤ (1099511627776 : Int)))) && (decide ((1 : Int) ≤ p))) && (decide (p ≤ (1099511627776 : Int)))) && (gapB M no p))))
    (Bool.false = Bool.true)
    (cnd ((!((!(sVd T M (0 : Int) (0 : Int) (0 : Int) (0 : Int) (0 : Int) (0 : Int))) == Bool.false)) || (lenB l))
      (cnd ((!(sVd T M (0 : Int) (0 : Int) (0 : Int) (0 : Int) (0 : Int) (0 : Int))) || (!(edgesB l)))
        (((decide ((((List.length (if (((wValid T M) && (edgesB l)) = Bool.true) then (runS T M s0 l) else ([] : List (List Int)))) : Nat) : Int) = (0 : Int))) && (decide ((if (((wValid T M) && (edgesB l)) = Bool.true) then (0 : Int) else (1 : Int)) = (1 : Int)))) = Bool.true)
        (cnd (wValid T M)
          (cnd (edgesB l)
            (cnd (decide ((List.length (if (((wValid T M) && (edgesB l)) = Bool.true) then (runS T M s0 l) else ([] : List (List Int)))) ≤ 1000))
              (cnd (decide ((List.length (runS T M s0 l)) ≤ 1000))
                (((decide ((List.map six (if (((wValid T M) && (edgesB l)) = Bool.true) then (runS T M s0 l) else ([] : List (List Int)))) = (List.map six (runS T M s0 l)))) && (decide ((if (((wValid T M) && (edgesB l)) = Bool.true) then (0 : Int) else (1 : Int)) = (0 : Int)))) = Bool.true)
                False)
              False)
            False)
          False))
      False))) := by
  have e0 : sVd T M 0 0 0 0 0 0 = wValid T M := by unfold sVd; cases wValid T M <;> rfl
  refine cnd_i (fun _ => rfl) (fun _ => ?_)
  rw [p5, e0]
  cases hw : wValid T M with
  | false => simp [cnd]
  | true =>
    cases he : edgesB l with
    | false => simp [cnd]
    | true =>
      have h1 : (l.length : Int) ≤ 1000 := (edgesB_iff.1 he).1
      have hr : (runS T M s0 l).length ≤ 1000 := by rw [runS_length]; omega
      simp [cnd, hr]
set_option maxHeartbeats 2000000 in
theorem runs_ok : SoundEnt Try.prog runs_e := by
  refine ent_of_ex (Γ := (conOf [awake_e, srun_e, sGap_e, rGap_e, rsvalid_e, redges_e, rrun_e, equal_e])) (conOf_sound (scons awake_ok (scons srun_ok (scons sGap_ok (scons rGap_ok (scons rsvalid_ok (scons redges_ok (scons rrun_ok (scons equal_ok snil))))))))) (by kernel_rfl) Try.func7 (by kernel_rfl) (by kernel_rfl) (fun args rows res h ho => ?_)
  change runs_go args rows = some res at h
  unfold runs_go at h
  split at h
  · simp only [Option.some.injEq] at h
    subst h
    rename_i q0_ q1_ q3_ q4_ q2_
    obtain ⟨p0, p1, p2, p3, p4, p5, _⟩ := ho
    exact EX.of (runs_tree q0_ q1_ q2_ q3_ q4_) (runs_holds q0_ q1_ q2_ q3_ q4_ p0 p1 p2 p3 p4 p5)
  · cases h
end Go.Proofs.Ytcaadikffaflnaa

