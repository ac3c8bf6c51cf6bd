/- The tooth filter. -/
import Derived.Test.YthfliohfkhnpiaaJ7
import Derived.Test.YthfliohfkhnpiaaSi
import Derived.Test.YthfliohfkhnpiaaJn
namespace Go.Proofs.Ythfliohfkhnpiaa
set_option linter.unusedVariables false
set_option linter.unusedSimpArgs false
open Go.RowKit

def flV (sn : Bool) (la pe : Int) : Bool := isT la && isT pe && decide (pe ≤ la) && (sn || (decide (la = 0) && decide (pe = 0)))
def blk (pe : Int) : Int := max 20 (pe / 4)
/-- The accepted edges. -/
def tfR : Bool → Int → Int → List Int → List Int
  | _, _, _, [] => []
  | sn, la, pe, t :: l => if sn && decide (t - la < blk pe) then tfR sn la pe l else t :: tfR true t (if sn then t - la else 0) l
def ttime_res (t : Int) : CRes := ⟨[], .one (.cel (.bool (isT t))), []⟩
def ttime_go : List TV → List RowA → List (List CV) → Option CRes := fun args rows caps =>
  match args, rows, caps with
  | [.cel (.int .i64 t)], [], [] => some (ttime_res t)
  | _, _, _ => none
def ttime_e : Ent := ⟨54, [], ttime_go⟩
set_option maxRecDepth 100000 in
theorem ttime_tree (t : Int) : ((((decide ((0 : Int) ≤ t)) && (decide (t ≤ (1099511627776 : Int)))) = (isT t))) = EXD Try.prog (conOf []) Try.f54 [.cel (.int .i64 t)] [] [] (ttime_res t) := by kernel_rfl
theorem ttime_holds (t : Int)  : (((decide ((0 : Int) ≤ t)) && (decide (t ≤ (1099511627776 : Int)))) = (isT t)) := by
  simp [condF, isT]
set_option maxHeartbeats 2000000 in
theorem ttime_ok : SoundEnt Try.prog ttime_e := by
  refine ent_of_ex (Γ := (conOf [])) (conOf_sound snil) (by kernel_rfl) Try.func54 (by kernel_rfl) (by kernel_rfl) (fun args rows caps res h ho => ?_)
  change ttime_go args rows caps = some res at h
  unfold ttime_go at h
  split at h
  · simp only [Option.some.injEq] at h
    subst h
    rename_i q0_
    skip
    exact EX.of (ttime_tree q0_) (ttime_holds q0_)
  · cases h
def tvalid_res (sn : Bool) (la : Int) (pe : Int) : CRes := ⟨[], .one (.cel (.bool (flV sn la pe))), []⟩
def tvalid_go : List TV → List RowA → List (List CV) → Option CRes := fun args rows caps =>
  match args, rows, caps with
  | [.agg [.bool sn, .int .i64 la, .int .i64 pe]], [], [] => some (tvalid_res sn la pe)
  | _, _, _ => none
def tvalid_e : Ent := ⟨98, [], tvalid_go⟩
set_option maxRecDepth 100000 in
theorem tvalid_tree (sn : Bool) (la : Int) (pe : Int) : ((((((isT la) && (isT pe)) && (decide (pe ≤ la))) && (sn || ((decide (la = (0 : Int))) && (decide (pe = (0 : Int)))))) = (flV sn la pe))) = EXD Try.prog (conOf [ttime_e]) Try.f98 [.agg [.bool sn, .int .i64 la, .int .i64 pe]] [] [] (tvalid_res sn la pe) := by kernel_rfl
theorem tvalid_holds (sn : Bool) (la : Int) (pe : Int)  : (((((isT la) && (isT pe)) && (decide (pe ≤ la))) && (sn || ((decide (la = (0 : Int))) && (decide (pe = (0 : Int)))))) = (flV sn la pe)) := by
  rfl
set_option maxHeartbeats 2000000 in
theorem tvalid_ok : SoundEnt Try.prog tvalid_e := by
  refine ent_of_ex (Γ := (conOf [ttime_e])) (conOf_sound (scons ttime_ok snil)) (by kernel_rfl) Try.func98 (by kernel_rfl) (by kernel_rfl) (fun args rows caps res h ho => ?_)
  change tvalid_go args rows caps = some res at h
  unfold tvalid_go at h
  split at h
  · simp only [Option.some.injEq] at h
    subst h
    rename_i q0_ q1_ q2_
    skip
    exact EX.of (tvalid_tree q0_ q1_ q2_) (tvalid_holds q0_ q1_ q2_)
  · cases h
theorem flV_iff {sn : Bool} {la pe : Int} (h : flV sn la pe = true) : (0 ≤ la ∧ la ≤ 1099511627776) ∧ (0 ≤ pe ∧ pe ≤ 1099511627776) ∧ pe ≤ la := by
  unfold flV at h
  simp only [Bool.and_eq_true, isT_iff, decide_eq_true_eq] at h
  omega
theorem flV_one {la pe : Int} (h1 : 0 ≤ la ∧ la ≤ 1099511627776) (h2 : 0 ≤ pe ∧ pe ≤ la) : flV true la pe = true := by
  unfold flV
  rw [isT_iff.2 h1, isT_iff.2 (show 0 ≤ pe ∧ pe ≤ 1099511627776 by omega), decide_eq_true h2.2]
  rfl
def tblank_res (sn : Bool) (la : Int) (pe : Int) : CRes := ⟨[flV sn la pe], .one (.cel (.int .i64 (if sn then blk pe else 0))), []⟩
def tblank_go : List TV → List RowA → List (List CV) → Option CRes := fun args rows caps =>
  match args, rows, caps with
  | [.agg [.bool sn, .int .i64 la, .int .i64 pe]], [], [] => some (tblank_res sn la pe)
  | _, _, _ => none
def tblank_e : Ent := ⟨99, [], tblank_go⟩
set_option maxRecDepth 100000 in
theorem tblank_tree (sn : Bool) (la : Int) (pe : Int) : ((cnd ((!(flV sn la pe)) || (!sn))
  ((0 : Int) = (if (sn = Bool.true) then (blk pe) else (0 : Int)))
  ((gmax (20 : Int) (Go.IntKind.wrap Go.IntKind.i64 (Int.tdiv pe (4 : Int)))) = (if (sn = Bool.true) then (blk pe) else (0 : Int))))) = EXD Try.prog (conOf [tvalid_e]) Try.f99 [.agg [.bool sn, .int .i64 la, .int .i64 pe]] [] [] (tblank_res sn la pe) := by kernel_rfl
theorem tblank_holds (sn : Bool) (la : Int) (pe : Int) (p0 : (flV sn la pe) = true) : (cnd ((!(flV sn la pe)) || (!sn))
  ((0 : Int) = (if (sn = Bool.true) then (blk pe) else (0 : Int)))
  ((gmax (20 : Int) (Go.IntKind.wrap Go.IntKind.i64 (Int.tdiv pe (4 : Int)))) = (if (sn = Bool.true) then (blk pe) else (0 : Int)))) := by
  have h := flV_iff p0
  rw [p0, tdiv_pos (by omega), w64 (n := pe / 4) (by omega) (by omega)]
  cases sn with
  | false => rfl
  | true =>
    show gmax 20 (pe / 4) = blk pe
    unfold gmax blk
    omega
set_option maxHeartbeats 2000000 in
theorem tblank_ok : SoundEnt Try.prog tblank_e := by
  refine ent_of_ex (Γ := (conOf [tvalid_e])) (conOf_sound (scons tvalid_ok snil)) (by kernel_rfl) Try.func99 (by kernel_rfl) (by kernel_rfl) (fun args rows caps res h ho => ?_)
  change tblank_go args rows caps = some res at h
  unfold tblank_go at h
  split at h
  · simp only [Option.some.injEq] at h
    subst h
    rename_i q0_ q1_ q2_
    obtain ⟨p0, _⟩ := ho
    exact EX.of (tblank_tree q0_ q1_ q2_) (tblank_holds q0_ q1_ q2_ p0)
  · cases h
def tstep_res (sn : Bool) (la : Int) (pe : Int) (t : Int) : CRes := ⟨[flV sn la pe, isT t, !sn || decide (la ≤ t)], .tup [.agg [.bool (sn || !(sn && decide (t - la < blk pe))), .int .i64 (if sn && decide (t - la < blk pe) then la else t), .int .i64 (if sn && decide (t - la < blk pe) then pe else if sn then t - la else 0)], .cel (.bool (!(sn && decide (t - la < blk pe)))), .cel (.int .i64 (0))], []⟩
def tstep_go : List TV → List RowA → List (List CV) → Option CRes := fun args rows caps =>
  match args, rows, caps with
  | [.agg [.bool sn, .int .i64 la, .int .i64 pe], .cel (.int .i64 t)], [], [] => some (tstep_res sn la pe t)
  | _, _, _ => none
def tstep_e : Ent := ⟨56, [], tstep_go⟩
set_option maxRecDepth 100000 in
theorem tstep_tree (sn : Bool) (la : Int) (pe : Int) (t : Int) : ((cnd (!(flV sn la pe))
  (((Bool.false = (sn || (!(sn && (decide ((t - la) < (blk pe))))))) ∧ (((0 : Int) = (if ((sn && (decide ((t - la) < (blk pe)))) = Bool.true) then la else t)) ∧ ((0 : Int) = (if ((sn && (decide ((t - la) < (blk pe)))) = Bool.true) then pe else (if (sn = Bool.true) then (t - la) else (0 : Int)))))) ∧ ((Bool.false = (!(sn && (decide ((t - la) < (blk pe)))))) ∧ ((1 : Int) = (0 : Int))))
  (cnd (!(isT t))
    (((Bool.false = (sn || (!(sn && (decide ((t - la) < (blk pe))))))) ∧ (((0 : Int) = (if ((sn && (decide ((t - la) < (blk pe)))) = Bool.true) then la else t)) ∧ ((0 : Int) = (if ((sn && (decide ((t - la) < (blk pe)))) = Bool.true) then pe else (if (sn = Bool.true) then (t - la) else (0 : Int)))))) ∧ ((Bool.false = (!(sn && (decide ((t - la) < (blk pe)))))) ∧ ((2 : Int) = (0 : Int))))
    (cnd (sn && (decide (t < la)))
      (((Bool.false = (sn || (!(sn && (decide ((t - la) < (blk pe))))))) ∧ (((0 : Int) = (if ((sn && (decide ((t - la) < (blk pe)))) = Bool.true) then la else t)) ∧ ((0 : Int) = (if ((sn && (decide ((t - la) < (blk pe)))) = Bool.true) then pe else (if (sn = Bool.true) then (t - la) else (0 : Int)))))) ∧ ((Bool.false = (!(sn && (decide ((t - la) < (blk pe)))))) ∧ ((16 : Int) = (0 : Int))))
      (cnd ((!(sn == Bool.true)) || (flV sn la pe))
        (cnd (sn && (decide ((Go.IntKind.wrap Go.IntKind.i64 (t - la)) < (if (sn = Bool.true) then (blk pe) else (0 : Int)))))
          (((sn = (sn || (!(sn && (decide ((t - la) < (blk pe))))))) ∧ ((la = (if ((sn && (decide ((t - la) < (blk pe)))) = Bool.true) then la else t)) ∧ (pe = (if ((sn && (decide ((t - la) < (blk pe)))) = Bool.true) then pe else (if (sn = Bool.true) then (t - la) else (0 : Int)))))) ∧ ((Bool.false = (!(sn && (decide ((t - la) < (blk pe)))))) ∧ ((0 : Int) = (0 : Int))))
          (cnd sn
            (((Bool.true = (sn || (!(sn && (decide ((t - la) < (blk pe))))))) ∧ ((t = (if ((sn && (decide ((t - la) < (blk pe)))) = Bool.true) then la else t)) ∧ ((Go.IntKind.wrap Go.IntKind.i64 (t - la)) = (if ((sn && (decide ((t - la) < (blk pe)))) = Bool.true) then pe else (if (sn = Bool.true) then (t - la) else (0 : Int)))))) ∧ ((Bool.true = (!(sn && (decide ((t - la) < (blk pe)))))) ∧ ((0 : Int) = (0 : Int))))
            (((Bool.true = (sn || (!(sn && (decide ((t - la) < (blk pe))))))) ∧ ((t = (if ((sn && (decide ((t - la) < (blk pe)))) = Bool.true) then la else t)) ∧ ((0 : Int) = (if ((sn && (decide ((t - la) < (blk pe)))) = Bool.true) then pe else (if (sn = Bool.true) then (t - la) else (0 : Int)))))) ∧ ((Bool.true = (!(sn && (decide ((t - la) < (blk pe)))))) ∧ ((0 : Int) = (0 : Int))))))
        False))))) = EXD Try.prog (conOf [tvalid_e, ttime_e, tblank_e]) Try.f56 [.agg [.bool sn, .int .i64 la, .int .i64 pe], .cel (.int .i64 t)] [] [] (tstep_res sn la pe t) := by kernel_rfl
theorem tstep_holds (sn : Bool) (la : Int) (pe : Int) (t : Int) (p0 : (flV sn la pe) = true) (p1 : (isT t) = true) (p2 : (!sn || decide (la ≤ t)) = true) : (cnd (!(flV sn la pe))
  (((Bool.false = (sn || (!(sn && (decide ((t - la) < (blk pe))))))) ∧ (((0 : Int) = (if ((sn && (decide ((t - la) < (blk pe)))) = Bool.true) then la else t)) ∧ ((0 : Int) = (if ((sn && (decide ((t - la) < (blk pe)))) = Bool.true) then pe else (if (sn = Bool.true) then (t - la) else (0 : Int)))))) ∧ ((Bool.false = (!(sn && (decide ((t - la) < (blk pe)))))) ∧ ((1 : Int) = (0 : Int))))
  (cnd (!(isT t))
    (((Bool.false = (sn || (!(sn && (decide ((t - la) < (blk pe))))))) ∧ (((0 : Int) = (if ((sn && (decide ((t - la) < (blk pe)))) = Bool.true) then la else t)) ∧ ((0 : Int) = (if ((sn && (decide ((t - la) < (blk pe)))) = Bool.true) then pe else (if (sn = Bool.true) then (t - la) else (0 : Int)))))) ∧ ((Bool.false = (!(sn && (decide ((t - la) < (blk pe)))))) ∧ ((2 : Int) = (0 : Int))))
    (cnd (sn && (decide (t < la)))
      (((Bool.false = (sn || (!(sn && (decide ((t - la) < (blk pe))))))) ∧ (((0 : Int) = (if ((sn && (decide ((t - la) < (blk pe)))) = Bool.true) then la else t)) ∧ ((0 : Int) = (if ((sn && (decide ((t - la) < (blk pe)))) = Bool.true) then pe else (if (sn = Bool.true) then (t - la) else (0 : Int)))))) ∧ ((Bool.false = (!(sn && (decide ((t - la) < (blk pe)))))) ∧ ((16 : Int) = (0 : Int))))
      (cnd ((!(sn == Bool.true)) || (flV sn la pe))
        (cnd (sn && (decide ((Go.IntKind.wrap Go.IntKind.i64 (t - la)) < (if (sn = Bool.true) then (blk pe) else (0 : Int)))))
          (((sn = (sn || (!(sn && (decide ((t - la) < (blk pe))))))) ∧ ((la = (if ((sn && (decide ((t - la) < (blk pe)))) = Bool.true) then la else t)) ∧ (pe = (if ((sn && (decide ((t - la) < (blk pe)))) = Bool.true) then pe else (if (sn = Bool.true) then (t - la) else (0 : Int)))))) ∧ ((Bool.false = (!(sn && (decide ((t - la) < (blk pe)))))) ∧ ((0 : Int) = (0 : Int))))
          (cnd sn
            (((Bool.true = (sn || (!(sn && (decide ((t - la) < (blk pe))))))) ∧ ((t = (if ((sn && (decide ((t - la) < (blk pe)))) = Bool.true) then la else t)) ∧ ((Go.IntKind.wrap Go.IntKind.i64 (t - la)) = (if ((sn && (decide ((t - la) < (blk pe)))) = Bool.true) then pe else (if (sn = Bool.true) then (t - la) else (0 : Int)))))) ∧ ((Bool.true = (!(sn && (decide ((t - la) < (blk pe)))))) ∧ ((0 : Int) = (0 : Int))))
            (((Bool.true = (sn || (!(sn && (decide ((t - la) < (blk pe))))))) ∧ ((t = (if ((sn && (decide ((t - la) < (blk pe)))) = Bool.true) then la else t)) ∧ ((0 : Int) = (if ((sn && (decide ((t - la) < (blk pe)))) = Bool.true) then pe else (if (sn = Bool.true) then (t - la) else (0 : Int)))))) ∧ ((Bool.true = (!(sn && (decide ((t - la) < (blk pe)))))) ∧ ((0 : Int) = (0 : Int))))))
        False)))) := by
  have h := flV_iff p0
  have ht := isT_iff.1 p1
  rw [p0, p1, w64 (n := t - la) (by omega) (by omega)]
  cases sn with
  | false => simp [cnd]
  | true =>
    simp only [Bool.not_true, Bool.false_or, decide_eq_true_eq] at p2
    rw [decide_eq_false (show ¬ t < la by omega)]
    by_cases hc : t - la < blk pe
    · simp [cnd, hc]
    · simp [cnd, hc]
set_option maxHeartbeats 2000000 in
theorem tstep_ok : SoundEnt Try.prog tstep_e := by
  refine ent_of_ex (Γ := (conOf [tvalid_e, ttime_e, tblank_e])) (conOf_sound (scons tvalid_ok (scons ttime_ok (scons tblank_ok snil)))) (by kernel_rfl) Try.func56 (by kernel_rfl) (by kernel_rfl) (fun args rows caps res h ho => ?_)
  change tstep_go args rows caps = some res at h
  unfold tstep_go at h
  split at h
  · simp only [Option.some.injEq] at h
    subst h
    rename_i q0_ q1_ q2_ q3_
    obtain ⟨p0, p1, p2, _⟩ := ho
    exact EX.of (tstep_tree q0_ q1_ q2_ q3_) (tstep_holds q0_ q1_ q2_ q3_ p0 p1 p2)
  · cases h
def tnew_res : CRes := ⟨[], .one (.agg [.bool (false), .int .i64 (0), .int .i64 (0)]), []⟩
def tnew_go : List TV → List RowA → List (List CV) → Option CRes := fun args rows caps =>
  match args, rows, caps with
  | [], [], [] => some (tnew_res )
  | _, _, _ => none
def tnew_e : Ent := ⟨55, [], tnew_go⟩
set_option maxRecDepth 100000 in
theorem tnew_tree  : (((Bool.false = Bool.false) ∧ (((0 : Int) = (0 : Int)) ∧ ((0 : Int) = (0 : Int))))) = EXD Try.prog (conOf []) Try.f55 [] [] [] (tnew_res ) := by kernel_rfl
theorem tnew_holds   : ((Bool.false = Bool.false) ∧ (((0 : Int) = (0 : Int)) ∧ ((0 : Int) = (0 : Int)))) := by
  exact ⟨rfl, rfl, rfl⟩
set_option maxHeartbeats 2000000 in
theorem tnew_ok : SoundEnt Try.prog tnew_e := by
  refine ent_of_ex (Γ := (conOf [])) (conOf_sound snil) (by kernel_rfl) Try.func55 (by kernel_rfl) (by kernel_rfl) (fun args rows caps res h ho => ?_)
  change tnew_go args rows caps = some res at h
  unfold tnew_go at h
  split at h
  · simp only [Option.some.injEq] at h
    subst h
    skip
    skip
    exact EX.of (tnew_tree ) (tnew_holds )
  · cases h
def trun_res (l : List Int) : CRes := ⟨[], .tup [.cel (.row 1), .cel (.int .i64 (if vE l then 0 else 1))], [.ints .i64 (if vE l then tfR false 0 0 l else [])]⟩
def trun_go : List TV → List RowA → List (List CV) → Option CRes := fun args rows caps =>
  match args, rows, caps with
  | [.cel (.row 0)], [.ints .i64 l], [] => some (trun_res l)
  | _, _, _ => none
def trun_e : Ent := ⟨17, [.ints .i64 []], trun_go⟩
def trun_L1_F (l : List Int) (i : Int) : St := ⟨66, [], [(18, (.one (.cel (.int .i64 i)))), (17, (.one (.cel (.int .i64 (((List.length l) : Nat) : Int))))), (16, (.one (.cel (.row 0)))), (3, (.one (.cel (.int .i64 (0 : Int))))), (2, (.one (.cel .nilS))), (0, (.one (.cel (.row 0))))], [], [⟨(.ints .i64 l), none⟩], 0⟩
def trun_L1_I (l : List Int) (i : Int) : Prop := (0 ≤ i ∧ i ≤ l.length ∧ (l.length : Int) ≤ 1000) ∧ (l.all isT = (l.drop i.toNat).all isT) ∧ (incr l = incr (l.drop (i - 1).toNat))
def trun_L1_m (l : List Int) (i : Int) : Nat := (l.length - i).toNat
def trun_L1_N (l : List Int) (i' : Int) (st_ : St) : Prop := getI st_ 18 fun i => trun_L1_I l i ∧ trun_L1_m l i < trun_L1_m l i' ∧ SubA st_ (trun_L1_F l i)
def trun_L1_E (l : List Int) (st_ : St) : Prop := getI st_ 18 fun i => trun_L1_I l i ∧ SubA st_ (trun_L1_F l i)
def trun_L1_S1 (l : List Int) : St := ⟨66, [], [(18, (.one (.cel (.int .i64 (0 : Int))))), (17, (.one (.cel (.int .i64 (((List.length l) : Nat) : Int))))), (16, (.one (.cel (.row 0)))), (15, (.one (.cel (.bool (decide ((1000 : Int) < (((List.length l) : Nat) : Int))))))), (14, (.one (.cel (.int .i64 (((List.length l) : Nat) : Int))))), (13, (.one (.cel (.row 0)))), (3, (.one (.cel (.int .i64 (0 : Int))))), (2, (.one (.cel .nilS))), (0, (.one (.cel (.row 0))))], [], [⟨(.ints .i64 l), none⟩], 0⟩
def trun_L2_F (l : List Int) (i : Int) (k : Int) (sn : Bool) (la : Int) (pe : Int) (o : List Int) : St := ⟨66, [], [(43, (.one (.cel (.int .i64 k)))), (42, (.one (.cel (.int .i64 (((List.length l) : Nat) : Int))))), (41, (.one (.cel (.row 0)))), (7, (.one (.cel (.ptr 0 0)))), (6, (.one (.cel (.row 1)))), (3, (.one (.cel (.int .i64 (0 : Int))))), (2, (.one (.cel .nilS)))], [[(.bool sn), (.int .i64 la), (.int .i64 pe)]], [⟨(.ints .i64 l), none⟩, ⟨(.ints .i64 o), some 3⟩], 0⟩
def trun_L2_I (l : List Int) (i : Int) (k : Int) (sn : Bool) (la : Int) (pe : Int) (o : List Int) : Prop := (vE l = true) ∧ (0 ≤ k ∧ k ≤ l.length) ∧ (flV sn la pe = true ∧ (sn = true → 1 ≤ k ∧ la ≤ l.getD (k - 1).toNat 0)) ∧ (o ++ tfR sn la pe (l.drop k.toNat) = tfR false 0 0 l) ∧ ((o.length : Int) ≤ k)
def trun_L2_m (l : List Int) (i : Int) (k : Int) (sn : Bool) (la : Int) (pe : Int) (o : List Int) : Nat := (l.length - k).toNat
def trun_L2_N (l : List Int) (i : Int) (k' : Int) (sn' : Bool) (la' : Int) (pe' : Int) (o' : List Int) (st_ : St) : Prop := getI st_ 43 fun k => getCB st_ 0 0 fun sn => getCI st_ 0 1 fun la => getCI st_ 0 2 fun pe => getR st_ 6 fun o => trun_L2_I l i k sn la pe o ∧ trun_L2_m l i k sn la pe o < trun_L2_m l i k' sn' la' pe' o' ∧ SubA st_ (trun_L2_F l i k sn la pe o)
def trun_L2_E (l : List Int) (i : Int) (st_ : St) : Prop := getI st_ 43 fun k => getCB st_ 0 0 fun sn => getCI st_ 0 1 fun la => getCI st_ 0 2 fun pe => getR st_ 6 fun o => trun_L2_I l i k sn la pe o ∧ SubA st_ (trun_L2_F l i k sn la pe o)
def trun_L2_S1 (l : List Int) (i : Int) : St := ⟨66, [], [(43, (.one (.cel (.int .i64 (0 : Int))))), (42, (.one (.cel (.int .i64 (((List.length l) : Nat) : Int))))), (41, (.one (.cel (.row 0)))), (7, (.one (.cel (.ptr 0 0)))), (40, (.one (.agg [(.bool Bool.false), (.int .i64 (0 : Int)), (.int .i64 (0 : Int))]))), (6, (.one (.cel .nilS))), (19, (.one (.cel (.bool (decide (i < (((List.length l) : Nat) : Int))))))), (18, (.one (.cel (.int .i64 i)))), (17, (.one (.cel (.int .i64 (((List.length l) : Nat) : Int))))), (16, (.one (.cel (.row 0)))), (3, (.one (.cel (.int .i64 (0 : Int))))), (2, (.one (.cel .nilS))), (0, (.one (.cel (.row 0))))], [[(.bool Bool.false), (.int .i64 (0 : Int)), (.int .i64 (0 : Int))]], [⟨(.ints .i64 l), none⟩], 0⟩
def trun_L2_T (l : List Int) (i : Int) (k : Int) (sn : Bool) (la : Int) (pe : Int) (o : List Int) : Prop := (cnd (decide (k < (((List.length l) : Nat) : Int)))
  (cnd (decide ((0 : Int) ≤ k))
    (cnd (decide (k < (((List.length l) : Nat) : Int)))
      (cnd (flV sn la pe)
        (cnd (isT (List.getD l (Int.toNat k) (0 : Int)))
          (cnd ((!sn) || (decide (la ≤ (List.getD l (Int.toNat k) (0 : Int)))))
            (cnd (!(!(sn && (decide (((List.getD l (Int.toNat k) (0 : Int)) - la) < (blk pe))))))
              ((trun_L2_I l i (Go.IntKind.wrap Go.IntKind.i64 (k + (1 : Int))) sn la pe o) ∧ (((trun_L2_m l i (Go.IntKind.wrap Go.IntKind.i64 (k + (1 : Int))) sn la pe o) < (trun_L2_m l i k sn la pe o)) ∧ (((Go.IntKind.wrap Go.IntKind.i64 (k + (1 : Int))) = (Go.IntKind.wrap Go.IntKind.i64 (k + (1 : Int)))) ∧ (((((List.length l) : Nat) : Int) = (((List.length l) : Nat) : Int)) ∧ (True ∧ (True ∧ (True ∧ (((0 : Int) = (0 : Int)) ∧ (True ∧ (((sn = sn) ∧ ((la = la) ∧ (pe = pe))) ∧ ((l = l) ∧ ((o = o) ∧ True))))))))))))
              ((cnd (decide ((List.length (o ++ [(List.getD l (Int.toNat k) (0 : Int))])) ≤ 4294967296))
                ((trun_L2_I l i (Go.IntKind.wrap Go.IntKind.i64 (k + (1 : Int))) (sn || (!(sn && (decide (((List.getD l (Int.toNat k) (0 : Int)) - la) < (blk pe)))))) (if ((sn && (decide (((List.getD l (Int.toNat k) (0 : Int)) - la) < (blk pe)))) = Bool.true) then la else (List.getD l (Int.toNat k) (0 : Int))) (if ((sn && (decide (((List.getD l (Int.toNat k) (0 : Int)) - la) < (blk pe)))) = Bool.true) then pe else (if (sn = Bool.true) then ((List.getD l (Int.toNat k) (0 : Int)) - la) else (0 : Int))) (o ++ [(List.getD l (Int.toNat k) (0 : Int))])) ∧ (((trun_L2_m l i (Go.IntKind.wrap Go.IntKind.i64 (k + (1 : Int))) (sn || (!(sn && (decide (((List.getD l (Int.toNat k) (0 : Int)) - la) < (blk pe)))))) (if ((sn && (decide (((List.getD l (Int.toNat k) (0 : Int)) - la) < (blk pe)))) = Bool.true) then la else (List.getD l (Int.toNat k) (0 : Int))) (if ((sn && (decide (((List.getD l (Int.toNat k) (0 : Int)) - la) < (blk pe)))) = Bool.true) then pe else (if (sn = Bool.true) then ((List.getD l (Int.toNat k) (0 : Int)) - la) else (0 : Int))) (o ++ [(List.getD l (Int.toNat k) (0 : Int))])) < (trun_L2_m l i k sn la pe o)) ∧ (((Go.IntKind.wrap Go.IntKind.i64 (k + (1 : Int))) = (Go.IntKind.wrap Go.IntKind.i64 (k + (1 : Int)))) ∧ (((((List.length l) : Nat) : Int) = (((List.length l) : Nat) : Int)) ∧ (True ∧ (True ∧ (True ∧ (((0 : Int) = (0 : Int)) ∧ (True ∧ ((((sn || (!(sn && (decide (((List.getD l (Int.toNat k) (0 : Int)) - la) < (blk pe)))))) = (sn || (!(sn && (decide (((List.getD l (Int.toNat k) (0 : Int)) - la) < (blk pe))))))) ∧ (((if ((sn && (decide (((List.getD l (Int.toNat k) (0 : Int)) - la) < (blk pe)))) = Bool.true) then la else (List.getD l (Int.toNat k) (0 : Int))) = (if ((sn && (decide (((List.getD l (Int.toNat k) (0 : Int)) - la) < (blk pe)))) = Bool.true) then la else (List.getD l (Int.toNat k) (0 : Int)))) ∧ ((if ((sn && (decide (((List.getD l (Int.toNat k) (0 : Int)) - la) < (blk pe)))) = Bool.true) then pe else (if (sn = Bool.true) then ((List.getD l (Int.toNat k) (0 : Int)) - la) else (0 : Int))) = (if ((sn && (decide (((List.getD l (Int.toNat k) (0 : Int)) - la) < (blk pe)))) = Bool.true) then pe else (if (sn = Bool.true) then ((List.getD l (Int.toNat k) (0 : Int)) - la) else (0 : Int)))))) ∧ ((l = l) ∧ (((o ++ [(List.getD l (Int.toNat k) (0 : Int))]) = (o ++ [(List.getD l (Int.toNat k) (0 : Int))])) ∧ True))))))))))))
                False) ∧ ((cnd (decide ((List.length (o ++ [(List.getD l (Int.toNat k) (0 : Int))])) ≤ 4294967296))
                ((trun_L2_I l i (Go.IntKind.wrap Go.IntKind.i64 (k + (1 : Int))) (sn || (!(sn && (decide (((List.getD l (Int.toNat k) (0 : Int)) - la) < (blk pe)))))) (if ((sn && (decide (((List.getD l (Int.toNat k) (0 : Int)) - la) < (blk pe)))) = Bool.true) then la else (List.getD l (Int.toNat k) (0 : Int))) (if ((sn && (decide (((List.getD l (Int.toNat k) (0 : Int)) - la) < (blk pe)))) = Bool.true) then pe else (if (sn = Bool.true) then ((List.getD l (Int.toNat k) (0 : Int)) - la) else (0 : Int))) (o ++ [(List.getD l (Int.toNat k) (0 : Int))])) ∧ (((trun_L2_m l i (Go.IntKind.wrap Go.IntKind.i64 (k + (1 : Int))) (sn || (!(sn && (decide (((List.getD l (Int.toNat k) (0 : Int)) - la) < (blk pe)))))) (if ((sn && (decide (((List.getD l (Int.toNat k) (0 : Int)) - la) < (blk pe)))) = Bool.true) then la else (List.getD l (Int.toNat k) (0 : Int))) (if ((sn && (decide (((List.getD l (Int.toNat k) (0 : Int)) - la) < (blk pe)))) = Bool.true) then pe else (if (sn = Bool.true) then ((List.getD l (Int.toNat k) (0 : Int)) - la) else (0 : Int))) (o ++ [(List.getD l (Int.toNat k) (0 : Int))])) < (trun_L2_m l i k sn la pe o)) ∧ (((Go.IntKind.wrap Go.IntKind.i64 (k + (1 : Int))) = (Go.IntKind.wrap Go.IntKind.i64 (k + (1 : Int)))) ∧ (((((List.length l) : Nat) : Int) = (((List.length l) : Nat) : Int)) ∧ (True ∧ (True ∧ (True ∧ (((0 : Int) = (0 : Int)) ∧ (True ∧ ((((sn || (!(sn && (decide (((List.getD l (Int.toNat k) (0 : Int)) - la) < (blk pe)))))) = (sn || (!(sn && (decide (((List.getD l (Int.toNat k) (0 : Int)) - la) < (blk pe))))))) ∧ (((if ((sn && (decide (((List.getD l (Int.toNat k) (0 : Int)) - la) < (blk pe)))) = Bool.true) then la else (List.getD l (Int.toNat k) (0 : Int))) = (if ((sn && (decide (((List.getD l (Int.toNat k) (0 : Int)) - la) < (blk pe)))) = Bool.true) then la else (List.getD l (Int.toNat k) (0 : Int)))) ∧ ((if ((sn && (decide (((List.getD l (Int.toNat k) (0 : Int)) - la) < (blk pe)))) = Bool.true) then pe else (if (sn = Bool.true) then ((List.getD l (Int.toNat k) (0 : Int)) - la) else (0 : Int))) = (if ((sn && (decide (((List.getD l (Int.toNat k) (0 : Int)) - la) < (blk pe)))) = Bool.true) then pe else (if (sn = Bool.true) then ((List.getD l (Int.toNat k) (0 : Int)) - la) else (0 : Int)))))) ∧ ((l = l) ∧ (((o ++ [(List.getD l (Int.toNat k) (0 : Int))]) = (o ++ [(List.getD l (Int.toNat k) (0 : Int))])) ∧ True))))))))))))
                False) ∧ (cnd (decide ((List.length (o ++ [(List.getD l (Int.toNat k) (0 : Int))])) ≤ 4294967296))
                ((trun_L2_I l i (Go.IntKind.wrap Go.IntKind.i64 (k + (1 : Int))) (sn || (!(sn && (decide (((List.getD l (Int.toNat k) (0 : Int)) - la) < (blk pe)))))) (if ((sn && (decide (((List.getD l (Int.toNat k) (0 : Int)) - la) < (blk pe)))) = Bool.true) then la else (List.getD l (Int.toNat k) (0 : Int))) (if ((sn && (decide (((List.getD l (Int.toNat k) (0 : Int)) - la) < (blk pe)))) = Bool.true) then pe else (if (sn = Bool.true) then ((List.getD l (Int.toNat k) (0 : Int)) - la) else (0 : Int))) (o ++ [(List.getD l (Int.toNat k) (0 : Int))])) ∧ (((trun_L2_m l i (Go.IntKind.wrap Go.IntKind.i64 (k + (1 : Int))) (sn || (!(sn && (decide (((List.getD l (Int.toNat k) (0 : Int)) - la) < (blk pe)))))) (if ((sn && (decide (((List.getD l (Int.toNat k) (0 : Int)) - la) < (blk pe)))) = Bool.true) then la else (List.getD l (Int.toNat k) (0 : Int))) (if ((sn && (decide (((List.getD l (Int.toNat k) (0 : Int)) - la) < (blk pe)))) = Bool.true) then pe else (if (sn = Bool.true) then ((List.getD l (Int.toNat k) (0 : Int)) - la) else (0 : Int))) (o ++ [(List.getD l (Int.toNat k) (0 : Int))])) < (trun_L2_m l i k sn la pe o)) ∧ (((Go.IntKind.wrap Go.IntKind.i64 (k + (1 : Int))) = (Go.IntKind.wrap Go.IntKind.i64 (k + (1 : Int)))) ∧ (((((List.length l) : Nat) : Int) = (((List.length l) : Nat) : Int)) ∧ (True ∧ (True ∧ (True ∧ (((0 : Int) = (0 : Int)) ∧ (True ∧ ((((sn || (!(sn && (decide (((List.getD l (Int.toNat k) (0 : Int)) - la) < (blk pe)))))) = (sn || (!(sn && (decide (((List.getD l (Int.toNat k) (0 : Int)) - la) < (blk pe))))))) ∧ (((if ((sn && (decide (((List.getD l (Int.toNat k) (0 : Int)) - la) < (blk pe)))) = Bool.true) then la else (List.getD l (Int.toNat k) (0 : Int))) = (if ((sn && (decide (((List.getD l (Int.toNat k) (0 : Int)) - la) < (blk pe)))) = Bool.true) then la else (List.getD l (Int.toNat k) (0 : Int)))) ∧ ((if ((sn && (decide (((List.getD l (Int.toNat k) (0 : Int)) - la) < (blk pe)))) = Bool.true) then pe else (if (sn = Bool.true) then ((List.getD l (Int.toNat k) (0 : Int)) - la) else (0 : Int))) = (if ((sn && (decide (((List.getD l (Int.toNat k) (0 : Int)) - la) < (blk pe)))) = Bool.true) then pe else (if (sn = Bool.true) then ((List.getD l (Int.toNat k) (0 : Int)) - la) else (0 : Int)))))) ∧ ((l = l) ∧ (((o ++ [(List.getD l (Int.toNat k) (0 : Int))]) = (o ++ [(List.getD l (Int.toNat k) (0 : Int))])) ∧ True))))))))))))
                False))))
            False)
          False)
        False)
      False)
    False)
  ((True ∧ ((0 : Int) = (if ((vE l) = Bool.true) then (0 : Int) else (1 : Int)))) ∧ ((o = (if ((vE l) = Bool.true) then (tfR Bool.false (0 : Int) (0 : Int) l) else ([] : List Int))) ∧ True)))
set_option maxRecDepth 100000 in
theorem trun_L2_tree (l : List Int) (i : Int) (k : Int) (sn : Bool) (la : Int) (pe : Int) (o : List Int) : trun_L2_T l i k sn la pe o = ex Try.prog (conOf [ttime_e, tnew_e, tstep_e]) (subC (bodyOf Try.f17) [1, 1, 1, 1, 1, 0, 1, 0, 0]) (nextE (trun_L2_N l i k sn la pe o) (kont Try.prog (conOf [ttime_e, tnew_e, tstep_e]) (bodyOf Try.f17) [1, 1, 1, 1, 1, 0, 1, 0] (retPost Try.prog Try.f17 1 (trun_res l)))) (trun_L2_F l i k sn la pe o) := by kernel_rfl
set_option maxRecDepth 100000 in
theorem trun_L2_round (l : List Int) (i : Int) (k : Int) (sn : Bool) (la : Int) (pe : Int) (o : List Int) (hI_L1 : trun_L1_I l i) (hI_L2 : trun_L2_I l i k sn la pe o) : trun_L2_T l i k sn la pe o := by
  obtain ⟨b1, ⟨b2, b3⟩, ⟨b4, b5⟩, b6, b7⟩ := hI_L2
  obtain ⟨v1, v2, v3⟩ := vE_iff.1 b1
  have hfl := flV_iff b4
  unfold trun_L2_T
  by_cases hk : k < l.length
  · have ht := all_get v2 (j := k.toNat) (by omega)
    have ht2 := isT_iff.1 ht
    have hla : sn = true → la < l.getD k.toNat 0 := fun h => by
      obtain ⟨h1, h2⟩ := b5 h
      have := incr_get v3 (j := (k - 1).toNat) (by omega)
      rw [show (k - 1).toNat + 1 = k.toNat by omega] at this
      omega
    have hls : (!sn || decide (la ≤ l.getD k.toNat 0)) = true := by
      cases hsn : sn with
      | false => rfl
      | true => have := hla hsn; rw [decide_eq_true (by omega)]; rfl
    rw [drop_consI b2 hk, tfR] at b6
    have hlen : ∀ r : Int, (o ++ [r]).length = o.length + 1 := fun r => by simp
    have hF : ∀ (sn' : Bool) (la' pe' : Int) (o' : List Int), flV sn' la' pe' = true ∧ (sn' = true → la' ≤ l.getD k.toNat 0) → o' ++ tfR sn' la' pe' (l.drop (k.toNat + 1)) = tfR false 0 0 l → (o'.length : Int) ≤ k + 1 → trun_L2_I l i (k + 1) sn' la' pe' o' := fun sn' la' pe' o' h1 h2 h3 => ⟨b1, ⟨by omega, by omega⟩, ⟨h1.1, fun h => ⟨by omega, by rw [show k + 1 - 1 = k by omega]; exact h1.2 h⟩⟩, by rw [show (k + 1).toNat = k.toNat + 1 by omega]; exact h2, h3⟩
    have hμ : ∀ sn' la' pe' o', trun_L2_m l i (k + 1) sn' la' pe' o' < trun_L2_m l i k sn la pe o := fun _ _ _ _ => by unfold trun_L2_m; omega
    rw [decide_eq_true hk, decide_eq_true b2, ht, b4, hls, w64 (n := k + 1) (by omega) (by omega), decide_eq_true (show (o ++ [l.getD k.toNat 0]).length ≤ 4294967296 by rw [hlen]; omega)]
    generalize l.getD k.toNat 0 = t at *
    cases hc : sn && decide (t - la < blk pe) with
    | true =>
      rw [hc, if_pos rfl] at b6
      simp only [Bool.not_true, cnd, Bool.not_false]
      exact ⟨hF _ _ _ _ ⟨b4, fun h => by have := hla h; omega⟩ b6 (by omega), hμ _ _ _ _, by simp⟩
    | false =>
      rw [hc, if_neg (by decide)] at b6
      simp only [Bool.not_true, cnd, Bool.not_false, Bool.or_true]
      simp only [Bool.false_eq_true, if_false, and_true]
      have hh : trun_L2_I l i (k + 1) true t (if sn = true then t - la else 0) (o ++ [t]) ∧ trun_L2_m l i (k + 1) true t (if sn = true then t - la else 0) (o ++ [t]) < trun_L2_m l i k sn la pe o := by
        refine ⟨hF _ _ _ _ ⟨?_, fun _ => Int.le_refl _⟩ ?_ (by rw [hlen]; omega), hμ _ _ _ _⟩
        · refine flV_one (by omega) ?_
          cases hsn : sn with
          | false => simp; omega
          | true => have := hla hsn; simp only [if_true]; omega
        · rw [List.append_assoc]
          exact b6
      repeat' (first | exact hh | (refine And.intro ?_ ?_))
  · rw [decide_eq_false hk]
    rw [List.drop_eq_nil_of_le (by omega), tfR, List.append_nil] at b6
    rw [b1]
    exact ⟨⟨trivial, rfl⟩, b6, trivial⟩
set_option maxRecDepth 100000 in
theorem trun_L2_entry1 (l : List Int) (i : Int) : (((trun_L2_I l i (0 : Int) Bool.false (0 : Int) (0 : Int) ([] : List Int)) ∧ (((0 : Int) = (0 : Int)) ∧ (((((List.length l) : Nat) : Int) = (((List.length l) : Nat) : Int)) ∧ (True ∧ (True ∧ (True ∧ (((0 : Int) = (0 : Int)) ∧ (True ∧ (((Bool.false = Bool.false) ∧ (((0 : Int) = (0 : Int)) ∧ ((0 : Int) = (0 : Int)))) ∧ ((l = l) ∧ ((([] : List Int) = ([] : List Int)) ∧ True)))))))))))) = trun_L2_E l i (trun_L2_S1 l i) := by kernel_rfl
theorem trun_L2_1 (l : List Int) (i : Int) (hI_L1 : trun_L1_I l i) (h : ((trun_L2_I l i (0 : Int) Bool.false (0 : Int) (0 : Int) ([] : List Int)) ∧ (((0 : Int) = (0 : Int)) ∧ (((((List.length l) : Nat) : Int) = (((List.length l) : Nat) : Int)) ∧ (True ∧ (True ∧ (True ∧ (((0 : Int) = (0 : Int)) ∧ (True ∧ (((Bool.false = Bool.false) ∧ (((0 : Int) = (0 : Int)) ∧ ((0 : Int) = (0 : Int)))) ∧ ((l = l) ∧ ((([] : List Int) = ([] : List Int)) ∧ True)))))))))))) : LoopP (ex Try.prog (conOf [ttime_e, tnew_e, tstep_e]) (subC (bodyOf Try.f17) [1, 1, 1, 1, 1, 0, 1, 0, 0])) (kont Try.prog (conOf [ttime_e, tnew_e, tstep_e]) (bodyOf Try.f17) [1, 1, 1, 1, 1, 0, 1, 0] (retPost Try.prog Try.f17 1 (trun_res l))) (trun_L2_S1 l i) := by
  have hE : trun_L2_E l i (trun_L2_S1 l i) := Eq.mp (trun_L2_entry1 l i) h
  unfold trun_L2_E at hE
  obtain ⟨k, hE⟩ := getI_of hE
  obtain ⟨sn, hE⟩ := getCB_of hE
  obtain ⟨la, hE⟩ := getCI_of hE
  obtain ⟨pe, hE⟩ := getCI_of hE
  obtain ⟨o, hE⟩ := getR_of hE
  refine loop_of (α := (Int) × (Bool) × (Int) × (Int) × (List Int)) (fun xx_ => trun_L2_F l i xx_.1 xx_.2.1 xx_.2.2.1 xx_.2.2.2.1 xx_.2.2.2.2) (fun xx_ => trun_L2_I l i xx_.1 xx_.2.1 xx_.2.2.1 xx_.2.2.2.1 xx_.2.2.2.2) (fun xx_ => trun_L2_m l i xx_.1 xx_.2.1 xx_.2.2.1 xx_.2.2.2.1 xx_.2.2.2.2) (fun xx_ => trun_L2_N l i xx_.1 xx_.2.1 xx_.2.2.1 xx_.2.2.2.1 xx_.2.2.2.2) (fun xx_ => trun_L2_T l i xx_.1 xx_.2.1 xx_.2.2.1 xx_.2.2.2.1 xx_.2.2.2.2) (fun xx_ s_ h => ?_) ⟨⟨k, sn, la, pe, o⟩, hE⟩ (fun xx_ => trun_L2_tree l i xx_.1 xx_.2.1 xx_.2.2.1 xx_.2.2.2.1 xx_.2.2.2.2) (fun xx_ hI => trun_L2_round l i xx_.1 xx_.2.1 xx_.2.2.1 xx_.2.2.2.1 xx_.2.2.2.2 hI_L1 hI)
  unfold trun_L2_N at h
  obtain ⟨k, h⟩ := getI_of h
  obtain ⟨sn, h⟩ := getCB_of h
  obtain ⟨la, h⟩ := getCI_of h
  obtain ⟨pe, h⟩ := getCI_of h
  obtain ⟨o, h⟩ := getR_of h
  exact ⟨⟨k, sn, la, pe, o⟩, h⟩
def trun_L1_T (l : List Int) (i : Int) : Prop := (cnd (decide (i < (((List.length l) : Nat) : Int)))
  (cnd (decide ((0 : Int) ≤ i))
    (cnd (decide (i < (((List.length l) : Nat) : Int)))
      (cnd ((!(((!(isT (List.getD l (Int.toNat i) (0 : Int)))) == Bool.false) && ((decide ((0 : Int) < i)) == Bool.true))) || (decide ((0 : Int) ≤ (Go.IntKind.wrap Go.IntKind.i64 (i - (1 : Int))))))
        (cnd ((!(((!(isT (List.getD l (Int.toNat i) (0 : Int)))) == Bool.false) && ((decide ((0 : Int) < i)) == Bool.true))) || (decide ((Go.IntKind.wrap Go.IntKind.i64 (i - (1 : Int))) < (((List.length l) : Nat) : Int))))
          (cnd ((!(isT (List.getD l (Int.toNat i) (0 : Int)))) || ((decide ((0 : Int) < i)) && (decide ((List.getD l (Int.toNat i) (0 : Int)) ≤ (List.getD l (Int.toNat (Go.IntKind.wrap Go.IntKind.i64 (i - (1 : Int)))) (0 : Int))))))
            ((True ∧ ((1 : Int) = (if ((vE l) = Bool.true) then (0 : Int) else (1 : Int)))) ∧ (((if ((vE l) = Bool.true) then (tfR Bool.false (0 : Int) (0 : Int) l) else ([] : List Int)) = ([] : List Int)) ∧ True))
            ((trun_L1_I l (Go.IntKind.wrap Go.IntKind.i64 (i + (1 : Int)))) ∧ (((trun_L1_m l (Go.IntKind.wrap Go.IntKind.i64 (i + (1 : Int)))) < (trun_L1_m l i)) ∧ (((Go.IntKind.wrap Go.IntKind.i64 (i + (1 : Int))) = (Go.IntKind.wrap Go.IntKind.i64 (i + (1 : Int)))) ∧ (((((List.length l) : Nat) : Int) = (((List.length l) : Nat) : Int)) ∧ (True ∧ (((0 : Int) = (0 : Int)) ∧ (True ∧ (True ∧ ((l = l) ∧ True))))))))))
          False)
        False)
      False)
    False)
  (LoopP (ex Try.prog (conOf [ttime_e, tnew_e, tstep_e]) (subC (bodyOf Try.f17) [1, 1, 1, 1, 1, 0, 1, 0, 0])) (kont Try.prog (conOf [ttime_e, tnew_e, tstep_e]) (bodyOf Try.f17) [1, 1, 1, 1, 1, 0, 1, 0] (retPost Try.prog Try.f17 1 (trun_res l))) (trun_L2_S1 l i)))
set_option maxRecDepth 100000 in
theorem trun_L1_tree (l : List Int) (i : Int) : trun_L1_T l i = ex Try.prog (conOf [ttime_e, tnew_e, tstep_e]) (subC (bodyOf Try.f17) [1, 1, 0, 1, 0, 0]) (nextE (trun_L1_N l i) (kont Try.prog (conOf [ttime_e, tnew_e, tstep_e]) (bodyOf Try.f17) [1, 1, 0, 1, 0] (retPost Try.prog Try.f17 1 (trun_res l)))) (trun_L1_F l i) := by kernel_rfl
set_option maxRecDepth 100000 in
theorem trun_L1_round (l : List Int) (i : Int)  (hI_L1 : trun_L1_I l i) : trun_L1_T l i := by
  have hI := hI_L1
  obtain ⟨⟨a1, a2, a3⟩, a4, a5⟩ := hI_L1
  unfold trun_L1_T
  by_cases hi : i < l.length
  · have hd := drop_consG (d := 0) (l := l) (i := i) a1 hi
    rw [w64 (n := i + 1) (by omega) (by omega), w64 (n := i - 1) (by omega) (by omega), decide_eq_true hi, decide_eq_true a1]
    have e1 : (i + 1).toNat = i.toNat + 1 := by omega
    rw [hd] at a4
    have jm : decide (i - 1 < (l.length : Int)) = true := by rw [decide_eq_true_eq]; omega
    rw [jm]
    cases hx : isT (l.getD i.toNat 0) with
    | false =>
      have : l.all isT = false := by rw [a4, List.all_cons, hx, Bool.false_and]
      simp [vE, this, cnd]
    | true =>
      have b4 : l.all isT = (l.drop (i.toNat + 1)).all isT := by rw [a4, List.all_cons, hx, Bool.true_and]
      by_cases h0 : 0 < i
      · have hd2 := drop_consG (d := 0) (l := l) (i := i - 1) (by omega) (by omega)
        have e2 : (i - 1).toNat + 1 = i.toNat := by omega
        rw [e2, hd] at hd2
        rw [hd2, incr] at a5
        have j1 : decide (0 ≤ i - 1) = true := by rw [decide_eq_true_eq]; omega
        rw [decide_eq_true h0, j1]
        by_cases hc : l.getD i.toNat 0 ≤ l.getD (i - 1).toNat 0
        · have : incr l = false := by rw [a5, decide_eq_false (by omega), Bool.false_and]
          rw [decide_eq_true hc]
          simp [vE, this, cnd]
        · rw [decide_eq_true (by omega), Bool.true_and] at a5
          rw [decide_eq_false hc]
          refine ⟨⟨⟨by omega, by omega, a3⟩, by rw [e1]; exact b4, ?_⟩, ?_, by simp⟩
          · rw [show (i + 1 - 1).toNat = i.toNat by omega, hd]; exact a5
          · unfold trun_L1_m
            omega
      · rw [decide_eq_false h0]
        refine ⟨⟨⟨by omega, by omega, a3⟩, by rw [e1]; exact b4, ?_⟩, ?_, by simp⟩
        · rw [show (i + 1 - 1).toNat = (i - 1).toNat by omega]; exact a5
        · unfold trun_L1_m
          omega
  · rw [decide_eq_false hi]
    have e : l.drop i.toNat = [] := List.drop_eq_nil_of_le (by omega)
    rw [e] at a4
    have hI2 : incr l = true := by
      rw [a5]
      by_cases h0 : 0 < i
      · have hd2 := drop_consG (d := 0) (l := l) (i := i - 1) (by omega) (by omega)
        rw [show (i - 1).toNat + 1 = i.toNat by omega, e] at hd2
        rw [hd2]; rfl
      · have : l = [] := List.eq_nil_of_length_eq_zero (by omega)
        rw [this]; simp [incr]
    have hv : vE l = true := vE_iff.2 ⟨a3, a4, hI2⟩
    exact trun_L2_1 l i hI ⟨⟨hv, ⟨by omega, by omega⟩, ⟨rfl, fun h => by cases h⟩, by simp, by simp⟩, by simp⟩
set_option maxRecDepth 100000 in
theorem trun_L1_entry1 (l : List Int) : (((trun_L1_I l (0 : Int)) ∧ (((0 : Int) = (0 : Int)) ∧ (((((List.length l) : Nat) : Int) = (((List.length l) : Nat) : Int)) ∧ (True ∧ (((0 : Int) = (0 : Int)) ∧ (True ∧ (True ∧ ((l = l) ∧ True))))))))) = trun_L1_E l (trun_L1_S1 l) := by kernel_rfl
theorem trun_L1_1 (l : List Int)  (h : ((trun_L1_I l (0 : Int)) ∧ (((0 : Int) = (0 : Int)) ∧ (((((List.length l) : Nat) : Int) = (((List.length l) : Nat) : Int)) ∧ (True ∧ (((0 : Int) = (0 : Int)) ∧ (True ∧ (True ∧ ((l = l) ∧ True))))))))) : LoopP (ex Try.prog (conOf [ttime_e, tnew_e, tstep_e]) (subC (bodyOf Try.f17) [1, 1, 0, 1, 0, 0])) (kont Try.prog (conOf [ttime_e, tnew_e, tstep_e]) (bodyOf Try.f17) [1, 1, 0, 1, 0] (retPost Try.prog Try.f17 1 (trun_res l))) (trun_L1_S1 l) := by
  have hE : trun_L1_E l (trun_L1_S1 l) := Eq.mp (trun_L1_entry1 l) h
  unfold trun_L1_E at hE
  obtain ⟨i, hE⟩ := getI_of hE
  refine loop_of (α := (Int)) (fun xx_ => trun_L1_F l xx_) (fun xx_ => trun_L1_I l xx_) (fun xx_ => trun_L1_m l xx_) (fun xx_ => trun_L1_N l xx_) (fun xx_ => trun_L1_T l xx_) (fun xx_ s_ h => ?_) ⟨i, hE⟩ (fun xx_ => trun_L1_tree l xx_) (fun xx_ hI => trun_L1_round l xx_  hI)
  unfold trun_L1_N at h
  obtain ⟨i, h⟩ := getI_of h
  exact ⟨i, h⟩
set_option maxRecDepth 100000 in
theorem trun_tree (l : List Int) : ((cnd (decide ((1000 : Int) < (((List.length l) : Nat) : Int)))
  ((True ∧ ((1 : Int) = (if ((vE l) = Bool.true) then (0 : Int) else (1 : Int)))) ∧ (((if ((vE l) = Bool.true) then (tfR Bool.false (0 : Int) (0 : Int) l) else ([] : List Int)) = ([] : List Int)) ∧ True))
  (LoopP (ex Try.prog (conOf [ttime_e, tnew_e, tstep_e]) (subC (bodyOf Try.f17) [1, 1, 0, 1, 0, 0])) (kont Try.prog (conOf [ttime_e, tnew_e, tstep_e]) (bodyOf Try.f17) [1, 1, 0, 1, 0] (retPost Try.prog Try.f17 1 (trun_res l))) (trun_L1_S1 l)))) = EXD Try.prog (conOf [ttime_e, tnew_e, tstep_e]) Try.f17 [.cel (.row 0)] [.ints .i64 l] [] (trun_res l) := by kernel_rfl
theorem trun_holds (l : List Int)  : (cnd (decide ((1000 : Int) < (((List.length l) : Nat) : Int)))
  ((True ∧ ((1 : Int) = (if ((vE l) = Bool.true) then (0 : Int) else (1 : Int)))) ∧ (((if ((vE l) = Bool.true) then (tfR Bool.false (0 : Int) (0 : Int) l) else ([] : List Int)) = ([] : List Int)) ∧ True))
  (LoopP (ex Try.prog (conOf [ttime_e, tnew_e, tstep_e]) (subC (bodyOf Try.f17) [1, 1, 0, 1, 0, 0])) (kont Try.prog (conOf [ttime_e, tnew_e, tstep_e]) (bodyOf Try.f17) [1, 1, 0, 1, 0] (retPost Try.prog Try.f17 1 (trun_res l))) (trun_L1_S1 l))) := by
  by_cases h : (1000 : Int) < l.length
  · have hv : vE l = false := by unfold vE; rw [decide_eq_false (by omega)]; rfl
    rw [decide_eq_true h, hv]
    simp [cnd]
  · rw [decide_eq_false h]
    exact trun_L1_1 l ⟨⟨⟨by omega, by omega, by omega⟩, by simp, by simp⟩, by simp⟩
set_option maxHeartbeats 2000000 in
theorem trun_ok : SoundEnt Try.prog trun_e := by
  refine ent_of_ex (Γ := (conOf [ttime_e, tnew_e, tstep_e])) (conOf_sound (scons ttime_ok (scons tnew_ok (scons tstep_ok snil)))) (by kernel_rfl) Try.func17 (by kernel_rfl) (by kernel_rfl) (fun args rows caps res h ho => ?_)
  change trun_go args rows caps = some res at h
  unfold trun_go at h
  split at h
  · simp only [Option.some.injEq] at h
    subst h
    rename_i q0_
    skip
    exact EX.of (trun_tree q0_) (trun_holds q0_)
  · cases h
def tawake_res : CRes := ⟨[], .one (.cel (.bool (true))), []⟩
def tawake_go : List TV → List RowA → List (List CV) → Option CRes := fun args rows caps =>
  match args, rows, caps with
  | [], [], [] => some (tawake_res )
  | _, _, _ => none
def tawake_e : Ent := ⟨13, [], tawake_go⟩
set_option maxRecDepth 100000 in
theorem tawake_tree  : ((Bool.true = Bool.true)) = EXD Try.prog (conOf [trun_e, equalI_e]) Try.f13 [] [] [] (tawake_res ) := by kernel_rfl
theorem tawake_holds   : (Bool.true = Bool.true) := by
  rfl
set_option maxHeartbeats 2000000 in
theorem tawake_ok : SoundEnt Try.prog tawake_e := by
  refine ent_of_ex (Γ := (conOf [trun_e, equalI_e])) (conOf_sound (scons trun_ok (scons equalI_ok snil))) (by kernel_rfl) Try.func13 (by kernel_rfl) (by kernel_rfl) (fun args rows caps res h ho => ?_)
  change tawake_go args rows caps = some res at h
  unfold tawake_go at h
  split at h
  · simp only [Option.some.injEq] at h
    subst h
    skip
    skip
    exact EX.of (tawake_tree ) (tawake_holds )
  · cases h
end Go.Proofs.Ythfliohfkhnpiaa

