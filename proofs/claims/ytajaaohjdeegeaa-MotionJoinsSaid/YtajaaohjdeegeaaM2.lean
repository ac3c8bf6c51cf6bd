/- Motions: turns per minute, and the time of a position. -/
import Derived.Test.YtajaaohjdeegeaaM1
namespace Go.Proofs.Ytajaaohjdeegeaa
set_option linter.unusedVariables false
set_option linter.unusedSimpArgs false
open Go.RowKit

def rpm (v : Int) : Int := v * 60000000 / 1509949440
def upq (a b : Int) : Int := -((-a) / b)
def frp (n : Int) : Int := upq (n * 1509949440) 60000000
def mrpm_res (v : Int) : CRes := ⟨[], .tup [.cel (.int .i64 (if 0 ≤ v ∧ v ≤ 524288 then rpm v else 0)), .cel (.int .i64 (if 0 ≤ v ∧ v ≤ 524288 then 0 else 2))], []⟩
def mrpm_go : List TV → List RowA → List (List CV) → Option CRes := fun args rows caps =>
  match args, rows, caps with
  | [.cel (.int .i64 v)], [], [] => some (mrpm_res v)
  | _, _, _ => none
def mrpm_e : Ent := ⟨15, [], mrpm_go⟩
set_option maxRecDepth 100000 in
theorem mrpm_tree (v : Int) : ((cnd ((decide (v < (0 : Int))) || (decide ((524288 : Int) < v)))
  (((0 : Int) = (if (((0 : Int) ≤ v) ∧ (v ≤ (524288 : Int))) then (rpm v) else (0 : Int))) ∧ ((2 : Int) = (if (((0 : Int) ≤ v) ∧ (v ≤ (524288 : Int))) then (0 : Int) else (2 : Int))))
  (((Go.IntKind.wrap Go.IntKind.i64 (Int.tdiv (Go.IntKind.wrap Go.IntKind.i64 (v * (60000000 : Int))) (1509949440 : Int))) = (if (((0 : Int) ≤ v) ∧ (v ≤ (524288 : Int))) then (rpm v) else (0 : Int))) ∧ ((0 : Int) = (if (((0 : Int) ≤ v) ∧ (v ≤ (524288 : Int))) then (0 : Int) else (2 : Int)))))) = EXD Try.prog (conOf []) Try.f15 [.cel (.int .i64 v)] [] [] (mrpm_res v) := by kernel_rfl
theorem mrpm_holds (v : Int)  : (cnd ((decide (v < (0 : Int))) || (decide ((524288 : Int) < v)))
  (((0 : Int) = (if (((0 : Int) ≤ v) ∧ (v ≤ (524288 : Int))) then (rpm v) else (0 : Int))) ∧ ((2 : Int) = (if (((0 : Int) ≤ v) ∧ (v ≤ (524288 : Int))) then (0 : Int) else (2 : Int))))
  (((Go.IntKind.wrap Go.IntKind.i64 (Int.tdiv (Go.IntKind.wrap Go.IntKind.i64 (v * (60000000 : Int))) (1509949440 : Int))) = (if (((0 : Int) ≤ v) ∧ (v ≤ (524288 : Int))) then (rpm v) else (0 : Int))) ∧ ((0 : Int) = (if (((0 : Int) ≤ v) ∧ (v ≤ (524288 : Int))) then (0 : Int) else (2 : Int))))) := by
  by_cases h : 0 ≤ v ∧ v ≤ 524288
  · have j : (decide (v < 0) || decide (524288 < v)) = false := by simp; omega
    rw [j, w64 (n := v * 60000000) (by omega) (by omega), show Int.tdiv (v * 60000000) 1509949440 = rpm v from tdiv_pos (by omega), w64 (n := rpm v) (by unfold rpm; omega) (by unfold rpm; omega)]
    simp [cnd, h]
  · have j : (decide (v < 0) || decide (524288 < v)) = true := by simp; omega
    simp [j, cnd, h]
set_option maxHeartbeats 2000000 in
theorem mrpm_ok : SoundEnt Try.prog mrpm_e := by
  refine ent_of_ex (Γ := (conOf [])) (conOf_sound snil) (by kernel_rfl) Try.func15 (by kernel_rfl) (by kernel_rfl) (fun args rows caps res h ho => ?_)
  change mrpm_go args rows caps = some res at h
  unfold mrpm_go at h
  split at h
  · simp only [Option.some.injEq] at h
    subst h
    rename_i q0_
    skip
    exact EX.of (mrpm_tree q0_) (mrpm_holds q0_)
  · cases h
def mfrom_res (n : Int) : CRes := ⟨[], .tup [.cel (.int .i64 (if 0 ≤ n ∧ n ≤ 20000 then frp n else 0)), .cel (.int .i64 (if 0 ≤ n ∧ n ≤ 20000 then 0 else 2))], []⟩
def mfrom_go : List TV → List RowA → List (List CV) → Option CRes := fun args rows caps =>
  match args, rows, caps with
  | [.cel (.int .i64 n)], [], [] => some (mfrom_res n)
  | _, _, _ => none
def mfrom_e : Ent := ⟨16, [], mfrom_go⟩
set_option maxRecDepth 100000 in
theorem mfrom_tree (n : Int) : ((cnd ((decide (n < (0 : Int))) || (decide ((20000 : Int) < n)))
  (((0 : Int) = (if (((0 : Int) ≤ n) ∧ (n ≤ (20000 : Int))) then (frp n) else (0 : Int))) ∧ ((2 : Int) = (if (((0 : Int) ≤ n) ∧ (n ≤ (20000 : Int))) then (0 : Int) else (2 : Int))))
  (cnd (inBig (Go.IntKind.wrap Go.IntKind.i64 ((Go.IntKind.wrap Go.IntKind.i64 (n * (65536 : Int))) * (23040 : Int))))
    (((rdiv (Go.IntKind.wrap Go.IntKind.i64 ((Go.IntKind.wrap Go.IntKind.i64 (n * (65536 : Int))) * (23040 : Int))) (60000000 : Int) (2 : Int)) = (if (((0 : Int) ≤ n) ∧ (n ≤ (20000 : Int))) then (frp n) else (0 : Int))) ∧ ((0 : Int) = (if (((0 : Int) ≤ n) ∧ (n ≤ (20000 : Int))) then (0 : Int) else (2 : Int))))
    False))) = EXD Try.prog (conOf [div_e]) Try.f16 [.cel (.int .i64 n)] [] [] (mfrom_res n) := by kernel_rfl
theorem mfrom_holds (n : Int)  : (cnd ((decide (n < (0 : Int))) || (decide ((20000 : Int) < n)))
  (((0 : Int) = (if (((0 : Int) ≤ n) ∧ (n ≤ (20000 : Int))) then (frp n) else (0 : Int))) ∧ ((2 : Int) = (if (((0 : Int) ≤ n) ∧ (n ≤ (20000 : Int))) then (0 : Int) else (2 : Int))))
  (cnd (inBig (Go.IntKind.wrap Go.IntKind.i64 ((Go.IntKind.wrap Go.IntKind.i64 (n * (65536 : Int))) * (23040 : Int))))
    (((rdiv (Go.IntKind.wrap Go.IntKind.i64 ((Go.IntKind.wrap Go.IntKind.i64 (n * (65536 : Int))) * (23040 : Int))) (60000000 : Int) (2 : Int)) = (if (((0 : Int) ≤ n) ∧ (n ≤ (20000 : Int))) then (frp n) else (0 : Int))) ∧ ((0 : Int) = (if (((0 : Int) ≤ n) ∧ (n ≤ (20000 : Int))) then (0 : Int) else (2 : Int))))
    False)) := by
  by_cases h : 0 ≤ n ∧ n ≤ 20000
  · have j : (decide (n < 0) || decide (20000 < n)) = false := by simp; omega
    rw [j, w64 (n := n * 65536) (by omega) (by omega), w64 (n := n * 65536 * 23040) (by omega) (by omega)]
    have hb : inBig (n * 65536 * 23040) = true := inBig_iff.2 (by omega)
    have e : n * 65536 * 23040 = n * 1509949440 := by omega
    have hr : rdiv (n * 65536 * 23040) 60000000 2 = frp n := by
      unfold rdiv frp upq
      rw [e]
      simp
    rw [hb, hr]
    simp [cnd, h]
  · have j : (decide (n < 0) || decide (20000 < n)) = true := by simp; omega
    simp [j, cnd, h]
set_option maxHeartbeats 2000000 in
theorem mfrom_ok : SoundEnt Try.prog mfrom_e := by
  refine ent_of_ex (Γ := (conOf [div_e])) (conOf_sound (scons div_ok snil)) (by kernel_rfl) Try.func16 (by kernel_rfl) (by kernel_rfl) (fun args rows caps res h ho => ?_)
  change mfrom_go args rows caps = some res at h
  unfold mfrom_go at h
  split at h
  · simp only [Option.some.injEq] at h
    subst h
    rename_i q0_
    skip
    exact EX.of (mfrom_tree q0_) (mfrom_holds q0_)
  · cases h
def rrpm_res (v : Int) : CRes := ⟨[decide (0 ≤ v), decide (v ≤ 1048576)], .one (.cel (.int .i64 (rpm v))), []⟩
def rrpm_go : List TV → List RowA → List (List CV) → Option CRes := fun args rows caps =>
  match args, rows, caps with
  | [.cel (.int .i64 v)], [], [] => some (rrpm_res v)
  | _, _, _ => none
def rrpm_e : Ent := ⟨17, [], rrpm_go⟩
set_option maxRecDepth 100000 in
theorem rrpm_tree (v : Int) : ((cnd (inBig (Go.IntKind.wrap Go.IntKind.i64 (v * (60000000 : Int))))
  (((Go.IntKind.wrap Go.IntKind.i64 (v * (60000000 : Int))) / (1509949440 : Int)) = (rpm v))
  False)) = EXD Try.prog (conOf [rfloor_e]) Try.f17 [.cel (.int .i64 v)] [] [] (rrpm_res v) := by kernel_rfl
theorem rrpm_holds (v : Int) (p0 : (decide (0 ≤ v)) = true) (p1 : (decide (v ≤ 1048576)) = true) : (cnd (inBig (Go.IntKind.wrap Go.IntKind.i64 (v * (60000000 : Int))))
  (((Go.IntKind.wrap Go.IntKind.i64 (v * (60000000 : Int))) / (1509949440 : Int)) = (rpm v))
  False) := by
  simp only [decide_eq_true_eq] at p0 p1
  rw [w64 (n := v * 60000000) (by omega) (by omega)]
  have hb : inBig (v * 60000000) = true := inBig_iff.2 (by omega)
  simp only [hb, cnd]
  rfl
set_option maxHeartbeats 2000000 in
theorem rrpm_ok : SoundEnt Try.prog rrpm_e := by
  refine ent_of_ex (Γ := (conOf [rfloor_e])) (conOf_sound (scons rfloor_ok snil)) (by kernel_rfl) Try.func17 (by kernel_rfl) (by kernel_rfl) (fun args rows caps res h ho => ?_)
  change rrpm_go args rows caps = some res at h
  unfold rrpm_go at h
  split at h
  · simp only [Option.some.injEq] at h
    subst h
    rename_i q0_
    obtain ⟨p0, p1, _⟩ := ho
    exact EX.of (rrpm_tree q0_) (rrpm_holds q0_ p0 p1)
  · cases h
def rfrom_res (n : Int) : CRes := ⟨[decide (0 ≤ n), decide (n ≤ 20000)], .one (.cel (.int .i64 (frp n))), []⟩
def rfrom_go : List TV → List RowA → List (List CV) → Option CRes := fun args rows caps =>
  match args, rows, caps with
  | [.cel (.int .i64 n)], [], [] => some (rfrom_res n)
  | _, _, _ => none
def rfrom_e : Ent := ⟨18, [], rfrom_go⟩
def rfrom_L1_F (n : Int) (hi : Int) (lo : Int) : St := ⟨21, [], [(4, (.one (.cel (.int .i64 hi)))), (3, (.one (.cel (.int .i64 lo)))), (2, (.one (.cel (.int .i64 (0 : Int))))), (0, (.one (.cel (.int .i64 n))))], [], [], 0⟩
def rfrom_L1_I (n : Int) (hi : Int) (lo : Int) : Prop := (0 ≤ lo ∧ lo ≤ frp n ∧ frp n ≤ hi ∧ hi ≤ 1048576)
def rfrom_L1_m (n : Int) (hi : Int) (lo : Int) : Nat := (hi - lo).toNat
def rfrom_L1_N (n : Int) (hi' : Int) (lo' : Int) (st_ : St) : Prop := getI st_ 4 fun hi => getI st_ 3 fun lo => rfrom_L1_I n hi lo ∧ rfrom_L1_m n hi lo < rfrom_L1_m n hi' lo' ∧ SubA st_ (rfrom_L1_F n hi lo)
def rfrom_L1_E (n : Int) (st_ : St) : Prop := getI st_ 4 fun hi => getI st_ 3 fun lo => rfrom_L1_I n hi lo ∧ SubA st_ (rfrom_L1_F n hi lo)
def rfrom_L1_S1 (n : Int) : St := ⟨21, [], [(4, (.one (.cel (.int .i64 (1048576 : Int))))), (3, (.one (.cel (.int .i64 (0 : Int))))), (2, (.one (.cel (.int .i64 (0 : Int))))), (0, (.one (.cel (.int .i64 n))))], [], [], 0⟩
def rfrom_L1_T (n : Int) (hi : Int) (lo : Int) : Prop := (cnd (decide (lo < hi))
  (cnd (inBig (Go.IntKind.wrap Go.IntKind.i64 (lo + hi)))
    (cnd (decide ((0 : Int) ≤ ((Go.IntKind.wrap Go.IntKind.i64 (lo + hi)) / (2 : Int))))
      (cnd (decide (((Go.IntKind.wrap Go.IntKind.i64 (lo + hi)) / (2 : Int)) ≤ (1048576 : Int)))
        (cnd (decide (n ≤ (rpm ((Go.IntKind.wrap Go.IntKind.i64 (lo + hi)) / (2 : Int)))))
          ((rfrom_L1_I n ((Go.IntKind.wrap Go.IntKind.i64 (lo + hi)) / (2 : Int)) lo) ∧ (((rfrom_L1_m n ((Go.IntKind.wrap Go.IntKind.i64 (lo + hi)) / (2 : Int)) lo) < (rfrom_L1_m n hi lo)) ∧ ((((Go.IntKind.wrap Go.IntKind.i64 (lo + hi)) / (2 : Int)) = ((Go.IntKind.wrap Go.IntKind.i64 (lo + hi)) / (2 : Int))) ∧ ((lo = lo) ∧ (((0 : Int) = (0 : Int)) ∧ ((n = n) ∧ True))))))
          ((rfrom_L1_I n hi (Go.IntKind.wrap Go.IntKind.i64 (((Go.IntKind.wrap Go.IntKind.i64 (lo + hi)) / (2 : Int)) + (1 : Int)))) ∧ (((rfrom_L1_m n hi (Go.IntKind.wrap Go.IntKind.i64 (((Go.IntKind.wrap Go.IntKind.i64 (lo + hi)) / (2 : Int)) + (1 : Int)))) < (rfrom_L1_m n hi lo)) ∧ ((hi = hi) ∧ (((Go.IntKind.wrap Go.IntKind.i64 (((Go.IntKind.wrap Go.IntKind.i64 (lo + hi)) / (2 : Int)) + (1 : Int))) = (Go.IntKind.wrap Go.IntKind.i64 (((Go.IntKind.wrap Go.IntKind.i64 (lo + hi)) / (2 : Int)) + (1 : Int)))) ∧ (((0 : Int) = (0 : Int)) ∧ ((n = n) ∧ True)))))))
        False)
      False)
    False)
  (lo = (frp n)))
set_option maxRecDepth 100000 in
theorem rfrom_L1_tree (n : Int) (hi : Int) (lo : Int) : rfrom_L1_T n hi lo = ex Try.prog (conOf [rfloor_e, rrpm_e]) (subC (bodyOf Try.f18) [1, 1, 0, 0, 0]) (nextE (rfrom_L1_N n hi lo) (kont Try.prog (conOf [rfloor_e, rrpm_e]) (bodyOf Try.f18) [1, 1, 0, 0] (retPost Try.prog Try.f18 0 (rfrom_res n)))) (rfrom_L1_F n hi lo) := by kernel_rfl
set_option maxRecDepth 100000 in
theorem rfrom_L1_round (n : Int) (hi : Int) (lo : Int) (p0 : (decide (0 ≤ n)) = true) (p1 : (decide (n ≤ 20000)) = true) (hI_L1 : rfrom_L1_I n hi lo) : rfrom_L1_T n hi lo := by
  simp only [decide_eq_true_eq] at p0 p1
  obtain ⟨a1, a2, a3, a4⟩ := hI_L1
  unfold rfrom_L1_T
  by_cases h : lo < hi
  · rw [w64 (n := lo + hi) (by omega) (by omega)]
    have hb : inBig (lo + hi) = true := inBig_iff.2 (by omega)
    have j1 : decide (0 ≤ (lo + hi) / 2) = true := by simp; omega
    have j2 : decide ((lo + hi) / 2 ≤ 1048576) = true := by simp; omega
    rw [w64 (n := (lo + hi) / 2 + 1) (by omega) (by omega)]
    simp only [h, hb, j1, j2, decide_true, cnd]
    generalize hm : (lo + hi) / 2 = m at *
    by_cases hc : n ≤ rpm m
    · have j : decide (n ≤ rpm m) = true := by simpa using hc
      rw [j]
      refine ⟨⟨a1, a2, ?_, by omega⟩, by unfold rfrom_L1_m; omega, by simp⟩
      unfold rpm at hc
      unfold frp upq
      omega
    · have j : decide (n ≤ rpm m) = false := by simpa using hc
      rw [j]
      refine ⟨⟨by omega, ?_, a3, a4⟩, by unfold rfrom_L1_m; omega, by simp⟩
      unfold rpm at hc
      unfold frp upq
      omega
  · simp only [h, decide_false, cnd]
    omega
set_option maxRecDepth 100000 in
theorem rfrom_L1_entry1 (n : Int) : (((rfrom_L1_I n (1048576 : Int) (0 : Int)) ∧ (((1048576 : Int) = (1048576 : Int)) ∧ (((0 : Int) = (0 : Int)) ∧ (((0 : Int) = (0 : Int)) ∧ ((n = n) ∧ True)))))) = rfrom_L1_E n (rfrom_L1_S1 n) := by kernel_rfl
theorem rfrom_L1_1 (n : Int) (p0 : (decide (0 ≤ n)) = true) (p1 : (decide (n ≤ 20000)) = true) (h : ((rfrom_L1_I n (1048576 : Int) (0 : Int)) ∧ (((1048576 : Int) = (1048576 : Int)) ∧ (((0 : Int) = (0 : Int)) ∧ (((0 : Int) = (0 : Int)) ∧ ((n = n) ∧ True)))))) : LoopP (ex Try.prog (conOf [rfloor_e, rrpm_e]) (subC (bodyOf Try.f18) [1, 1, 0, 0, 0])) (kont Try.prog (conOf [rfloor_e, rrpm_e]) (bodyOf Try.f18) [1, 1, 0, 0] (retPost Try.prog Try.f18 0 (rfrom_res n))) (rfrom_L1_S1 n) := by
  have hE : rfrom_L1_E n (rfrom_L1_S1 n) := Eq.mp (rfrom_L1_entry1 n) h
  unfold rfrom_L1_E at hE
  obtain ⟨hi, hE⟩ := getI_of hE
  obtain ⟨lo, hE⟩ := getI_of hE
  refine loop_of (α := (Int) × (Int)) (fun xx_ => rfrom_L1_F n xx_.1 xx_.2) (fun xx_ => rfrom_L1_I n xx_.1 xx_.2) (fun xx_ => rfrom_L1_m n xx_.1 xx_.2) (fun xx_ => rfrom_L1_N n xx_.1 xx_.2) (fun xx_ => rfrom_L1_T n xx_.1 xx_.2) (fun xx_ s_ h => ?_) ⟨⟨hi, lo⟩, hE⟩ (fun xx_ => rfrom_L1_tree n xx_.1 xx_.2) (fun xx_ hI => rfrom_L1_round n xx_.1 xx_.2 p0 p1 hI)
  unfold rfrom_L1_N at h
  obtain ⟨hi, h⟩ := getI_of h
  obtain ⟨lo, h⟩ := getI_of h
  exact ⟨⟨hi, lo⟩, h⟩
set_option maxRecDepth 100000 in
theorem rfrom_tree (n : Int) : ((LoopP (ex Try.prog (conOf [rfloor_e, rrpm_e]) (subC (bodyOf Try.f18) [1, 1, 0, 0, 0])) (kont Try.prog (conOf [rfloor_e, rrpm_e]) (bodyOf Try.f18) [1, 1, 0, 0] (retPost Try.prog Try.f18 0 (rfrom_res n))) (rfrom_L1_S1 n))) = EXD Try.prog (conOf [rfloor_e, rrpm_e]) Try.f18 [.cel (.int .i64 n)] [] [] (rfrom_res n) := by kernel_rfl
theorem rfrom_holds (n : Int) (p0 : (decide (0 ≤ n)) = true) (p1 : (decide (n ≤ 20000)) = true) : (LoopP (ex Try.prog (conOf [rfloor_e, rrpm_e]) (subC (bodyOf Try.f18) [1, 1, 0, 0, 0])) (kont Try.prog (conOf [rfloor_e, rrpm_e]) (bodyOf Try.f18) [1, 1, 0, 0] (retPost Try.prog Try.f18 0 (rfrom_res n))) (rfrom_L1_S1 n)) := by
  have q0 := p0
  have q1 := p1
  simp only [decide_eq_true_eq] at p0 p1
  exact rfrom_L1_1 n q0 q1 ⟨⟨by omega, by unfold frp upq; omega, by unfold frp upq; omega, by omega⟩, by simp⟩
set_option maxHeartbeats 2000000 in
theorem rfrom_ok : SoundEnt Try.prog rfrom_e := by
  refine ent_of_ex (Γ := (conOf [rfloor_e, rrpm_e])) (conOf_sound (scons rfloor_ok (scons rrpm_ok snil))) (by kernel_rfl) Try.func18 (by kernel_rfl) (by kernel_rfl) (fun args rows caps res h ho => ?_)
  change rfrom_go args rows caps = some res at h
  unfold rfrom_go at h
  split at h
  · simp only [Option.some.injEq] at h
    subst h
    rename_i q0_
    obtain ⟨p0, p1, _⟩ := ho
    exact EX.of (rfrom_tree q0_) (rfrom_holds q0_ p0 p1)
  · cases h
def tmW : Int → Int → List (List Int) → Int × Int
  | _, _, [] => (0, 7)
  | need, t, r :: l => if r0 r * r1 r < need then tmW (need - r0 r * r1 r) (t + r0 r) l else (t + upq need (r1 r), 0)
def tmOf (s : Int) (l : List (List Int)) (p : Int) : Int × Int := if mValid s l then (if p ≤ s then (0, 0) else if posOf s l 1099511627776 < p then (0, 7) else tmW ((p - s) * 65536) 0 l) else (0, 1)
theorem way_bd : ∀ (l : List (List Int)) (e t : Int), vL e l = true → 0 ≤ t → 0 ≤ way t l ∧ way t l ≤ t * 524288
  | [], _, t, _, h => by simp only [way]; omega
  | r :: l, e, t, hv, h => by
    obtain ⟨⟨a1, a2, a3, a4⟩, a5, a6⟩ := vL_cons hv
    have ih := way_bd l (e + r0 r) (t - min t (r0 r)) a6 (by omega)
    simp only [way]
    have hm : 0 ≤ min t (r0 r) * r1 r ∧ min t (r0 r) * r1 r ≤ min t (r0 r) * 524288 := ⟨Int.mul_nonneg (by omega) a3, Int.mul_le_mul_of_nonneg_left a4 (by omega)⟩
    generalize min t (r0 r) = n at *
    omega
def mtime_res (s : Int) (l : List (List Int)) (p : Int) : CRes := ⟨[wfI .i64 p], .tup [.cel (.int .i64 ((tmOf s l p).1)), .cel (.int .i64 ((tmOf s l p).2))], []⟩
def mtime_go : List TV → List RowA → List (List CV) → Option CRes := fun args rows caps =>
  match args, rows, caps with
  | [.agg [.int .i64 s, .row 0], .cel (.int .i64 p)], [.recs [.int .i64, .int .i64] l], [] => some (mtime_res s l p)
  | _, _, _ => none
def mtime_e : Ent := ⟨11, [.recs [.int .i64, .int .i64] []], mtime_go⟩
def mtime_L1_F (s : Int) (l : List (List Int)) (p : Int) (i : Int) (nd : Int) (tt : Int) : St := ⟨71, [], [(41, (.one (.cel (.int .i64 i)))), (40, (.one (.cel (.int .i64 (((List.length l) : Nat) : Int))))), (39, (.one (.cel (.row 0)))), (9, (.one (.cel (.int .i64 tt)))), (8, (.one (.cel (.int .i64 nd)))), (5, (.one (.cel (.int .i64 (0 : Int))))), (4, (.one (.cel (.int .i64 (0 : Int)))))], [[(.int .i64 s), (.row 0)]], [⟨(.recs [.int .i64, .int .i64] l), none⟩], 0⟩
def mtime_L1_I (s : Int) (l : List (List Int)) (p : Int) (i : Int) (nd : Int) (tt : Int) : Prop := (0 ≤ i ∧ i ≤ l.length ∧ (l.length : Int) ≤ 2000 ∧ 1 ≤ nd ∧ nd ≤ 4611686018427387904 ∧ 0 ≤ tt ∧ tt ≤ 1099511627776 ∧ vL tt (l.drop i.toNat) = true ∧ tmW nd tt (l.drop i.toNat) = tmOf s l p)
def mtime_L1_m (s : Int) (l : List (List Int)) (p : Int) (i : Int) (nd : Int) (tt : Int) : Nat := (l.length - i).toNat
def mtime_L1_N (s : Int) (l : List (List Int)) (p : Int) (i' : Int) (nd' : Int) (tt' : Int) (st_ : St) : Prop := getI st_ 41 fun i => getI st_ 8 fun nd => getI st_ 9 fun tt => mtime_L1_I s l p i nd tt ∧ mtime_L1_m s l p i nd tt < mtime_L1_m s l p i' nd' tt' ∧ SubA st_ (mtime_L1_F s l p i nd tt)
def mtime_L1_E (s : Int) (l : List (List Int)) (p : Int) (st_ : St) : Prop := getI st_ 41 fun i => getI st_ 8 fun nd => getI st_ 9 fun tt => mtime_L1_I s l p i nd tt ∧ SubA st_ (mtime_L1_F s l p i nd tt)
def mtime_L1_S1 (s : Int) (l : List (List Int)) (p : Int) : St := ⟨71, [], [(41, (.one (.cel (.int .i64 (0 : Int))))), (40, (.one (.cel (.int .i64 (((List.length l) : Nat) : Int))))), (39, (.one (.cel (.row 0)))), (38, (.one (.cel (.ptr 0 1)))), (9, (.one (.cel (.int .i64 (0 : Int))))), (8, (.one (.cel (.int .i64 (Go.IntKind.wrap Go.IntKind.i64 ((Go.IntKind.wrap Go.IntKind.i64 (p - s)) * (65536 : Int))))))), (37, (.one (.cel (.int .i64 (Go.IntKind.wrap Go.IntKind.i64 ((Go.IntKind.wrap Go.IntKind.i64 (p - s)) * (65536 : Int))))))), (36, (.one (.cel (.int .i64 (Go.IntKind.wrap Go.IntKind.i64 (p - s)))))), (35, (.one (.cel (.int .i64 s)))), (34, (.one (.cel (.ptr 0 0)))), (33, (.one (.cel (.int .i64 p)))), (29, (.one (.cel (.bool (decide ((posOf s l (1099511627776 : Int)) < p)))))), (32, (.one (.cel (.bool (decide ((posOf s l (1099511627776 : Int)) < p)))))), (31, (.one (.cel (.int .i64 (posOf s l (1099511627776 : Int)))))), (30, (.one (.cel (.int .i64 p)))), (24, (.one (.cel (.bool (decide (p ≤ s)))))), (28, (.one (.cel (.bool (decide (p ≤ s)))))), (27, (.one (.cel (.int .i64 s)))), (26, (.one (.cel (.ptr 0 0)))), (25, (.one (.cel (.int .i64 p)))), (20, (.one (.cel (.bool (!(decide ((mErr s l (1099511627776 : Int)) = (0 : Int)))))))), (22, (.one (.cel (.bool (!(decide ((mErr s l (1099511627776 : Int)) = (0 : Int)))))))), (21, (.one (.cel (.int .i64 (mErr s l (1099511627776 : Int)))))), (7, (.one (.cel (.int .i64 (mErr s l (1099511627776 : Int)))))), (6, (.one (.cel (.int .i64 (posOf s l (1099511627776 : Int)))))), (19, (.one (.cel (.int .i64 (mErr s l (1099511627776 : Int)))))), (18, (.one (.cel (.int .i64 (posOf s l (1099511627776 : Int)))))), (15, (.tup [(.cel (.int .i64 (posOf s l (1099511627776 : Int)))), (.cel (.int .i64 (mErr s l (1099511627776 : Int))))])), (17, (.tup [(.cel (.int .i64 (posOf s l (1099511627776 : Int)))), (.cel (.int .i64 (mErr s l (1099511627776 : Int))))])), (16, (.one (.agg [(.int .i64 s), (.row 0)]))), (5, (.one (.cel (.int .i64 (0 : Int))))), (4, (.one (.cel (.int .i64 (0 : Int))))), (2, (.one (.cel (.ptr 0 0)))), (0, (.one (.agg [(.int .i64 s), (.row 0)]))), (1, (.one (.cel (.int .i64 p))))], [[(.int .i64 s), (.row 0)]], [⟨(.recs [.int .i64, .int .i64] l), none⟩], 0⟩
def mtime_L1_T (s : Int) (l : List (List Int)) (p : Int) (i : Int) (nd : Int) (tt : Int) : Prop := (cnd (decide (i < (((List.length l) : Nat) : Int)))
  (cnd (decide ((0 : Int) ≤ i))
    (cnd (decide (i < (((List.length l) : Nat) : Int)))
      (cnd (decide ((Go.IntKind.wrap Go.IntKind.i64 ((List.getD (List.getD l (Int.toNat i) ([] : List Int)) 0 (0 : Int)) * (List.getD (List.getD l (Int.toNat i) ([] : List Int)) (0 + 1) (0 : Int)))) < nd))
        ((mtime_L1_I s l p (Go.IntKind.wrap Go.IntKind.i64 (i + (1 : Int))) (Go.IntKind.wrap Go.IntKind.i64 (nd - (Go.IntKind.wrap Go.IntKind.i64 ((List.getD (List.getD l (Int.toNat i) ([] : List Int)) 0 (0 : Int)) * (List.getD (List.getD l (Int.toNat i) ([] : List Int)) (0 + 1) (0 : Int)))))) (Go.IntKind.wrap Go.IntKind.i64 (tt + (List.getD (List.getD l (Int.toNat i) ([] : List Int)) 0 (0 : Int))))) ∧ (((mtime_L1_m s l p (Go.IntKind.wrap Go.IntKind.i64 (i + (1 : Int))) (Go.IntKind.wrap Go.IntKind.i64 (nd - (Go.IntKind.wrap Go.IntKind.i64 ((List.getD (List.getD l (Int.toNat i) ([] : List Int)) 0 (0 : Int)) * (List.getD (List.getD l (Int.toNat i) ([] : List Int)) (0 + 1) (0 : Int)))))) (Go.IntKind.wrap Go.IntKind.i64 (tt + (List.getD (List.getD l (Int.toNat i) ([] : List Int)) 0 (0 : Int))))) < (mtime_L1_m s l p i nd tt)) ∧ (((Go.IntKind.wrap Go.IntKind.i64 (i + (1 : Int))) = (Go.IntKind.wrap Go.IntKind.i64 (i + (1 : Int)))) ∧ (((((List.length l) : Nat) : Int) = (((List.length l) : Nat) : Int)) ∧ (True ∧ (((Go.IntKind.wrap Go.IntKind.i64 (tt + (List.getD (List.getD l (Int.toNat i) ([] : List Int)) 0 (0 : Int)))) = (Go.IntKind.wrap Go.IntKind.i64 (tt + (List.getD (List.getD l (Int.toNat i) ([] : List Int)) 0 (0 : Int))))) ∧ (((Go.IntKind.wrap Go.IntKind.i64 (nd - (Go.IntKind.wrap Go.IntKind.i64 ((List.getD (List.getD l (Int.toNat i) ([] : List Int)) 0 (0 : Int)) * (List.getD (List.getD l (Int.toNat i) ([] : List Int)) (0 + 1) (0 : Int)))))) = (Go.IntKind.wrap Go.IntKind.i64 (nd - (Go.IntKind.wrap Go.IntKind.i64 ((List.getD (List.getD l (Int.toNat i) ([] : List Int)) 0 (0 : Int)) * (List.getD (List.getD l (Int.toNat i) ([] : List Int)) (0 + 1) (0 : Int))))))) ∧ (((0 : Int) = (0 : Int)) ∧ (((0 : Int) = (0 : Int)) ∧ (((s = s) ∧ True) ∧ ((l = l) ∧ True)))))))))))
        (cnd (inBig nd)
          (cnd (decide ((1 : Int) ≤ (List.getD (List.getD l (Int.toNat i) ([] : List Int)) (0 + 1) (0 : Int))))
            (cnd (inBig (List.getD (List.getD l (Int.toNat i) ([] : List Int)) (0 + 1) (0 : Int)))
              (((Go.IntKind.wrap Go.IntKind.i64 (tt + (rdiv nd (List.getD (List.getD l (Int.toNat i) ([] : List Int)) (0 + 1) (0 : Int)) (2 : Int)))) = (Prod.fst (tmOf s l p))) ∧ ((0 : Int) = (Prod.snd (tmOf s l p))))
              False)
            False)
          False))
      False)
    False)
  (((0 : Int) = (Prod.fst (tmOf s l p))) ∧ ((7 : Int) = (Prod.snd (tmOf s l p)))))
set_option maxRecDepth 100000 in
theorem mtime_L1_tree (s : Int) (l : List (List Int)) (p : Int) (i : Int) (nd : Int) (tt : Int) : mtime_L1_T s l p i nd tt = ex Try.prog (conOf [position_e, div_e]) (subC (bodyOf Try.f11) [1, 1, 1, 1, 0, 1, 0, 0]) (nextE (mtime_L1_N s l p i nd tt) (kont Try.prog (conOf [position_e, div_e]) (bodyOf Try.f11) [1, 1, 1, 1, 0, 1, 0] (retPost Try.prog Try.f11 1 (mtime_res s l p)))) (mtime_L1_F s l p i nd tt) := by kernel_rfl
set_option maxRecDepth 100000 in
theorem mtime_L1_round (s : Int) (l : List (List Int)) (p : Int) (i : Int) (nd : Int) (tt : Int) (p0 : (wfI .i64 p) = true) (hI_L1 : mtime_L1_I s l p i nd tt) : mtime_L1_T s l p i nd tt := by
  obtain ⟨i0, i1, i2, n0, n1, t0, t1, hv, hw⟩ := hI_L1
  unfold mtime_L1_T
  by_cases hi : i < l.length
  · have hd := drop_consR (l := l) (i := i) i0 hi
    rw [hd] at hv hw
    simp only [hi, i0, decide_true, cnd]
    change cnd (decide (IntKind.i64.wrap (r0 (l.getD i.toNat []) * r1 (l.getD i.toNat [])) < nd))
      (mtime_L1_I s l p (IntKind.i64.wrap (i + 1)) (IntKind.i64.wrap (nd - IntKind.i64.wrap (r0 (l.getD i.toNat []) * r1 (l.getD i.toNat [])))) (IntKind.i64.wrap (tt + r0 (l.getD i.toNat []))) ∧ _)
      (cnd (inBig nd) (cnd (decide (1 ≤ r1 (l.getD i.toNat []))) (cnd (inBig (r1 (l.getD i.toNat []))) ((IntKind.i64.wrap (tt + rdiv nd (r1 (l.getD i.toNat [])) 2) = (tmOf s l p).1) ∧ ((0 : Int) = (tmOf s l p).2)) False) False) False)
    generalize l.getD i.toNat [] = r at *
    obtain ⟨⟨a1, a2, a3, a4⟩, a5, a6⟩ := vL_cons hv
    have hm : 0 ≤ r0 r * r1 r ∧ r0 r * r1 r ≤ 1099511627776 * 524288 := ⟨Int.mul_nonneg (by omega) a3, Int.mul_le_mul a2 a4 a3 (by omega)⟩
    simp only [tmW] at hw
    rw [w64 (n := r0 r * r1 r) (by omega) (by omega)]
    by_cases hc : r0 r * r1 r < nd
    · rw [if_pos hc] at hw
      rw [w64 (n := i + 1) (by omega) (by omega), w64 (n := nd - r0 r * r1 r) (by omega) (by omega), w64 (n := tt + r0 r) (by omega) (by omega)]
      have j : decide (r0 r * r1 r < nd) = true := by simpa using hc
      rw [j]
      have e1 : (i + 1).toNat = i.toNat + 1 := by omega
      refine ⟨⟨by omega, by omega, i2, by omega, by omega, by omega, a5, by rw [e1]; exact a6, by rw [e1]; exact hw⟩, ?_, by simp⟩
      unfold mtime_L1_m
      omega
    · rw [if_neg hc] at hw
      have j : decide (r0 r * r1 r < nd) = false := by simpa using hc
      have hr1 : 1 ≤ r1 r := by
        by_cases h0 : r1 r = 0
        · rw [h0] at hc; omega
        · omega
      have hb1 : inBig nd = true := inBig_iff.2 (by omega)
      have hb2 : inBig (r1 r) = true := inBig_iff.2 (by omega)
      have j2 : decide (1 ≤ r1 r) = true := by simpa using hr1
      have hrd : rdiv nd (r1 r) 2 = upq nd (r1 r) := by unfold rdiv upq; simp
      have hu : 0 ≤ upq nd (r1 r) ∧ upq nd (r1 r) ≤ nd := by
        unfold upq
        rw [neg_quo nd (r1 r) hr1]
        have h2 := quo_pos (x := nd) (y := r1 r) (by omega) hr1
        have h3 := Int.emod_add_mul_ediv nd (r1 r)
        have h4 : nd / r1 r ≤ r1 r * (nd / r1 r) := by
          have := Int.mul_le_mul_of_nonneg_right hr1 h2.1
          omega
        split <;> omega
      rw [j, hb1, hb2, j2, hrd, w64 (n := tt + upq nd (r1 r)) (by omega) (by omega), ← hw]
      exact ⟨rfl, rfl⟩
  · simp only [hi, decide_false, cnd]
    have e : l.drop i.toNat = [] := List.drop_eq_nil_of_le (by omega)
    rw [e] at hw
    rw [← hw]
    exact ⟨rfl, rfl⟩
set_option maxRecDepth 100000 in
theorem mtime_L1_entry1 (s : Int) (l : List (List Int)) (p : Int) : (((mtime_L1_I s l p (0 : Int) (Go.IntKind.wrap Go.IntKind.i64 ((Go.IntKind.wrap Go.IntKind.i64 (p - s)) * (65536 : Int))) (0 : Int)) ∧ (((0 : Int) = (0 : Int)) ∧ (((((List.length l) : Nat) : Int) = (((List.length l) : Nat) : Int)) ∧ (True ∧ (((0 : Int) = (0 : Int)) ∧ (((Go.IntKind.wrap Go.IntKind.i64 ((Go.IntKind.wrap Go.IntKind.i64 (p - s)) * (65536 : Int))) = (Go.IntKind.wrap Go.IntKind.i64 ((Go.IntKind.wrap Go.IntKind.i64 (p - s)) * (65536 : Int)))) ∧ (((0 : Int) = (0 : Int)) ∧ (((0 : Int) = (0 : Int)) ∧ (((s = s) ∧ True) ∧ ((l = l) ∧ True))))))))))) = mtime_L1_E s l p (mtime_L1_S1 s l p) := by kernel_rfl
theorem mtime_L1_1 (s : Int) (l : List (List Int)) (p : Int) (p0 : (wfI .i64 p) = true) (h : ((mtime_L1_I s l p (0 : Int) (Go.IntKind.wrap Go.IntKind.i64 ((Go.IntKind.wrap Go.IntKind.i64 (p - s)) * (65536 : Int))) (0 : Int)) ∧ (((0 : Int) = (0 : Int)) ∧ (((((List.length l) : Nat) : Int) = (((List.length l) : Nat) : Int)) ∧ (True ∧ (((0 : Int) = (0 : Int)) ∧ (((Go.IntKind.wrap Go.IntKind.i64 ((Go.IntKind.wrap Go.IntKind.i64 (p - s)) * (65536 : Int))) = (Go.IntKind.wrap Go.IntKind.i64 ((Go.IntKind.wrap Go.IntKind.i64 (p - s)) * (65536 : Int)))) ∧ (((0 : Int) = (0 : Int)) ∧ (((0 : Int) = (0 : Int)) ∧ (((s = s) ∧ True) ∧ ((l = l) ∧ True))))))))))) : LoopP (ex Try.prog (conOf [position_e, div_e]) (subC (bodyOf Try.f11) [1, 1, 1, 1, 0, 1, 0, 0])) (kont Try.prog (conOf [position_e, div_e]) (bodyOf Try.f11) [1, 1, 1, 1, 0, 1, 0] (retPost Try.prog Try.f11 1 (mtime_res s l p))) (mtime_L1_S1 s l p) := by
  have hE : mtime_L1_E s l p (mtime_L1_S1 s l p) := Eq.mp (mtime_L1_entry1 s l p) h
  unfold mtime_L1_E at hE
  obtain ⟨i, hE⟩ := getI_of hE
  obtain ⟨nd, hE⟩ := getI_of hE
  obtain ⟨tt, hE⟩ := getI_of hE
  refine loop_of (α := (Int) × (Int) × (Int)) (fun xx_ => mtime_L1_F s l p xx_.1 xx_.2.1 xx_.2.2) (fun xx_ => mtime_L1_I s l p xx_.1 xx_.2.1 xx_.2.2) (fun xx_ => mtime_L1_m s l p xx_.1 xx_.2.1 xx_.2.2) (fun xx_ => mtime_L1_N s l p xx_.1 xx_.2.1 xx_.2.2) (fun xx_ => mtime_L1_T s l p xx_.1 xx_.2.1 xx_.2.2) (fun xx_ s_ h => ?_) ⟨⟨i, nd, tt⟩, hE⟩ (fun xx_ => mtime_L1_tree s l p xx_.1 xx_.2.1 xx_.2.2) (fun xx_ hI => mtime_L1_round s l p xx_.1 xx_.2.1 xx_.2.2 p0 hI)
  unfold mtime_L1_N at h
  obtain ⟨i, h⟩ := getI_of h
  obtain ⟨nd, h⟩ := getI_of h
  obtain ⟨tt, h⟩ := getI_of h
  exact ⟨⟨i, nd, tt⟩, h⟩
set_option maxRecDepth 100000 in
theorem mtime_tree (s : Int) (l : List (List Int)) (p : Int) : ((cnd (!(decide ((mErr s l (1099511627776 : Int)) = (0 : Int))))
  (((0 : Int) = (Prod.fst (tmOf s l p))) ∧ ((mErr s l (1099511627776 : Int)) = (Prod.snd (tmOf s l p))))
  (cnd (decide (p ≤ s))
    (((0 : Int) = (Prod.fst (tmOf s l p))) ∧ ((0 : Int) = (Prod.snd (tmOf s l p))))
    (cnd (decide ((posOf s l (1099511627776 : Int)) < p))
      (((0 : Int) = (Prod.fst (tmOf s l p))) ∧ ((7 : Int) = (Prod.snd (tmOf s l p))))
      (LoopP (ex Try.prog (conOf [position_e, div_e]) (subC (bodyOf Try.f11) [1, 1, 1, 1, 0, 1, 0, 0])) (kont Try.prog (conOf [position_e, div_e]) (bodyOf Try.f11) [1, 1, 1, 1, 0, 1, 0] (retPost Try.prog Try.f11 1 (mtime_res s l p))) (mtime_L1_S1 s l p)))))) = EXD Try.prog (conOf [position_e, div_e]) Try.f11 [.agg [.int .i64 s, .row 0], .cel (.int .i64 p)] [.recs [.int .i64, .int .i64] l] [] (mtime_res s l p) := by kernel_rfl
theorem mtime_holds (s : Int) (l : List (List Int)) (p : Int) (p0 : (wfI .i64 p) = true) : (cnd (!(decide ((mErr s l (1099511627776 : Int)) = (0 : Int))))
  (((0 : Int) = (Prod.fst (tmOf s l p))) ∧ ((mErr s l (1099511627776 : Int)) = (Prod.snd (tmOf s l p))))
  (cnd (decide (p ≤ s))
    (((0 : Int) = (Prod.fst (tmOf s l p))) ∧ ((0 : Int) = (Prod.snd (tmOf s l p))))
    (cnd (decide ((posOf s l (1099511627776 : Int)) < p))
      (((0 : Int) = (Prod.fst (tmOf s l p))) ∧ ((7 : Int) = (Prod.snd (tmOf s l p))))
      (LoopP (ex Try.prog (conOf [position_e, div_e]) (subC (bodyOf Try.f11) [1, 1, 1, 1, 0, 1, 0, 0])) (kont Try.prog (conOf [position_e, div_e]) (bodyOf Try.f11) [1, 1, 1, 1, 0, 1, 0] (retPost Try.prog Try.f11 1 (mtime_res s l p))) (mtime_L1_S1 s l p))))) := by
  have hp := wfI64.1 p0
  by_cases hv : mValid s l = true
  · have he : mErr s l 1099511627776 = 0 := by simp [mErr, hv]
    have hk := hv
    simp only [mValid, Bool.and_eq_true, decide_eq_true_eq] at hk
    obtain ⟨⟨⟨v1, v2⟩, v3⟩, v4⟩ := hk
    simp only [he, decide_true, Bool.not_true, cnd]
    by_cases h1 : p ≤ s
    · simp [h1, tmOf, hv]
    · have hwb := way_bd l 0 1099511627776 v4 (by omega)
      have hpo : posOf s l 1099511627776 = s + way 1099511627776 l / 65536 := by unfold posOf; rw [if_pos he]
      by_cases h2 : posOf s l 1099511627776 < p
      · simp [h1, h2, tmOf, hv]
      · simp only [h1, h2, decide_false]
        rw [hpo] at h2
        refine mtime_L1_1 s l p p0 ⟨?_, by simp⟩
        rw [w64 (n := p - s) (by omega) (by omega), w64 (n := (p - s) * 65536) (by omega) (by omega)]
        refine ⟨by omega, by omega, v3, by omega, by omega, by omega, by omega, by simpa using v4, ?_⟩
        unfold tmOf
        rw [if_pos hv, if_neg h1, if_neg (by rw [hpo]; exact h2)]
        simp
  · have he : mErr s l 1099511627776 = 1 := by simp [mErr, hv]
    simp [he, tmOf, hv, cnd]
set_option maxHeartbeats 2000000 in
theorem mtime_ok : SoundEnt Try.prog mtime_e := by
  refine ent_of_ex (Γ := (conOf [position_e, div_e])) (conOf_sound (scons position_ok (scons div_ok snil))) (by kernel_rfl) Try.func11 (by kernel_rfl) (by kernel_rfl) (fun args rows caps res h ho => ?_)
  change mtime_go args rows caps = some res at h
  unfold mtime_go at h
  split at h
  · simp only [Option.some.injEq] at h
    subst h
    rename_i q0_ q2_ q1_
    obtain ⟨p0, _⟩ := ho
    exact EX.of (mtime_tree q0_ q1_ q2_) (mtime_holds q0_ q1_ q2_ p0)
  · cases h
def awake_res : CRes := ⟨[], .one (.cel (.bool (true))), []⟩
def awake_go : List TV → List RowA → List (List CV) → Option CRes := fun args rows caps =>
  match args, rows, caps with
  | [], [], [] => some (awake_res )
  | _, _, _ => none
def awake_e : Ent := ⟨9, [], awake_go⟩
set_option maxRecDepth 100000 in
theorem awake_tree  : ((Bool.true = Bool.true)) = EXD Try.prog (conOf [position_e, mtime_e, mrpm_e]) Try.f9 [] [] [] (awake_res ) := by kernel_rfl
theorem awake_holds   : (Bool.true = Bool.true) := by
  decide +kernel
set_option maxHeartbeats 2000000 in
theorem awake_ok : SoundEnt Try.prog awake_e := by
  refine ent_of_ex (Γ := (conOf [position_e, mtime_e, mrpm_e])) (conOf_sound (scons position_ok (scons mtime_ok (scons mrpm_ok snil)))) (by kernel_rfl) Try.func9 (by kernel_rfl) (by kernel_rfl) (fun args rows caps res h ho => ?_)
  change awake_go args rows caps = some res at h
  unfold awake_go at h
  split at h
  · simp only [Option.some.injEq] at h
    subst h
    skip
    skip
    exact EX.of (awake_tree ) (awake_holds )
  · cases h
def turns_res (v : Int) (n : Int) : CRes := ⟨[wfI .i64 v, wfI .i64 n], .one (.cel (.bool (true))), []⟩
def turns_go : List TV → List RowA → List (List CV) → Option CRes := fun args rows caps =>
  match args, rows, caps with
  | [.cel (.int .i64 v), .cel (.int .i64 n)], [], [] => some (turns_res v n)
  | _, _, _ => none
def turns_e : Ent := ⟨5, [], turns_go⟩
set_option maxRecDepth 100000 in
theorem turns_tree (v : Int) (n : Int) : ((cnd ((decide (v < (0 : Int))) || (decide ((524288 : Int) < v)))
  (cnd ((!(decide ((if (((0 : Int) ≤ v) ∧ (v ≤ (524288 : Int))) then (0 : Int) else (2 : Int)) = (2 : Int)))) || (!(decide ((if (((0 : Int) ≤ v) ∧ (v ≤ (524288 : Int))) then (rpm v) else (0 : Int)) = (0 : Int)))))
    (Bool.false = Bool.true)
    (cnd ((decide (n < (0 : Int))) || (decide ((20000 : Int) < n)))
      (((decide ((if (((0 : Int) ≤ n) ∧ (n ≤ (20000 : Int))) then (0 : Int) else (2 : Int)) = (2 : Int))) && (decide ((if (((0 : Int) ≤ n) ∧ (n ≤ (20000 : Int))) then (frp n) else (0 : Int)) = (0 : Int)))) = Bool.true)
      (cnd ((!((decide ((if (((0 : Int) ≤ n) ∧ (n ≤ (20000 : Int))) then (0 : Int) else (2 : Int)) = (0 : Int))) == Bool.true)) || (decide ((0 : Int) ≤ n)))
        (cnd ((!((decide ((if (((0 : Int) ≤ n) ∧ (n ≤ (20000 : Int))) then (0 : Int) else (2 : Int)) = (0 : Int))) == Bool.true)) || (decide (n ≤ (20000 : Int))))
          (((((decide ((if (((0 : Int) ≤ n) ∧ (n ≤ (20000 : Int))) then (0 : Int) else (2 : Int)) = (0 : Int))) && (decide ((if (((0 : Int) ≤ n) ∧ (n ≤ (20000 : Int))) then (frp n) else (0 : Int)) = (frp n)))) && (decide ((if (((0 : Int) ≤ (if (((0 : Int) ≤ n) ∧ (n ≤ (20000 : Int))) then (frp n) else (0 : Int))) ∧ ((if (((0 : Int) ≤ n) ∧ (n ≤ (20000 : Int))) then (frp n) else (0 : Int)) ≤ (524288 : Int))) then (0 : Int) else (2 : Int)) = (0 : Int)))) && (decide (n ≤ (if (((0 : Int) ≤ (if (((0 : Int) ≤ n) ∧ (n ≤ (20000 : Int))) then (frp n) else (0 : Int))) ∧ ((if (((0 : Int) ≤ n) ∧ (n ≤ (20000 : Int))) then (frp n) else (0 : Int)) ≤ (524288 : Int))) then (rpm (if (((0 : Int) ≤ n) ∧ (n ≤ (20000 : Int))) then (frp n) else (0 : Int))) else (0 : Int))))) = Bool.true)
          False)
        False)))
  (cnd ((!((!(decide ((if (((0 : Int) ≤ v) ∧ (v ≤ (524288 : Int))) then (0 : Int) else (2 : Int)) = (0 : Int)))) == Bool.false)) || (decide ((0 : Int) ≤ v)))
    (cnd ((!((!(decide ((if (((0 : Int) ≤ v) ∧ (v ≤ (524288 : Int))) then (0 : Int) else (2 : Int)) = (0 : Int)))) == Bool.false)) || (decide (v ≤ (1048576 : Int))))
      (cnd (((!(decide ((if (((0 : Int) ≤ v) ∧ (v ≤ (524288 : Int))) then (0 : Int) else (2 : Int)) = (0 : Int)))) || (!(decide ((if (((0 : Int) ≤ v) ∧ (v ≤ (524288 : Int))) then (rpm v) else (0 : Int)) = (rpm v))))) || ((decide ((if (((0 : Int) ≤ v) ∧ (v ≤ (524288 : Int))) then (rpm v) else (0 : Int)) ≤ (20000 : Int))) && ((!(decide ((if (((0 : Int) ≤ (if (((0 : Int) ≤ v) ∧ (v ≤ (524288 : Int))) then (rpm v) else (0 : Int))) ∧ ((if (((0 : Int) ≤ v) ∧ (v ≤ (524288 : Int))) then (rpm v) else (0 : Int)) ≤ (20000 : Int))) then (0 : Int) else (2 : Int)) = (0 : Int)))) || (decide (v < (if (((0 : Int) ≤ (if (((0 : Int) ≤ v) ∧ (v ≤ (524288 : Int))) then (rpm v) else (0 : Int))) ∧ ((if (((0 : Int) ≤ v) ∧ (v ≤ (524288 : Int))) then (rpm v) else (0 : Int)) ≤ (20000 : Int))) then (frp (if (((0 : Int) ≤ v) ∧ (v ≤ (524288 : Int))) then (rpm v) else (0 : Int))) else (0 : Int)))))))
        (Bool.false = Bool.true)
        (cnd ((decide (n < (0 : Int))) || (decide ((20000 : Int) < n)))
          (((decide ((if (((0 : Int) ≤ n) ∧ (n ≤ (20000 : Int))) then (0 : Int) else (2 : Int)) = (2 : Int))) && (decide ((if (((0 : Int) ≤ n) ∧ (n ≤ (20000 : Int))) then (frp n) else (0 : Int)) = (0 : Int)))) = Bool.true)
          (cnd ((!((decide ((if (((0 : Int) ≤ n) ∧ (n ≤ (20000 : Int))) then (0 : Int) else (2 : Int)) = (0 : Int))) == Bool.true)) || (decide ((0 : Int) ≤ n)))
            (cnd ((!((decide ((if (((0 : Int) ≤ n) ∧ (n ≤ (20000 : Int))) then (0 : Int) else (2 : Int)) = (0 : Int))) == Bool.true)) || (decide (n ≤ (20000 : Int))))
              (((((decide ((if (((0 : Int) ≤ n) ∧ (n ≤ (20000 : Int))) then (0 : Int) else (2 : Int)) = (0 : Int))) && (decide ((if (((0 : Int) ≤ n) ∧ (n ≤ (20000 : Int))) then (frp n) else (0 : Int)) = (frp n)))) && (decide ((if (((0 : Int) ≤ (if (((0 : Int) ≤ n) ∧ (n ≤ (20000 : Int))) then (frp n) else (0 : Int))) ∧ ((if (((0 : Int) ≤ n) ∧ (n ≤ (20000 : Int))) then (frp n) else (0 : Int)) ≤ (524288 : Int))) then (0 : Int) else (2 : Int)) = (0 : Int)))) && (decide (n ≤ (if (((0 : Int) ≤ (if (((0 : Int) ≤ n) ∧ (n ≤ (20000 : Int))) then (frp n) else (0 : Int))) ∧ ((if (((0 : Int) ≤ n) ∧ (n ≤ (20000 : Int))) then (frp n) else (0 : Int)) ≤ (524288 : Int))) then (rpm (if (((0 : Int) ≤ n) ∧ (n ≤ (20000 : Int))) then (frp n) else (0 : Int))) else (0 : Int))))) = Bool.true)
              False)
            False)))
      False)
    False))) = EXD Try.prog (conOf [awake_e, mrpm_e, mfrom_e, rrpm_e, rfrom_e]) Try.f5 [.cel (.int .i64 v), .cel (.int .i64 n)] [] [] (turns_res v n) := by kernel_rfl
theorem turns_holds (v : Int) (n : Int) (p0 : (wfI .i64 v) = true) (p1 : (wfI .i64 n) = true) : (cnd ((decide (v < (0 : Int))) || (decide ((524288 : Int) < v)))
  (cnd ((!(decide ((if (((0 : Int) ≤ v) ∧ (v ≤ (524288 : Int))) then (0 : Int) else (2 : Int)) = (2 : Int)))) || (!(decide ((if (((0 : Int) ≤ v) ∧ (v ≤ (524288 : Int))) then (rpm v) else (0 : Int)) = (0 : Int)))))
    (Bool.false = Bool.true)
    (cnd ((decide (n < (0 : Int))) || (decide ((20000 : Int) < n)))
      (((decide ((if (((0 : Int) ≤ n) ∧ (n ≤ (20000 : Int))) then (0 : Int) else (2 : Int)) = (2 : Int))) && (decide ((if (((0 : Int) ≤ n) ∧ (n ≤ (20000 : Int))) then (frp n) else (0 : Int)) = (0 : Int)))) = Bool.true)
      (cnd ((!((decide ((if (((0 : Int) ≤ n) ∧ (n ≤ (20000 : Int))) then (0 : Int) else (2 : Int)) = (0 : Int))) == Bool.true)) || (decide ((0 : Int) ≤ n)))
        (cnd ((!((decide ((if (((0 : Int) ≤ n) ∧ (n ≤ (20000 : Int))) then (0 : Int) else (2 : Int)) = (0 : Int))) == Bool.true)) || (decide (n ≤ (20000 : Int))))
          (((((decide ((if (((0 : Int) ≤ n) ∧ (n ≤ (20000 : Int))) then (0 : Int) else (2 : Int)) = (0 : Int))) && (decide ((if (((0 : Int) ≤ n) ∧ (n ≤ (20000 : Int))) then (frp n) else (0 : Int)) = (frp n)))) && (decide ((if (((0 : Int) ≤ (if (((0 : Int) ≤ n) ∧ (n ≤ (20000 : Int))) then (frp n) else (0 : Int))) ∧ ((if (((0 : Int) ≤ n) ∧ (n ≤ (20000 : Int))) then (frp n) else (0 : Int)) ≤ (524288 : Int))) then (0 : Int) else (2 : Int)) = (0 : Int)))) && (decide (n ≤ (if (((0 : Int) ≤ (if (((0 : Int) ≤ n) ∧ (n ≤ (20000 : Int))) then (frp n) else (0 : Int))) ∧ ((if (((0 : Int) ≤ n) ∧ (n ≤ (20000 : Int))) then (frp n) else (0 : Int)) ≤ (524288 : Int))) then (rpm (if (((0 : Int) ≤ n) ∧ (n ≤ (20000 : Int))) then (frp n) else (0 : Int))) else (0 : Int))))) = Bool.true)
          False)
        False)))
  (cnd ((!((!(decide ((if (((0 : Int) ≤ v) ∧ (v ≤ (524288 : Int))) then (0 : Int) else (2 : Int)) = (0 : Int)))) == Bool.false)) || (decide ((0 : Int) ≤ v)))
    (cnd ((!((!(decide ((if (((0 : Int) ≤ v) ∧ (v ≤ (524288 : Int))) then (0 : Int) else (2 : Int)) = (0 : Int)))) == Bool.false)) || (decide (v ≤ (1048576 : Int))))
      (cnd (((!(decide ((if (((0 : Int) ≤ v) ∧ (v ≤ (524288 : Int))) then (0 : Int) else (2 : Int)) = (0 : Int)))) || (!(decide ((if (((0 : Int) ≤ v) ∧ (v ≤ (524288 : Int))) then (rpm v) else (0 : Int)) = (rpm v))))) || ((decide ((if (((0 : Int) ≤ v) ∧ (v ≤ (524288 : Int))) then (rpm v) else (0 : Int)) ≤ (20000 : Int))) && ((!(decide ((if (((0 : Int) ≤ (if (((0 : Int) ≤ v) ∧ (v ≤ (524288 : Int))) then (rpm v) else (0 : Int))) ∧ ((if (((0 : Int) ≤ v) ∧ (v ≤ (524288 : Int))) then (rpm v) else (0 : Int)) ≤ (20000 : Int))) then (0 : Int) else (2 : Int)) = (0 : Int)))) || (decide (v < (if (((0 : Int) ≤ (if (((0 : Int) ≤ v) ∧ (v ≤ (524288 : Int))) then (rpm v) else (0 : Int))) ∧ ((if (((0 : Int) ≤ v) ∧ (v ≤ (524288 : Int))) then (rpm v) else (0 : Int)) ≤ (20000 : Int))) then (frp (if (((0 : Int) ≤ v) ∧ (v ≤ (524288 : Int))) then (rpm v) else (0 : Int))) else (0 : Int)))))))
        (Bool.false = Bool.true)
        (cnd ((decide (n < (0 : Int))) || (decide ((20000 : Int) < n)))
          (((decide ((if (((0 : Int) ≤ n) ∧ (n ≤ (20000 : Int))) then (0 : Int) else (2 : Int)) = (2 : Int))) && (decide ((if (((0 : Int) ≤ n) ∧ (n ≤ (20000 : Int))) then (frp n) else (0 : Int)) = (0 : Int)))) = Bool.true)
          (cnd ((!((decide ((if (((0 : Int) ≤ n) ∧ (n ≤ (20000 : Int))) then (0 : Int) else (2 : Int)) = (0 : Int))) == Bool.true)) || (decide ((0 : Int) ≤ n)))
            (cnd ((!((decide ((if (((0 : Int) ≤ n) ∧ (n ≤ (20000 : Int))) then (0 : Int) else (2 : Int)) = (0 : Int))) == Bool.true)) || (decide (n ≤ (20000 : Int))))
              (((((decide ((if (((0 : Int) ≤ n) ∧ (n ≤ (20000 : Int))) then (0 : Int) else (2 : Int)) = (0 : Int))) && (decide ((if (((0 : Int) ≤ n) ∧ (n ≤ (20000 : Int))) then (frp n) else (0 : Int)) = (frp n)))) && (decide ((if (((0 : Int) ≤ (if (((0 : Int) ≤ n) ∧ (n ≤ (20000 : Int))) then (frp n) else (0 : Int))) ∧ ((if (((0 : Int) ≤ n) ∧ (n ≤ (20000 : Int))) then (frp n) else (0 : Int)) ≤ (524288 : Int))) then (0 : Int) else (2 : Int)) = (0 : Int)))) && (decide (n ≤ (if (((0 : Int) ≤ (if (((0 : Int) ≤ n) ∧ (n ≤ (20000 : Int))) then (frp n) else (0 : Int))) ∧ ((if (((0 : Int) ≤ n) ∧ (n ≤ (20000 : Int))) then (frp n) else (0 : Int)) ≤ (524288 : Int))) then (rpm (if (((0 : Int) ≤ n) ∧ (n ≤ (20000 : Int))) then (frp n) else (0 : Int))) else (0 : Int))))) = Bool.true)
              False)
            False)))
      False)
    False)) := by
  have hf : 0 ≤ n ∧ n ≤ 20000 → 0 ≤ frp n ∧ frp n ≤ 524288 ∧ n ≤ rpm (frp n) := fun h => by unfold rpm frp upq; omega
  have hr : 0 ≤ v ∧ v ≤ 524288 → 0 ≤ rpm v ∧ (rpm v ≤ 20000 → frp (rpm v) ≤ v) := fun h => by unfold rpm frp upq; omega
  have A : cnd (decide (n < 0) || decide (20000 < n)) ((decide ((if 0 ≤ n ∧ n ≤ 20000 then (0 : Int) else 2) = 2) && decide ((if 0 ≤ n ∧ n ≤ 20000 then frp n else 0) = 0)) = true)
      (cnd (!(decide ((if 0 ≤ n ∧ n ≤ 20000 then (0 : Int) else 2) = 0) == true) || decide (0 ≤ n)) (cnd (!(decide ((if 0 ≤ n ∧ n ≤ 20000 then (0 : Int) else 2) = 0) == true) || decide (n ≤ 20000))
        ((((decide ((if 0 ≤ n ∧ n ≤ 20000 then (0 : Int) else 2) = 0) && decide ((if 0 ≤ n ∧ n ≤ 20000 then frp n else 0) = frp n)) && decide ((if 0 ≤ (if 0 ≤ n ∧ n ≤ 20000 then frp n else 0) ∧ (if 0 ≤ n ∧ n ≤ 20000 then frp n else 0) ≤ 524288 then (0 : Int) else 2) = 0)) && decide (n ≤ (if 0 ≤ (if 0 ≤ n ∧ n ≤ 20000 then frp n else 0) ∧ (if 0 ≤ n ∧ n ≤ 20000 then frp n else 0) ≤ 524288 then rpm (if 0 ≤ n ∧ n ≤ 20000 then frp n else 0) else 0))) = true) False) False) := by
    by_cases h : 0 ≤ n ∧ n ≤ 20000
    · have j : (decide (n < 0) || decide (20000 < n)) = false := by simp; omega
      obtain ⟨g1, g2, g3⟩ := hf h
      simp [j, cnd, h, g1, g2, g3]
    · have j : (decide (n < 0) || decide (20000 < n)) = true := by simp; omega
      simp [j, cnd, h]
  by_cases h : 0 ≤ v ∧ v ≤ 524288
  · have j : (decide (v < 0) || decide (524288 < v)) = false := by simp; omega
    obtain ⟨g1, g2⟩ := hr h
    have j2 : decide (v ≤ 1048576) = true := by simp; omega
    have j3 : decide (0 ≤ v) = true := by simp; omega
    rw [j, j2, j3]
    simp only [if_pos h, Bool.or_true]
    have j4 : ((!(decide True) || !(decide True)) || (decide (rpm v ≤ 20000) && (!(decide ((if 0 ≤ rpm v ∧ rpm v ≤ 20000 then (0 : Int) else 2) = 0)) || decide (v < (if 0 ≤ rpm v ∧ rpm v ≤ 20000 then frp (rpm v) else 0))))) = false := by
      by_cases h5 : rpm v ≤ 20000
      · have := g2 h5
        simp [h5, g1]; omega
      · simp [h5]
    rw [j4]
    exact A
  · have j : (decide (v < 0) || decide (524288 < v)) = true := by simp; omega
    rw [j]
    simp only [if_neg h]
    exact A
set_option maxHeartbeats 2000000 in
theorem turns_ok : SoundEnt Try.prog turns_e := by
  refine ent_of_ex (Γ := (conOf [awake_e, mrpm_e, mfrom_e, rrpm_e, rfrom_e])) (conOf_sound (scons awake_ok (scons mrpm_ok (scons mfrom_ok (scons rrpm_ok (scons rfrom_ok snil)))))) (by kernel_rfl) Try.func5 (by kernel_rfl) (by kernel_rfl) (fun args rows caps res h ho => ?_)
  change turns_go args rows caps = some res at h
  unfold turns_go at h
  split at h
  · simp only [Option.some.injEq] at h
    subst h
    rename_i q0_ q1_
    obtain ⟨p0, p1, _⟩ := ho
    exact EX.of (turns_tree q0_ q1_) (turns_holds q0_ q1_ p0 p1)
  · cases h
end Go.Proofs.Ytajaaohjdeegeaa

