/- Filters: the laws of rates, controllers, and switches. -/
import Derived.Test.YtoflhcdhgkbdcaaF2
namespace Go.Proofs.Ytoflhcdhgkbdcaa
set_option linter.unusedVariables false
set_option linter.unusedSimpArgs false
open Go.RowKit

theorem getD_isI {l : List Int} (h : wfL .i64 l = true) (i : Nat) : -9223372036854775808 ≤ l.getD i 0 ∧ l.getD i 0 ≤ 9223372036854775807 := by
  by_cases hi : i < l.length
  · rw [List.getD_eq_getElem?_getD, List.getElem?_eq_getElem hi]
    exact wfL64.1 h _ (List.getElem_mem hi)
  · rw [List.getD_eq_getElem?_getD, List.getElem?_eq_none (by omega)]
    decide
theorem dn {u : Int} (h : 0 ≤ u ∧ u ≤ 65535) : IntKind.i64.wrap (Int.tmod (IntKind.i64.wrap u) 1000 + 1) = u % 1000 + 1 := by
  rw [w64 (n := u) (by omega) (by omega), show Int.tmod u 1000 = u % 1000 from tmod_pos h.1, w64 (by omega) (by omega)]
theorem beq_t (b : Bool) : (b == (true == b)) = true := by cases b <;> rfl
theorem beq_f (b : Bool) : ((!b) == (false == b)) = true := by cases b <;> rfl
theorem quo_bd {a b : Int} (h0 : 0 ≤ a) (h1 : 1 ≤ b) : 0 ≤ a / b ∧ a / b ≤ a := ⟨Int.ediv_nonneg h0 (by omega), Int.ediv_le_self _ h0⟩
theorem need_spec {L st : Int} (h0 : 1 ≤ L) (h1 : 1 ≤ st) : 1 ≤ (L + st - 1) / st ∧ L ≤ (L + st - 1) / st * st ∧ ((L + st - 1) / st - 1) * st < L := by
  have h2 := Int.emod_add_mul_ediv (L + st - 1) st
  have h3 := Int.emod_nonneg (L + st - 1) (show st ≠ 0 by omega)
  have h4 := Int.emod_lt_of_pos (L + st - 1) (show 0 < st by omega)
  have h5 : (L + st - 1) / st * st = st * ((L + st - 1) / st) := Int.mul_comm _ _
  rw [Int.sub_mul, Int.one_mul, h5]
  refine ⟨Int.le_ediv_of_mul_le (by omega) (by omega), by omega, by omega⟩
def rates_res (y : Int) (x : Int) (u : Int) (d : Int) : CRes := ⟨[wfI .i64 y, wfI .i64 x, wfI .i64 u, wfI .i64 d], .one (.cel (.bool (true))), []⟩
def rates_go : List TV → List RowA → Option CRes := fun args rows =>
  match args, rows with
  | [.cel (.int .i64 y), .cel (.int .i64 x), .cel (.int .i64 u), .cel (.int .i64 d)], [] => some (rates_res y x u d)
  | _, _ => none
def rates_e : Ent := ⟨5, [], rates_go⟩
set_option maxRecDepth 100000 in
theorem rates_tree (y : Int) (x : Int) (u : Int) (d : Int) : ((cnd ((((decide (u < (0 : Int))) || (decide ((1099511627776 : Int) < u))) || (decide (d < (0 : Int)))) || (decide ((1099511627776 : Int) < d)))
  (((decide ((rtE y x u d) = (1 : Int))) && (decide ((rtZ y x u d) = (0 : Int)))) = Bool.true)
  (cnd ((!(isV y)) || (!(isV x)))
    (((decide ((rtE y x u d) = (2 : Int))) && (decide ((rtZ y x u d) = (0 : Int)))) = Bool.true)
    (cnd ((!((!(decide ((rtE y x u d) = (0 : Int)))) == Bool.false)) || (decide ((rtE y x u d) = (0 : Int))))
      (cnd ((((((!(decide ((rtE y x u d) = (0 : Int)))) || (!(decide ((rtZ y x u d) = (rtZ y x u d))))) || (decide (u < (Go.IntKind.wrap Go.IntKind.i64 ((rtZ y x u d) - y))))) || (decide (d < (Go.IntKind.wrap Go.IntKind.i64 (y - (rtZ y x u d)))))) || (decide ((rtZ y x u d) < (gmin x y)))) || (decide ((gmax x y) < (rtZ y x u d))))
        (Bool.false = Bool.true)
        ((((decide ((rtE (rtZ y x u d) x u d) = (0 : Int))) && ((!(decide ((rtZ y x u d) = x))) || (decide ((rtZ (rtZ y x u d) x u d) = x)))) && ((((decide (u = (0 : Int))) || (decide (d = (0 : Int)))) || (decide ((rtZ y x u d) = x))) || (!(decide ((rtZ (rtZ y x u d) x u d) = (rtZ y x u d)))))) = Bool.true))
      False)))) = EXD Try.prog (conOf [awake_e, frate_e, rvalue_e, rrate_e]) Try.f5 [.cel (.int .i64 y), .cel (.int .i64 x), .cel (.int .i64 u), .cel (.int .i64 d)] [] (rates_res y x u d) := by kernel_rfl
theorem rates_holds (y : Int) (x : Int) (u : Int) (d : Int) (p0 : wfI .i64 y = true) (p1 : wfI .i64 x = true) (p2 : wfI .i64 u = true) (p3 : wfI .i64 d = true) : (cnd ((((decide (u < (0 : Int))) || (decide ((1099511627776 : Int) < u))) || (decide (d < (0 : Int)))) || (decide ((1099511627776 : Int) < d)))
  (((decide ((rtE y x u d) = (1 : Int))) && (decide ((rtZ y x u d) = (0 : Int)))) = Bool.true)
  (cnd ((!(isV y)) || (!(isV x)))
    (((decide ((rtE y x u d) = (2 : Int))) && (decide ((rtZ y x u d) = (0 : Int)))) = Bool.true)
    (cnd ((!((!(decide ((rtE y x u d) = (0 : Int)))) == Bool.false)) || (decide ((rtE y x u d) = (0 : Int))))
      (cnd ((((((!(decide ((rtE y x u d) = (0 : Int)))) || (!(decide ((rtZ y x u d) = (rtZ y x u d))))) || (decide (u < (Go.IntKind.wrap Go.IntKind.i64 ((rtZ y x u d) - y))))) || (decide (d < (Go.IntKind.wrap Go.IntKind.i64 (y - (rtZ y x u d)))))) || (decide ((rtZ y x u d) < (gmin x y)))) || (decide ((gmax x y) < (rtZ y x u d))))
        (Bool.false = Bool.true)
        ((((decide ((rtE (rtZ y x u d) x u d) = (0 : Int))) && ((!(decide ((rtZ y x u d) = x))) || (decide ((rtZ (rtZ y x u d) x u d) = x)))) && ((((decide (u = (0 : Int))) || (decide (d = (0 : Int)))) || (decide ((rtZ y x u d) = x))) || (!(decide ((rtZ (rtZ y x u d) x u d) = (rtZ y x u d)))))) = Bool.true))
      False))) := by
  by_cases hu : (0 ≤ u ∧ u ≤ 1099511627776) ∧ (0 ≤ d ∧ d ≤ 1099511627776)
  · have j1 : (((decide (u < 0) || decide (1099511627776 < u)) || decide (d < 0)) || decide (1099511627776 < d)) = false := by simp; omega
    simp only [j1, cnd]
    by_cases hv : isV y = true ∧ isV x = true
    · have hz : rtE y x u d = 0 := rtE_zero.2 ⟨hu.1, hu.2, hv⟩
      have h1 := isV_iff.1 hv.1
      have h2 := isV_iff.1 hv.2
      have e : rtZ y x u d = min (max x (y - d)) (y + u) := by unfold rtZ; rw [if_pos hz]
      have hzz : isV (rtZ y x u d) = true := isV_iff.2 (by omega)
      have hz2 : rtE (rtZ y x u d) x u d = 0 := rtE_zero.2 ⟨hu.1, hu.2, hzz, hv.2⟩
      have e2 : rtZ (rtZ y x u d) x u d = min (max x (rtZ y x u d - d)) (rtZ y x u d + u) := by rw [rtZ, if_pos hz2]
      obtain ⟨z, hzd⟩ : ∃ z, z = rtZ y x u d := ⟨_, rfl⟩
      rw [← hzd] at e e2 hz2 hzz ⊢
      rw [e2, w64 (n := z - y) (by omega) (by omega), w64 (n := y - z) (by omega) (by omega), gmin_eq, gmax_eq]
      simp only [hz, hz2, hv, decide_true, Bool.not_true, Bool.or_false, Bool.or_true, Bool.false_or, Bool.true_and, beq_self_eq_true]
      have j3 : (((decide (u < z - y) || decide (d < y - z)) || decide (z < min x y)) || decide (max x y < z)) = false := by
        simp; omega
      simp only [j3]
      simp only [Bool.and_eq_true, Bool.or_eq_true, Bool.not_eq_true', decide_eq_true_eq, decide_eq_false_iff_not]
      omega
    · have hz : rtE y x u d = 2 := by unfold rtE; rw [if_neg (by omega), if_neg (by simpa using hv)]
      have j2 : (!isV y || !isV x) = true := by cases h1 : isV y <;> cases h2 : isV x <;> simp [h1, h2] at hv ⊢
      simp [j2, rtZ, hz]
  · have j1 : (((decide (u < 0) || decide (1099511627776 < u)) || decide (d < 0)) || decide (1099511627776 < d)) = true := by simp; omega
    have hz : rtE y x u d = 1 := by unfold rtE; rw [if_pos (by omega)]
    simp [j1, cnd, rtZ, hz]
theorem rates_ok : SoundEnt Try.prog rates_e := by
  refine ent_of_ex (Γ := (conOf [awake_e, frate_e, rvalue_e, rrate_e])) (conOf_sound (scons awake_ok (scons frate_ok (scons rvalue_ok (scons rrate_ok snil))))) (by kernel_rfl) Try.func5 (by kernel_rfl) (by kernel_rfl) (fun args rows res h ho => ?_)
  change rates_go args rows = some res at h
  unfold rates_go at h
  split at h
  · simp only [Option.some.injEq] at h
    subst h
    obtain ⟨p0, p1, p2, p3, _⟩ := ho
    exact EX.of (rates_tree _ _ _ _) (rates_holds _ _ _ _ p0 p1 p2 p3)
  · cases h
def holds_res (on : Bool) (x : Int) (lo : Int) (hi : Int) : CRes := ⟨[wfI .i64 x, wfI .i64 lo, wfI .i64 hi], .one (.cel (.bool (true))), []⟩
def holds_go : List TV → List RowA → Option CRes := fun args rows =>
  match args, rows with
  | [.cel (.bool on), .cel (.int .i64 x), .cel (.int .i64 lo), .cel (.int .i64 hi)], [] => some (holds_res on x lo hi)
  | _, _ => none
def holds_e : Ent := ⟨8, [], holds_go⟩
set_option maxRecDepth 100000 in
theorem holds_tree (on : Bool) (x : Int) (lo : Int) (hi : Int) : (((((((((decide (hi ≤ x)) || ((decide (lo ≤ x)) && on)) == ((decide (hi ≤ x)) || ((decide (lo ≤ x)) && on))) && (((decide (hi ≤ x)) || ((decide (lo ≤ x)) && ((decide (hi ≤ x)) || ((decide (lo ≤ x)) && on)))) == ((decide (hi ≤ x)) || ((decide (lo ≤ x)) && on)))) && ((decide (x < hi)) || ((decide (hi ≤ x)) || ((decide (lo ≤ x)) && on)))) && (((decide (hi ≤ x)) || (decide (lo ≤ x))) || (!((decide (hi ≤ x)) || ((decide (lo ≤ x)) && on))))) && (((decide (hi ≤ x)) || (decide (x < lo))) || (((decide (hi ≤ x)) || ((decide (lo ≤ x)) && on)) == on))) = Bool.true)) = EXD Try.prog (conOf [awake_e, fhyst_e, rhyst_e]) Try.f8 [.cel (.bool on), .cel (.int .i64 x), .cel (.int .i64 lo), .cel (.int .i64 hi)] [] (holds_res on x lo hi) := by kernel_rfl
theorem holds_holds (on : Bool) (x : Int) (lo : Int) (hi : Int) (p0 : wfI .i64 x = true) (p1 : wfI .i64 lo = true) (p2 : wfI .i64 hi = true) : ((((((((decide (hi ≤ x)) || ((decide (lo ≤ x)) && on)) == ((decide (hi ≤ x)) || ((decide (lo ≤ x)) && on))) && (((decide (hi ≤ x)) || ((decide (lo ≤ x)) && ((decide (hi ≤ x)) || ((decide (lo ≤ x)) && on)))) == ((decide (hi ≤ x)) || ((decide (lo ≤ x)) && on)))) && ((decide (x < hi)) || ((decide (hi ≤ x)) || ((decide (lo ≤ x)) && on)))) && (((decide (hi ≤ x)) || (decide (lo ≤ x))) || (!((decide (hi ≤ x)) || ((decide (lo ≤ x)) && on))))) && (((decide (hi ≤ x)) || (decide (x < lo))) || (((decide (hi ≤ x)) || ((decide (lo ≤ x)) && on)) == on))) = Bool.true) := by
  have e1 : decide (x < hi) = !decide (hi ≤ x) := by by_cases h : hi ≤ x <;> simp [h] <;> omega
  have e2 : decide (x < lo) = !decide (lo ≤ x) := by by_cases h : lo ≤ x <;> simp [h] <;> omega
  rw [e1, e2]
  cases decide (hi ≤ x) <;> cases decide (lo ≤ x) <;> cases on <;> rfl
theorem holds_ok : SoundEnt Try.prog holds_e := by
  refine ent_of_ex (Γ := (conOf [awake_e, fhyst_e, rhyst_e])) (conOf_sound (scons awake_ok (scons fhyst_ok (scons rhyst_ok snil)))) (by kernel_rfl) Try.func8 (by kernel_rfl) (by kernel_rfl) (fun args rows res h ho => ?_)
  change holds_go args rows = some res at h
  unfold holds_go at h
  split at h
  · simp only [Option.some.injEq] at h
    subst h
    obtain ⟨p0, p1, p2, _⟩ := ho
    exact EX.of (holds_tree _ _ _ _) (holds_holds _ _ _ _ p0 p1 p2)
  · cases h
def bounces_res (c : Int) (o : Bool) (r : Bool) (u : Int) (d : Int) (l : Int) : CRes := ⟨[wfI .i64 c, wfI .i64 u, wfI .i64 d, wfI .i64 l], .one (.cel (.bool (true))), []⟩
def bounces_go : List TV → List RowA → Option CRes := fun args rows =>
  match args, rows with
  | [.agg [.int .i64 c, .bool o], .cel (.bool r), .cel (.int .i64 u), .cel (.int .i64 d), .cel (.int .i64 l)], [] => some (bounces_res c o r u d l)
  | _, _ => none
def bounces_e : Ent := ⟨9, [], bounces_go⟩
set_option maxRecDepth 100000 in
theorem bounces_tree (c : Int) (o : Bool) (r : Bool) (u : Int) (d : Int) (l : Int) : ((cnd (((!((decide ((1 : Int) ≤ u)) && (decide (u ≤ (1000 : Int))))) || (!((decide ((1 : Int) ≤ d)) && (decide (d ≤ (1000 : Int)))))) || (!((decide ((1 : Int) ≤ l)) && (decide (l ≤ (1000 : Int))))))
  (((decide ((bE c u d l) = (2 : Int))) && ((decide ((bC c r u d l) = (0 : Int))) && (((bO c o r u d l) == Bool.false) && Bool.true))) = Bool.true)
  (cnd ((decide (c < (0 : Int))) || (decide (l < c)))
    (((decide ((bE c u d l) = (1 : Int))) && ((decide ((bC c r u d l) = (0 : Int))) && (((bO c o r u d l) == Bool.false) && Bool.true))) = Bool.true)
    (cnd ((!((decide ((bE c u d l) = (0 : Int))) == Bool.true)) || (decide ((bE c u d l) = (0 : Int))))
      (((decide ((bE c u d l) = (0 : Int))) && ((decide ((bC c r u d l) = (bC c r u d l))) && (((bO c o r u d l) == (bO c o r u d l)) && Bool.true))) = Bool.true)
      False)))) = EXD Try.prog (conOf [awake_e, fbounce_e, rsteps_e, rbounce_e]) Try.f9 [.agg [.int .i64 c, .bool o], .cel (.bool r), .cel (.int .i64 u), .cel (.int .i64 d), .cel (.int .i64 l)] [] (bounces_res c o r u d l) := by kernel_rfl
theorem bounces_holds (c : Int) (o : Bool) (r : Bool) (u : Int) (d : Int) (l : Int) (p0 : wfI .i64 c = true) (p1 : wfI .i64 u = true) (p2 : wfI .i64 d = true) (p3 : wfI .i64 l = true) : (cnd (((!((decide ((1 : Int) ≤ u)) && (decide (u ≤ (1000 : Int))))) || (!((decide ((1 : Int) ≤ d)) && (decide (d ≤ (1000 : Int)))))) || (!((decide ((1 : Int) ≤ l)) && (decide (l ≤ (1000 : Int))))))
  (((decide ((bE c u d l) = (2 : Int))) && ((decide ((bC c r u d l) = (0 : Int))) && (((bO c o r u d l) == Bool.false) && Bool.true))) = Bool.true)
  (cnd ((decide (c < (0 : Int))) || (decide (l < c)))
    (((decide ((bE c u d l) = (1 : Int))) && ((decide ((bC c r u d l) = (0 : Int))) && (((bO c o r u d l) == Bool.false) && Bool.true))) = Bool.true)
    (cnd ((!((decide ((bE c u d l) = (0 : Int))) == Bool.true)) || (decide ((bE c u d l) = (0 : Int))))
      (((decide ((bE c u d l) = (0 : Int))) && ((decide ((bC c r u d l) = (bC c r u d l))) && (((bO c o r u d l) == (bO c o r u d l)) && Bool.true))) = Bool.true)
      False))) := by
  change cnd ((!isS u || !isS d) || !isS l) _ _
  by_cases hs : isS u = true ∧ isS d = true ∧ isS l = true
  · have j : ((!isS u || !isS d) || !isS l) = false := by simp [hs]
    by_cases hc : 0 ≤ c ∧ c ≤ l
    · have hz : bE c u d l = 0 := bE_zero.2 ⟨isS_iff.1 hs.1, isS_iff.1 hs.2.1, isS_iff.1 hs.2.2, hc⟩
      have j2 : (decide (c < 0) || decide (l < c)) = false := by simp; omega
      simp [j, j2, cnd, hz]
    · have hz : bE c u d l = 1 := by unfold bE; rw [if_pos (by simp [hs]), if_neg hc]
      have j2 : (decide (c < 0) || decide (l < c)) = true := by simp; omega
      simp [j, j2, cnd, hz, bC, bO]
  · have j : ((!isS u || !isS d) || !isS l) = true := by
      cases h1 : isS u <;> cases h2 : isS d <;> cases h3 : isS l <;> simp [h1, h2, h3] at hs ⊢
    have hz : bE c u d l = 2 := by unfold bE; rw [if_neg]; simpa [and_assoc] using hs
    simp [j, cnd, bC, bO, hz]
theorem bounces_ok : SoundEnt Try.prog bounces_e := by
  refine ent_of_ex (Γ := (conOf [awake_e, fbounce_e, rsteps_e, rbounce_e])) (conOf_sound (scons awake_ok (scons fbounce_ok (scons rsteps_ok (scons rbounce_ok snil))))) (by kernel_rfl) Try.func9 (by kernel_rfl) (by kernel_rfl) (fun args rows res h ho => ?_)
  change bounces_go args rows = some res at h
  unfold bounces_go at h
  split at h
  · simp only [Option.some.injEq] at h
    subst h
    obtain ⟨p0, p1, p2, p3, _⟩ := ho
    exact EX.of (bounces_tree _ _ _ _ _ _) (bounces_holds _ _ _ _ _ _ p0 p1 p2 p3)
  · cases h
def controls_res (m : Int) (p : Int) (i : Int) (lo : Int) (hi : Int) (e : Int) : CRes := ⟨[wfI .i64 m, wfI .i64 p, wfI .i64 i, wfI .i64 lo, wfI .i64 hi, wfI .i64 e], .one (.cel (.bool (true))), []⟩
def controls_go : List TV → List RowA → Option CRes := fun args rows =>
  match args, rows with
  | [.agg [.int .i64 m], .agg [.int .i64 p, .int .i64 i, .int .i64 lo, .int .i64 hi], .cel (.int .i64 e)], [] => some (controls_res m p i lo hi e)
  | _, _ => none
def controls_e : Ent := ⟨6, [], controls_go⟩
set_option maxRecDepth 100000 in
theorem controls_tree (m : Int) (p : Int) (i : Int) (lo : Int) (hi : Int) (e : Int) : ((cnd (!((gainV p i lo hi) == (gainV p i lo hi)))
  (Bool.false = Bool.true)
  (cnd ((!(gainV p i lo hi)) || (!(sumV m)))
    ((((decide ((ctE m p i lo hi e) = (1 : Int))) && (decide ((ctU m p i lo hi e) = (0 : Int)))) && ((decide ((ctM m p i lo hi e) = (0 : Int))) && Bool.true)) = Bool.true)
    (cnd ((decide (e < (-(1048576 : Int)))) || (decide ((1048576 : Int) < e)))
      ((((decide ((ctE m p i lo hi e) = (2 : Int))) && (decide ((ctU m p i lo hi e) = (0 : Int)))) && ((decide ((ctM m p i lo hi e) = (0 : Int))) && Bool.true)) = Bool.true)
      (cnd (decide ((ctE m p i lo hi e) = (0 : Int)))
        ((((decide ((ctE m p i lo hi e) = (0 : Int))) && ((decide ((ctM m p i lo hi e) = (ctM m p i lo hi e))) && Bool.true)) && (decide ((ctU m p i lo hi e) = (ctU m p i lo hi e)))) = Bool.true)
        False))))) = EXD Try.prog (conOf [awake_e, fctl_e, fvgain_e, rgain_e, rintegral_e, rctl_e]) Try.f6 [.agg [.int .i64 m], .agg [.int .i64 p, .int .i64 i, .int .i64 lo, .int .i64 hi], .cel (.int .i64 e)] [] (controls_res m p i lo hi e) := by kernel_rfl
theorem controls_holds (m : Int) (p : Int) (i : Int) (lo : Int) (hi : Int) (e : Int) (p0 : wfI .i64 m = true) (p1 : wfI .i64 p = true) (p2 : wfI .i64 i = true) (p3 : wfI .i64 lo = true) (p4 : wfI .i64 hi = true) (p5 : wfI .i64 e = true) : (cnd (!((gainV p i lo hi) == (gainV p i lo hi)))
  (Bool.false = Bool.true)
  (cnd ((!(gainV p i lo hi)) || (!(sumV m)))
    ((((decide ((ctE m p i lo hi e) = (1 : Int))) && (decide ((ctU m p i lo hi e) = (0 : Int)))) && ((decide ((ctM m p i lo hi e) = (0 : Int))) && Bool.true)) = Bool.true)
    (cnd ((decide (e < (-(1048576 : Int)))) || (decide ((1048576 : Int) < e)))
      ((((decide ((ctE m p i lo hi e) = (2 : Int))) && (decide ((ctU m p i lo hi e) = (0 : Int)))) && ((decide ((ctM m p i lo hi e) = (0 : Int))) && Bool.true)) = Bool.true)
      (cnd (decide ((ctE m p i lo hi e) = (0 : Int)))
        ((((decide ((ctE m p i lo hi e) = (0 : Int))) && ((decide ((ctM m p i lo hi e) = (ctM m p i lo hi e))) && Bool.true)) && (decide ((ctU m p i lo hi e) = (ctU m p i lo hi e)))) = Bool.true)
        False)))) := by
  by_cases hg : gainV p i lo hi = true ∧ sumV m = true
  · by_cases he : -1048576 ≤ e ∧ e ≤ 1048576
    · have hz : ctE m p i lo hi e = 0 := ctE_zero.2 ⟨hg.1, hg.2, he⟩
      have j2 : (decide (e < -1048576) || decide (1048576 < e)) = false := by simp; omega
      simp [hg, hz, cnd, j2]
    · have hz : ctE m p i lo hi e = 2 := by unfold ctE; rw [if_pos (by simp [hg]), if_neg he]
      have j2 : (decide (e < -1048576) || decide (1048576 < e)) = true := by simp; omega
      simp [hg, j2, ctM, ctU, hz, cnd]
  · have hz : ctE m p i lo hi e = 1 := by
      unfold ctE
      rw [if_neg]
      simpa using hg
    have j : (!gainV p i lo hi || !sumV m) = true := by
      cases h1 : gainV p i lo hi <;> cases h2 : sumV m <;> simp [h1, h2] at hg ⊢
    simp [j, cnd, ctM, ctU, hz]
theorem controls_ok : SoundEnt Try.prog controls_e := by
  refine ent_of_ex (Γ := (conOf [awake_e, fctl_e, fvgain_e, rgain_e, rintegral_e, rctl_e])) (conOf_sound (scons awake_ok (scons fctl_ok (scons fvgain_ok (scons rgain_ok (scons rintegral_ok (scons rctl_ok snil))))))) (by kernel_rfl) Try.func6 (by kernel_rfl) (by kernel_rfl) (fun args rows res h ho => ?_)
  change controls_go args rows = some res at h
  unfold controls_go at h
  split at h
  · simp only [Option.some.injEq] at h
    subst h
    obtain ⟨p0, p1, p2, p3, p4, p5, _⟩ := ho
    exact EX.of (controls_tree _ _ _ _ _ _) (controls_holds _ _ _ _ _ _ p0 p1 p2 p3 p4 p5)
  · cases h
def winds_res (p : Int) (i : Int) (lo : Int) (hi : Int) (l : List Int) : CRes := ⟨[wfI .i64 p, wfI .i64 i, wfI .i64 lo, wfI .i64 hi, wfL .i64 l], .one (.cel (.bool (true))), []⟩
def winds_go : List TV → List RowA → Option CRes := fun args rows =>
  match args, rows with
  | [.agg [.int .i64 p, .int .i64 i, .int .i64 lo, .int .i64 hi], .cel (.row 0)], [.ints .i64 l] => some (winds_res p i lo hi l)
  | _, _ => none
def winds_e : Ent := ⟨7, [.ints .i64 []], winds_go⟩
def winds_L1_F (p : Int) (i : Int) (lo : Int) (hi : Int) (l : List Int) (j : Int) (m : Int) : St := ⟨108, [], [(24, (.one (.cel (.int .i64 j)))), (23, (.one (.cel (.int .i64 (((List.length l) : Nat) : Int))))), (22, (.one (.cel (.row 0)))), (5, (.one (.cel (.ptr 1 0)))), (4, (.one (.cel (.bool Bool.false)))), (2, (.one (.cel (.ptr 0 0))))], [[(.int .i64 p), (.int .i64 i), (.int .i64 lo), (.int .i64 hi)], [(.int .i64 m)]], [⟨(.ints .i64 l), none⟩]⟩
def winds_L1_I (p : Int) (i : Int) (lo : Int) (hi : Int) (l : List Int) (j : Int) (m : Int) : Prop := (0 ≤ j ∧ j ≤ l.length ∧ (l.length : Int) ≤ 60) ∧ (gainV p i lo hi = true ∧ sumV m = true ∧ (i = 0 → m = 0))
def winds_L1_m (p : Int) (i : Int) (lo : Int) (hi : Int) (l : List Int) (j : Int) (m : Int) : Nat := (l.length - j).toNat
def winds_L1_N (p : Int) (i : Int) (lo : Int) (hi : Int) (l : List Int) (j' : Int) (m' : Int) (st_ : St) : Prop := getI st_ 24 fun j => getCI st_ 1 0 fun m => winds_L1_I p i lo hi l j m ∧ winds_L1_m p i lo hi l j m < winds_L1_m p i lo hi l j' m' ∧ SubA st_ (winds_L1_F p i lo hi l j m)
def winds_L1_E (p : Int) (i : Int) (lo : Int) (hi : Int) (l : List Int) (st_ : St) : Prop := getI st_ 24 fun j => getCI st_ 1 0 fun m => winds_L1_I p i lo hi l j m ∧ SubA st_ (winds_L1_F p i lo hi l j m)
def winds_L1_S1 (p : Int) (i : Int) (lo : Int) (hi : Int) (l : List Int) : St := ⟨108, [17], [(24, (.one (.cel (.int .i64 (0 : Int))))), (23, (.one (.cel (.int .i64 (((List.length l) : Nat) : Int))))), (22, (.one (.cel (.row 0)))), (5, (.one (.cel (.ptr 1 0)))), (21, (.one (.cel (.bool ((decide ((60 : Int) < (((List.length l) : Nat) : Int))) || (!(gainV p i lo hi))))))), (20, (.spec 17 Bool.false (.cel (.bool (!(gainV p i lo hi)))))), (19, (.spec 17 Bool.false (.cel (.bool (gainV p i lo hi))))), (18, (.spec 17 Bool.false (.agg [(.int .i64 p), (.int .i64 i), (.int .i64 lo), (.int .i64 hi)]))), (17, (.one (.cel (.bool (decide ((60 : Int) < (((List.length l) : Nat) : Int))))))), (16, (.one (.cel (.bool (decide ((60 : Int) < (((List.length l) : Nat) : Int))))))), (15, (.one (.cel (.int .i64 (((List.length l) : Nat) : Int))))), (14, (.one (.cel (.row 0)))), (13, (.one (.cel (.bool (!Bool.true))))), (12, (.one (.cel (.bool Bool.true)))), (4, (.one (.cel (.bool Bool.false)))), (2, (.one (.cel (.ptr 0 0)))), (0, (.one (.agg [(.int .i64 p), (.int .i64 i), (.int .i64 lo), (.int .i64 hi)]))), (1, (.one (.cel (.row 0))))], [[(.int .i64 p), (.int .i64 i), (.int .i64 lo), (.int .i64 hi)], [(.int .i64 (0 : Int))]], [⟨(.ints .i64 l), none⟩]⟩
def winds_L1_T (p : Int) (i : Int) (lo : Int) (hi : Int) (l : List Int) (j : Int) (m : Int) : Prop := (cnd (decide (j < (((List.length l) : Nat) : Int)))
  (cnd (decide ((0 : Int) ≤ j))
    (cnd (decide (j < (((List.length l) : Nat) : Int)))
      (cnd (!(decide ((ctE m p i lo hi (List.getD l (Int.toNat j) (0 : Int))) = (0 : Int))))
        (((decide ((ctE m p i lo hi (List.getD l (Int.toNat j) (0 : Int))) = (2 : Int))) && ((decide ((List.getD l (Int.toNat j) (0 : Int)) < (-(1048576 : Int)))) || (decide ((1048576 : Int) < (List.getD l (Int.toNat j) (0 : Int)))))) = Bool.true)
        (cnd ((decide ((ctU m p i lo hi (List.getD l (Int.toNat j) (0 : Int))) < lo)) || (decide (hi < (ctU m p i lo hi (List.getD l (Int.toNat j) (0 : Int))))))
          (Bool.false = Bool.true)
          (cnd ((((decide ((Go.IntKind.wrap Go.IntKind.i64 ((1024 : Int) * (Go.IntKind.wrap Go.IntKind.i64 (hi + (1 : Int))))) ≤ (Go.IntKind.wrap Go.IntKind.i64 ((Go.IntKind.wrap Go.IntKind.i64 (p * (List.getD l (Int.toNat j) (0 : Int)))) + m)))) && (decide ((0 : Int) < (List.getD l (Int.toNat j) (0 : Int))))) || ((decide ((Go.IntKind.wrap Go.IntKind.i64 ((Go.IntKind.wrap Go.IntKind.i64 (p * (List.getD l (Int.toNat j) (0 : Int)))) + m)) < (Go.IntKind.wrap Go.IntKind.i64 ((1024 : Int) * lo)))) && (decide ((List.getD l (Int.toNat j) (0 : Int)) < (0 : Int))))) && (!((decide ((ctM m p i lo hi (List.getD l (Int.toNat j) (0 : Int))) = m)) && Bool.true)))
            (Bool.false = Bool.true)
            (cnd ((decide ((List.getD l (Int.toNat j) (0 : Int)) = (0 : Int))) && (!((decide ((ctM m p i lo hi (List.getD l (Int.toNat j) (0 : Int))) = m)) && Bool.true)))
              (Bool.false = Bool.true)
              (cnd ((decide (i = (0 : Int))) && (!(decide ((ctM m p i lo hi (List.getD l (Int.toNat j) (0 : Int))) = (0 : Int)))))
                (Bool.false = Bool.true)
                ((winds_L1_I p i lo hi l (Go.IntKind.wrap Go.IntKind.i64 (j + (1 : Int))) (ctM m p i lo hi (List.getD l (Int.toNat j) (0 : Int)))) ∧ (((winds_L1_m p i lo hi l (Go.IntKind.wrap Go.IntKind.i64 (j + (1 : Int))) (ctM m p i lo hi (List.getD l (Int.toNat j) (0 : Int)))) < (winds_L1_m p i lo hi l j m)) ∧ (((Go.IntKind.wrap Go.IntKind.i64 (j + (1 : Int))) = (Go.IntKind.wrap Go.IntKind.i64 (j + (1 : Int)))) ∧ (((((List.length l) : Nat) : Int) = (((List.length l) : Nat) : Int)) ∧ (True ∧ (True ∧ ((Bool.false = Bool.false) ∧ (True ∧ (((p = p) ∧ ((i = i) ∧ ((lo = lo) ∧ (hi = hi)))) ∧ (((ctM m p i lo hi (List.getD l (Int.toNat j) (0 : Int))) = (ctM m p i lo hi (List.getD l (Int.toNat j) (0 : Int)))) ∧ ((l = l) ∧ True))))))))))))))))
      False)
    False)
  (Bool.true = Bool.true))
set_option maxRecDepth 100000 in
theorem winds_L1_tree (p : Int) (i : Int) (lo : Int) (hi : Int) (l : List Int) (j : Int) (m : Int) : winds_L1_T p i lo hi l j m = ex Try.prog (conOf [awake_e, fctl_e, fvgain_e]) (subC (bodyOf Try.f7) [1, 1, 1, 1, 0, 1, 0, 0]) (nextE (winds_L1_N p i lo hi l j m) (kont Try.prog (conOf [awake_e, fctl_e, fvgain_e]) (bodyOf Try.f7) [1, 1, 1, 1, 0, 1, 0] (retPost Try.prog Try.f7 1 (winds_res p i lo hi l)))) (winds_L1_F p i lo hi l j m) := by kernel_rfl
set_option maxRecDepth 100000 in
theorem winds_L1_round (p : Int) (i : Int) (lo : Int) (hi : Int) (l : List Int) (j : Int) (m : Int) (p0 : wfI .i64 p = true) (p1 : wfI .i64 i = true) (p2 : wfI .i64 lo = true) (p3 : wfI .i64 hi = true) (p4 : wfL .i64 l = true) (hI_L1 : winds_L1_I p i lo hi l j m) : winds_L1_T p i lo hi l j m := by
  obtain ⟨⟨a1, a2, a3⟩, a4, a5, a6⟩ := hI_L1
  unfold winds_L1_T
  have hg := gainV_iff.1 a4
  have hs := sumV_iff.1 a5
  have hx := getD_isI p4 j.toNat
  rw [w64 (n := j + 1) (by omega) (by omega)]
  by_cases hl : j < l.length
  · have j1 : decide (0 ≤ j) = true := by simpa using a1
    simp only [hl, decide_true, j1, cnd]
    generalize l.getD j.toNat 0 = e at hx
    by_cases he : -1048576 ≤ e ∧ e ≤ 1048576
    · have hz : ctE m p i lo hi e = 0 := ctE_zero.2 ⟨a4, a5, he⟩
      have b1 := mulB (p := p) (e := e) (A := 65536) (B := 1048576) (by omega) (by omega) (by omega) (by omega) (by omega)
      have b2 := mulB (p := i) (e := e) (A := 65536) (B := 1048576) (by omega) (by omega) (by omega) (by omega) (by omega)
      have eU : ctU m p i lo hi e = min (max (ctF m p e) lo) hi := by unfold ctU; rw [if_pos hz]
      have eM : ctM m p i lo hi e = (if ctG m p lo hi e then min (max (m + i * e) (-4398046511104)) 4398046511104 else m) := by unfold ctM; rw [if_pos hz]
      rw [w64 (n := hi + 1) (by omega) (by omega), w64 (n := 1024 * (hi + 1)) (by omega) (by omega), w64 (n := p * e) (by omega) (by omega), w64 (n := p * e + m) (by omega) (by omega), w64 (n := 1024 * lo) (by omega) (by omega), eU]
      have h0 : e = 0 → ctM m p i lo hi e = m := by
        intro h
        rw [eM, h, Int.mul_zero]
        split <;> omega
      have hi0 : i = 0 → ctM m p i lo hi e = 0 := by
        intro h
        have := a6 h
        rw [eM, h, Int.zero_mul]
        split <;> omega
      have hw : (1024 * (hi + 1) ≤ p * e + m ∧ 0 < e) ∨ (p * e + m < 1024 * lo ∧ e < 0) → ctM m p i lo hi e = m := by
        intro h
        have hgf : ctG m p lo hi e = false := by
          unfold ctG ctF
          rcases h with ⟨h1, h2⟩ | ⟨h1, h2⟩
          · rw [decide_eq_false (show ¬ (p * e + m) / 1024 ≤ hi by omega), decide_eq_false (show ¬ e ≤ 0 by omega)]; rfl
          · rw [decide_eq_false (show ¬ lo ≤ (p * e + m) / 1024 by omega), decide_eq_false (show ¬ 0 ≤ e by omega), Bool.or_false, Bool.and_false]
        rw [eM, hgf]; rfl
      have hsm : sumV (ctM m p i lo hi e) = true := by
        rw [sumV_iff, eM]
        split <;> omega
      have k1 : (decide (min (max (ctF m p e) lo) hi < lo) || decide (hi < min (max (ctF m p e) lo) hi)) = false := by simp; omega
      have k2 : (((decide (1024 * (hi + 1) ≤ p * e + m) && decide (0 < e)) || (decide (p * e + m < 1024 * lo) && decide (e < 0))) && (!(decide (ctM m p i lo hi e = m) && true))) = false := by
        rw [Bool.and_eq_false_iff]
        by_cases h : ctM m p i lo hi e = m
        · right; simp [h]
        · left
          rw [Bool.eq_false_iff]
          intro hh
          simp only [Bool.or_eq_true, Bool.and_eq_true, decide_eq_true_eq] at hh
          exact h (hw hh)
      have k3 : (decide (e = 0) && (!(decide (ctM m p i lo hi e = m) && true))) = false := by
        by_cases h : e = 0
        · simp [h0 h]
        · simp [h]
      have k4 : (decide (i = 0) && (!decide (ctM m p i lo hi e = 0))) = false := by
        by_cases h : i = 0
        · simp [hi0 h]
        · simp [h]
      simp only [hz, decide_true, Bool.not_true, k1, k2, k3, k4]
      refine ⟨⟨⟨by omega, by omega, a3⟩, a4, hsm, hi0⟩, ?_, by simp⟩
      unfold winds_L1_m
      omega
    · have hz : ctE m p i lo hi e = 2 := by unfold ctE; rw [if_pos (by simp [a4, a5]), if_neg he]
      simp [hz]
      omega
  · have j0 : decide (j < (l.length : Int)) = false := by simpa using hl
    simp only [j0, cnd]
set_option maxRecDepth 100000 in
theorem winds_L1_entry1 (p : Int) (i : Int) (lo : Int) (hi : Int) (l : List Int) : (((winds_L1_I p i lo hi l (0 : Int) (0 : Int)) ∧ (((0 : Int) = (0 : Int)) ∧ (((((List.length l) : Nat) : Int) = (((List.length l) : Nat) : Int)) ∧ (True ∧ (True ∧ ((Bool.false = Bool.false) ∧ (True ∧ (((p = p) ∧ ((i = i) ∧ ((lo = lo) ∧ (hi = hi)))) ∧ (((0 : Int) = (0 : Int)) ∧ ((l = l) ∧ True))))))))))) = winds_L1_E p i lo hi l (winds_L1_S1 p i lo hi l) := by kernel_rfl
theorem winds_L1_1 (p : Int) (i : Int) (lo : Int) (hi : Int) (l : List Int) (p0 : wfI .i64 p = true) (p1 : wfI .i64 i = true) (p2 : wfI .i64 lo = true) (p3 : wfI .i64 hi = true) (p4 : wfL .i64 l = true) (h : ((winds_L1_I p i lo hi l (0 : Int) (0 : Int)) ∧ (((0 : Int) = (0 : Int)) ∧ (((((List.length l) : Nat) : Int) = (((List.length l) : Nat) : Int)) ∧ (True ∧ (True ∧ ((Bool.false = Bool.false) ∧ (True ∧ (((p = p) ∧ ((i = i) ∧ ((lo = lo) ∧ (hi = hi)))) ∧ (((0 : Int) = (0 : Int)) ∧ ((l = l) ∧ True))))))))))) : LoopP (ex Try.prog (conOf [awake_e, fctl_e, fvgain_e]) (subC (bodyOf Try.f7) [1, 1, 1, 1, 0, 1, 0, 0])) (kont Try.prog (conOf [awake_e, fctl_e, fvgain_e]) (bodyOf Try.f7) [1, 1, 1, 1, 0, 1, 0] (retPost Try.prog Try.f7 1 (winds_res p i lo hi l))) (winds_L1_S1 p i lo hi l) := by
  have hE : winds_L1_E p i lo hi l (winds_L1_S1 p i lo hi l) := Eq.mp (winds_L1_entry1 p i lo hi l) h
  unfold winds_L1_E at hE
  obtain ⟨j, hE⟩ := getI_of hE
  obtain ⟨m, hE⟩ := getCI_of hE
  refine loop_of (α := (Int) × (Int)) (fun xx_ => winds_L1_F p i lo hi l xx_.1 xx_.2) (fun xx_ => winds_L1_I p i lo hi l xx_.1 xx_.2) (fun xx_ => winds_L1_m p i lo hi l xx_.1 xx_.2) (fun xx_ => winds_L1_N p i lo hi l xx_.1 xx_.2) (fun xx_ => winds_L1_T p i lo hi l xx_.1 xx_.2) (fun xx_ s_ h => ?_) ⟨⟨j, m⟩, hE⟩ (fun xx_ => winds_L1_tree p i lo hi l xx_.1 xx_.2) (fun xx_ hI => winds_L1_round p i lo hi l xx_.1 xx_.2 p0 p1 p2 p3 p4 hI)
  unfold winds_L1_N at h
  obtain ⟨j, h⟩ := getI_of h
  obtain ⟨m, h⟩ := getCI_of h
  exact ⟨⟨j, m⟩, h⟩
set_option maxRecDepth 100000 in
theorem winds_tree (p : Int) (i : Int) (lo : Int) (hi : Int) (l : List Int) : ((cnd ((decide ((60 : Int) < (((List.length l) : Nat) : Int))) || (!(gainV p i lo hi)))
  (Bool.true = Bool.true)
  (LoopP (ex Try.prog (conOf [awake_e, fctl_e, fvgain_e]) (subC (bodyOf Try.f7) [1, 1, 1, 1, 0, 1, 0, 0])) (kont Try.prog (conOf [awake_e, fctl_e, fvgain_e]) (bodyOf Try.f7) [1, 1, 1, 1, 0, 1, 0] (retPost Try.prog Try.f7 1 (winds_res p i lo hi l))) (winds_L1_S1 p i lo hi l)))) = EXD Try.prog (conOf [awake_e, fctl_e, fvgain_e]) Try.f7 [.agg [.int .i64 p, .int .i64 i, .int .i64 lo, .int .i64 hi], .cel (.row 0)] [.ints .i64 l] (winds_res p i lo hi l) := by kernel_rfl
theorem winds_holds (p : Int) (i : Int) (lo : Int) (hi : Int) (l : List Int) (p0 : wfI .i64 p = true) (p1 : wfI .i64 i = true) (p2 : wfI .i64 lo = true) (p3 : wfI .i64 hi = true) (p4 : wfL .i64 l = true) : (cnd ((decide ((60 : Int) < (((List.length l) : Nat) : Int))) || (!(gainV p i lo hi)))
  (Bool.true = Bool.true)
  (LoopP (ex Try.prog (conOf [awake_e, fctl_e, fvgain_e]) (subC (bodyOf Try.f7) [1, 1, 1, 1, 0, 1, 0, 0])) (kont Try.prog (conOf [awake_e, fctl_e, fvgain_e]) (bodyOf Try.f7) [1, 1, 1, 1, 0, 1, 0] (retPost Try.prog Try.f7 1 (winds_res p i lo hi l))) (winds_L1_S1 p i lo hi l))) := by
  by_cases h : (l.length : Int) ≤ 60 ∧ gainV p i lo hi = true
  · have j : (decide (60 < (l.length : Int)) || !gainV p i lo hi) = false := by simp [h.2]; omega
    simp only [j, cnd]
    exact winds_L1_1 p i lo hi l p0 p1 p2 p3 p4 ⟨⟨⟨by omega, by omega, h.1⟩, h.2, by decide, fun _ => rfl⟩, by simp⟩
  · have j : (decide (60 < (l.length : Int)) || !gainV p i lo hi) = true := by
      cases h1 : gainV p i lo hi <;> simp [h1] at h ⊢
      omega
    simp [j, cnd]
theorem winds_ok : SoundEnt Try.prog winds_e := by
  refine ent_of_ex (Γ := (conOf [awake_e, fctl_e, fvgain_e])) (conOf_sound (scons awake_ok (scons fctl_ok (scons fvgain_ok snil)))) (by kernel_rfl) Try.func7 (by kernel_rfl) (by kernel_rfl) (fun args rows res h ho => ?_)
  change winds_go args rows = some res at h
  unfold winds_go at h
  split at h
  · simp only [Option.some.injEq] at h
    subst h
    obtain ⟨p0, p1, p2, p3, p4, _⟩ := ho
    exact EX.of (winds_tree _ _ _ _ _) (winds_holds _ _ _ _ _ p0 p1 p2 p3 p4)
  · cases h
def debounces_res (u : Int) (d : Int) (l : Int) : CRes := ⟨[wfI .u16 u, wfI .u16 d, wfI .u16 l], .one (.cel (.bool (true))), []⟩
def debounces_go : List TV → List RowA → Option CRes := fun args rows =>
  match args, rows with
  | [.cel (.int .u16 u), .cel (.int .u16 d), .cel (.int .u16 l)], [] => some (debounces_res u d l)
  | _, _ => none
def debounces_e : Ent := ⟨10, [], debounces_go⟩
def debounces_L1_F (u : Int) (d : Int) (l : Int) (j : Int) (c : Int) (o : Bool) : St := ⟨78, [], [(34, (.one (.cel (.int .i64 j)))), (33, (.one (.cel (.int .i64 (((List.length [[(cond Bool.true (1 : Int) (0 : Int))], [(cond Bool.false (1 : Int) (0 : Int))]]) : Nat) : Int))))), (32, (.one (.cel (.row 0)))), (10, (.one (.cel (.ptr 0 0)))), (9, (.one (.cel (.int .i64 (Go.IntKind.wrap Go.IntKind.i64 ((Int.tmod (Go.IntKind.wrap Go.IntKind.i64 l) (1000 : Int)) + (1 : Int))))))), (8, (.one (.cel (.int .i64 (Go.IntKind.wrap Go.IntKind.i64 ((Int.tmod (Go.IntKind.wrap Go.IntKind.i64 d) (1000 : Int)) + (1 : Int))))))), (7, (.one (.cel (.int .i64 (Go.IntKind.wrap Go.IntKind.i64 ((Int.tmod (Go.IntKind.wrap Go.IntKind.i64 u) (1000 : Int)) + (1 : Int))))))), (6, (.one (.cel (.bool Bool.false))))], [[(.int .i64 c), (.bool o)]], [⟨(.recs [.bool] [[(cond Bool.true (1 : Int) (0 : Int))], [(cond Bool.false (1 : Int) (0 : Int))]]), some 4⟩]⟩
def debounces_L1_I (u : Int) (d : Int) (l : Int) (j : Int) (c : Int) (o : Bool) : Prop := ((j = 0 ∧ c = 0 ∧ o = false) ∨ (j = 1 ∧ c = l % 1000 + 1 ∧ o = true) ∨ (j = 2 ∧ c = 0 ∧ o = false))
def debounces_L1_m (u : Int) (d : Int) (l : Int) (j : Int) (c : Int) (o : Bool) : Nat := (2 - j).toNat
def debounces_L1_N (u : Int) (d : Int) (l : Int) (j' : Int) (c' : Int) (o' : Bool) (st_ : St) : Prop := getI st_ 34 fun j => getCI st_ 0 0 fun c => getCB st_ 0 1 fun o => debounces_L1_I u d l j c o ∧ debounces_L1_m u d l j c o < debounces_L1_m u d l j' c' o' ∧ SubA st_ (debounces_L1_F u d l j c o)
def debounces_L1_E (u : Int) (d : Int) (l : Int) (st_ : St) : Prop := getI st_ 34 fun j => getCI st_ 0 0 fun c => getCB st_ 0 1 fun o => debounces_L1_I u d l j c o ∧ SubA st_ (debounces_L1_F u d l j c o)
def debounces_L1_S1 (u : Int) (d : Int) (l : Int) : St := ⟨78, [], [(34, (.one (.cel (.int .i64 (0 : Int))))), (33, (.one (.cel (.int .i64 (((List.length [[(cond Bool.true (1 : Int) (0 : Int))], [(cond Bool.false (1 : Int) (0 : Int))]]) : Nat) : Int))))), (32, (.one (.cel (.row 0)))), (10, (.one (.cel (.ptr 0 0)))), (9, (.one (.cel (.int .i64 (Go.IntKind.wrap Go.IntKind.i64 ((Int.tmod (Go.IntKind.wrap Go.IntKind.i64 l) (1000 : Int)) + (1 : Int))))))), (8, (.one (.cel (.int .i64 (Go.IntKind.wrap Go.IntKind.i64 ((Int.tmod (Go.IntKind.wrap Go.IntKind.i64 d) (1000 : Int)) + (1 : Int))))))), (7, (.one (.cel (.int .i64 (Go.IntKind.wrap Go.IntKind.i64 ((Int.tmod (Go.IntKind.wrap Go.IntKind.i64 u) (1000 : Int)) + (1 : Int))))))), (31, (.one (.cel (.int .i64 (Go.IntKind.wrap Go.IntKind.i64 ((Int.tmod (Go.IntKind.wrap Go.IntKind.i64 l) (1000 : Int)) + (1 : Int))))))), (30, (.one (.cel (.int .i64 (Int.tmod (Go.IntKind.wrap Go.IntKind.i64 l) (1000 : Int)))))), (29, (.one (.cel (.int .i64 (Go.IntKind.wrap Go.IntKind.i64 l))))), (28, (.one (.cel (.int .u16 l)))), (27, (.one (.cel (.int .i64 (Go.IntKind.wrap Go.IntKind.i64 ((Int.tmod (Go.IntKind.wrap Go.IntKind.i64 d) (1000 : Int)) + (1 : Int))))))), (26, (.one (.cel (.int .i64 (Int.tmod (Go.IntKind.wrap Go.IntKind.i64 d) (1000 : Int)))))), (25, (.one (.cel (.int .i64 (Go.IntKind.wrap Go.IntKind.i64 d))))), (24, (.one (.cel (.int .u16 d)))), (23, (.one (.cel (.int .i64 (Go.IntKind.wrap Go.IntKind.i64 ((Int.tmod (Go.IntKind.wrap Go.IntKind.i64 u) (1000 : Int)) + (1 : Int))))))), (22, (.one (.cel (.int .i64 (Int.tmod (Go.IntKind.wrap Go.IntKind.i64 u) (1000 : Int)))))), (21, (.one (.cel (.int .i64 (Go.IntKind.wrap Go.IntKind.i64 u))))), (20, (.one (.cel (.int .u16 u)))), (19, (.one (.cel (.bool (!Bool.true))))), (18, (.one (.cel (.bool Bool.true)))), (6, (.one (.cel (.bool Bool.false)))), (0, (.one (.cel (.int .u16 u)))), (1, (.one (.cel (.int .u16 d)))), (2, (.one (.cel (.int .u16 l))))], [[(.int .i64 (0 : Int)), (.bool Bool.false)]], [⟨(.recs [.bool] [[(cond Bool.true (1 : Int) (0 : Int))], [(cond Bool.false (1 : Int) (0 : Int))]]), some 4⟩]⟩
def debounces_L2_F (u : Int) (d : Int) (l : Int) (j : Int) (c : Int) (o : Bool) (i : Int) (st : Int) (nd : Int) (c2 : Int) (o2 : Bool) : St := ⟨78, [], [(15, (.one (.cel (.int .i64 i)))), (14, (.one (.cel (.int .i64 nd)))), (41, (.one (.cel (.int .i64 (Go.IntKind.wrap Go.IntKind.i64 ((Int.tmod (Go.IntKind.wrap Go.IntKind.i64 l) (1000 : Int)) + (1 : Int))))))), (13, (.one (.cel (.int .i64 st)))), (39, (.one (.cel (.bool (decide ((List.getD (List.getD [[(cond Bool.true (1 : Int) (0 : Int))], [(cond Bool.false (1 : Int) (0 : Int))]] (Int.toNat j) []) 0 (0 : Int)) ≠ (0 : Int))))))), (38, (.one (.cel (.int .i64 (Go.IntKind.wrap Go.IntKind.i64 ((Int.tmod (Go.IntKind.wrap Go.IntKind.i64 d) (1000 : Int)) + (1 : Int))))))), (12, (.one (.cel (.bool (decide ((List.getD (List.getD [[(cond Bool.true (1 : Int) (0 : Int))], [(cond Bool.false (1 : Int) (0 : Int))]] (Int.toNat j) []) 0 (0 : Int)) ≠ (0 : Int))))))), (37, (.one (.cel (.bool (decide ((List.getD (List.getD [[(cond Bool.true (1 : Int) (0 : Int))], [(cond Bool.false (1 : Int) (0 : Int))]] (Int.toNat j) []) 0 (0 : Int)) ≠ (0 : Int))))))), (36, (.one (.cel (.elt 0 j 1 0)))), (35, (.one (.cel (.bool (decide (j < (((List.length [[(cond Bool.true (1 : Int) (0 : Int))], [(cond Bool.false (1 : Int) (0 : Int))]]) : Nat) : Int))))))), (34, (.one (.cel (.int .i64 j)))), (33, (.one (.cel (.int .i64 (((List.length [[(cond Bool.true (1 : Int) (0 : Int))], [(cond Bool.false (1 : Int) (0 : Int))]]) : Nat) : Int))))), (32, (.one (.cel (.row 0)))), (10, (.one (.cel (.ptr 0 0)))), (9, (.one (.cel (.int .i64 (Go.IntKind.wrap Go.IntKind.i64 ((Int.tmod (Go.IntKind.wrap Go.IntKind.i64 l) (1000 : Int)) + (1 : Int))))))), (8, (.one (.cel (.int .i64 (Go.IntKind.wrap Go.IntKind.i64 ((Int.tmod (Go.IntKind.wrap Go.IntKind.i64 d) (1000 : Int)) + (1 : Int))))))), (7, (.one (.cel (.int .i64 (Go.IntKind.wrap Go.IntKind.i64 ((Int.tmod (Go.IntKind.wrap Go.IntKind.i64 u) (1000 : Int)) + (1 : Int))))))), (6, (.one (.cel (.bool Bool.false))))], [[(.int .i64 c2), (.bool o2)]], [⟨(.recs [.bool] [[(cond Bool.true (1 : Int) (0 : Int))], [(cond Bool.false (1 : Int) (0 : Int))]]), some 4⟩]⟩
def debounces_L2_I (u : Int) (d : Int) (l : Int) (j : Int) (c : Int) (o : Bool) (i : Int) (st : Int) (nd : Int) (c2 : Int) (o2 : Bool) : Prop := ((j = 0 ∧ st = u % 1000 + 1) ∨ (j = 1 ∧ st = d % 1000 + 1)) ∧ (1 ≤ i ∧ i ≤ nd + 1 ∧ nd = (l % 1000 + 1 + st - 1) / st) ∧ (j = 0 → c2 = min (l % 1000 + 1) ((i - 1) * st) ∧ o2 = decide (i - 1 = nd)) ∧ (j = 1 → c2 = max 0 (l % 1000 + 1 - (i - 1) * st) ∧ o2 = !decide (i - 1 = nd))
def debounces_L2_m (u : Int) (d : Int) (l : Int) (j : Int) (c : Int) (o : Bool) (i : Int) (st : Int) (nd : Int) (c2 : Int) (o2 : Bool) : Nat := (nd + 1 - i).toNat
def debounces_L2_N (u : Int) (d : Int) (l : Int) (j : Int) (c : Int) (o : Bool) (i' : Int) (st' : Int) (nd' : Int) (c2' : Int) (o2' : Bool) (st_ : St) : Prop := getI st_ 15 fun i => getI st_ 13 fun st => getI st_ 14 fun nd => getCI st_ 0 0 fun c2 => getCB st_ 0 1 fun o2 => debounces_L2_I u d l j c o i st nd c2 o2 ∧ debounces_L2_m u d l j c o i st nd c2 o2 < debounces_L2_m u d l j c o i' st' nd' c2' o2' ∧ SubA st_ (debounces_L2_F u d l j c o i st nd c2 o2)
def debounces_L2_E (u : Int) (d : Int) (l : Int) (j : Int) (c : Int) (o : Bool) (st_ : St) : Prop := getI st_ 15 fun i => getI st_ 13 fun st => getI st_ 14 fun nd => getCI st_ 0 0 fun c2 => getCB st_ 0 1 fun o2 => debounces_L2_I u d l j c o i st nd c2 o2 ∧ SubA st_ (debounces_L2_F u d l j c o i st nd c2 o2)
def debounces_L2_S1 (u : Int) (d : Int) (l : Int) (j : Int) (c : Int) (o : Bool) : St := ⟨78, [], [(15, (.one (.cel (.int .i64 (1 : Int))))), (14, (.one (.cel (.int .i64 (Go.IntKind.wrap Go.IntKind.i64 (Int.tdiv (Go.IntKind.wrap Go.IntKind.i64 ((Go.IntKind.wrap Go.IntKind.i64 ((Go.IntKind.wrap Go.IntKind.i64 ((Int.tmod (Go.IntKind.wrap Go.IntKind.i64 l) (1000 : Int)) + (1 : Int))) + (Go.IntKind.wrap Go.IntKind.i64 ((Int.tmod (Go.IntKind.wrap Go.IntKind.i64 u) (1000 : Int)) + (1 : Int))))) - (1 : Int))) (Go.IntKind.wrap Go.IntKind.i64 ((Int.tmod (Go.IntKind.wrap Go.IntKind.i64 u) (1000 : Int)) + (1 : Int))))))))), (46, (.one (.cel (.int .i64 (Go.IntKind.wrap Go.IntKind.i64 (Int.tdiv (Go.IntKind.wrap Go.IntKind.i64 ((Go.IntKind.wrap Go.IntKind.i64 ((Go.IntKind.wrap Go.IntKind.i64 ((Int.tmod (Go.IntKind.wrap Go.IntKind.i64 l) (1000 : Int)) + (1 : Int))) + (Go.IntKind.wrap Go.IntKind.i64 ((Int.tmod (Go.IntKind.wrap Go.IntKind.i64 u) (1000 : Int)) + (1 : Int))))) - (1 : Int))) (Go.IntKind.wrap Go.IntKind.i64 ((Int.tmod (Go.IntKind.wrap Go.IntKind.i64 u) (1000 : Int)) + (1 : Int))))))))), (45, (.one (.cel (.int .i64 (Go.IntKind.wrap Go.IntKind.i64 ((Int.tmod (Go.IntKind.wrap Go.IntKind.i64 u) (1000 : Int)) + (1 : Int))))))), (44, (.one (.cel (.int .i64 (Go.IntKind.wrap Go.IntKind.i64 ((Go.IntKind.wrap Go.IntKind.i64 ((Go.IntKind.wrap Go.IntKind.i64 ((Int.tmod (Go.IntKind.wrap Go.IntKind.i64 l) (1000 : Int)) + (1 : Int))) + (Go.IntKind.wrap Go.IntKind.i64 ((Int.tmod (Go.IntKind.wrap Go.IntKind.i64 u) (1000 : Int)) + (1 : Int))))) - (1 : Int))))))), (43, (.one (.cel (.int .i64 (Go.IntKind.wrap Go.IntKind.i64 ((Go.IntKind.wrap Go.IntKind.i64 ((Int.tmod (Go.IntKind.wrap Go.IntKind.i64 l) (1000 : Int)) + (1 : Int))) + (Go.IntKind.wrap Go.IntKind.i64 ((Int.tmod (Go.IntKind.wrap Go.IntKind.i64 u) (1000 : Int)) + (1 : Int))))))))), (42, (.one (.cel (.int .i64 (Go.IntKind.wrap Go.IntKind.i64 ((Int.tmod (Go.IntKind.wrap Go.IntKind.i64 u) (1000 : Int)) + (1 : Int))))))), (41, (.one (.cel (.int .i64 (Go.IntKind.wrap Go.IntKind.i64 ((Int.tmod (Go.IntKind.wrap Go.IntKind.i64 l) (1000 : Int)) + (1 : Int))))))), (13, (.one (.cel (.int .i64 (Go.IntKind.wrap Go.IntKind.i64 ((Int.tmod (Go.IntKind.wrap Go.IntKind.i64 u) (1000 : Int)) + (1 : Int))))))), (40, (.one (.cel (.int .i64 (Go.IntKind.wrap Go.IntKind.i64 ((Int.tmod (Go.IntKind.wrap Go.IntKind.i64 u) (1000 : Int)) + (1 : Int))))))), (39, (.one (.cel (.bool (decide ((List.getD (List.getD [[(cond Bool.true (1 : Int) (0 : Int))], [(cond Bool.false (1 : Int) (0 : Int))]] (Int.toNat j) []) 0 (0 : Int)) ≠ (0 : Int))))))), (13, (.one (.cel (.int .i64 (Go.IntKind.wrap Go.IntKind.i64 ((Int.tmod (Go.IntKind.wrap Go.IntKind.i64 d) (1000 : Int)) + (1 : Int))))))), (38, (.one (.cel (.int .i64 (Go.IntKind.wrap Go.IntKind.i64 ((Int.tmod (Go.IntKind.wrap Go.IntKind.i64 d) (1000 : Int)) + (1 : Int))))))), (12, (.one (.cel (.bool (decide ((List.getD (List.getD [[(cond Bool.true (1 : Int) (0 : Int))], [(cond Bool.false (1 : Int) (0 : Int))]] (Int.toNat j) []) 0 (0 : Int)) ≠ (0 : Int))))))), (37, (.one (.cel (.bool (decide ((List.getD (List.getD [[(cond Bool.true (1 : Int) (0 : Int))], [(cond Bool.false (1 : Int) (0 : Int))]] (Int.toNat j) []) 0 (0 : Int)) ≠ (0 : Int))))))), (36, (.one (.cel (.elt 0 j 1 0)))), (35, (.one (.cel (.bool (decide (j < (((List.length [[(cond Bool.true (1 : Int) (0 : Int))], [(cond Bool.false (1 : Int) (0 : Int))]]) : Nat) : Int))))))), (34, (.one (.cel (.int .i64 j)))), (33, (.one (.cel (.int .i64 (((List.length [[(cond Bool.true (1 : Int) (0 : Int))], [(cond Bool.false (1 : Int) (0 : Int))]]) : Nat) : Int))))), (32, (.one (.cel (.row 0)))), (10, (.one (.cel (.ptr 0 0)))), (9, (.one (.cel (.int .i64 (Go.IntKind.wrap Go.IntKind.i64 ((Int.tmod (Go.IntKind.wrap Go.IntKind.i64 l) (1000 : Int)) + (1 : Int))))))), (8, (.one (.cel (.int .i64 (Go.IntKind.wrap Go.IntKind.i64 ((Int.tmod (Go.IntKind.wrap Go.IntKind.i64 d) (1000 : Int)) + (1 : Int))))))), (7, (.one (.cel (.int .i64 (Go.IntKind.wrap Go.IntKind.i64 ((Int.tmod (Go.IntKind.wrap Go.IntKind.i64 u) (1000 : Int)) + (1 : Int))))))), (6, (.one (.cel (.bool Bool.false))))], [[(.int .i64 c), (.bool o)]], [⟨(.recs [.bool] [[(cond Bool.true (1 : Int) (0 : Int))], [(cond Bool.false (1 : Int) (0 : Int))]]), some 4⟩]⟩
def debounces_L2_S2 (u : Int) (d : Int) (l : Int) (j : Int) (c : Int) (o : Bool) : St := ⟨78, [], [(15, (.one (.cel (.int .i64 (1 : Int))))), (14, (.one (.cel (.int .i64 (Go.IntKind.wrap Go.IntKind.i64 (Int.tdiv (Go.IntKind.wrap Go.IntKind.i64 ((Go.IntKind.wrap Go.IntKind.i64 ((Go.IntKind.wrap Go.IntKind.i64 ((Int.tmod (Go.IntKind.wrap Go.IntKind.i64 l) (1000 : Int)) + (1 : Int))) + (Go.IntKind.wrap Go.IntKind.i64 ((Int.tmod (Go.IntKind.wrap Go.IntKind.i64 d) (1000 : Int)) + (1 : Int))))) - (1 : Int))) (Go.IntKind.wrap Go.IntKind.i64 ((Int.tmod (Go.IntKind.wrap Go.IntKind.i64 d) (1000 : Int)) + (1 : Int))))))))), (46, (.one (.cel (.int .i64 (Go.IntKind.wrap Go.IntKind.i64 (Int.tdiv (Go.IntKind.wrap Go.IntKind.i64 ((Go.IntKind.wrap Go.IntKind.i64 ((Go.IntKind.wrap Go.IntKind.i64 ((Int.tmod (Go.IntKind.wrap Go.IntKind.i64 l) (1000 : Int)) + (1 : Int))) + (Go.IntKind.wrap Go.IntKind.i64 ((Int.tmod (Go.IntKind.wrap Go.IntKind.i64 d) (1000 : Int)) + (1 : Int))))) - (1 : Int))) (Go.IntKind.wrap Go.IntKind.i64 ((Int.tmod (Go.IntKind.wrap Go.IntKind.i64 d) (1000 : Int)) + (1 : Int))))))))), (45, (.one (.cel (.int .i64 (Go.IntKind.wrap Go.IntKind.i64 ((Int.tmod (Go.IntKind.wrap Go.IntKind.i64 d) (1000 : Int)) + (1 : Int))))))), (44, (.one (.cel (.int .i64 (Go.IntKind.wrap Go.IntKind.i64 ((Go.IntKind.wrap Go.IntKind.i64 ((Go.IntKind.wrap Go.IntKind.i64 ((Int.tmod (Go.IntKind.wrap Go.IntKind.i64 l) (1000 : Int)) + (1 : Int))) + (Go.IntKind.wrap Go.IntKind.i64 ((Int.tmod (Go.IntKind.wrap Go.IntKind.i64 d) (1000 : Int)) + (1 : Int))))) - (1 : Int))))))), (43, (.one (.cel (.int .i64 (Go.IntKind.wrap Go.IntKind.i64 ((Go.IntKind.wrap Go.IntKind.i64 ((Int.tmod (Go.IntKind.wrap Go.IntKind.i64 l) (1000 : Int)) + (1 : Int))) + (Go.IntKind.wrap Go.IntKind.i64 ((Int.tmod (Go.IntKind.wrap Go.IntKind.i64 d) (1000 : Int)) + (1 : Int))))))))), (42, (.one (.cel (.int .i64 (Go.IntKind.wrap Go.IntKind.i64 ((Int.tmod (Go.IntKind.wrap Go.IntKind.i64 d) (1000 : Int)) + (1 : Int))))))), (41, (.one (.cel (.int .i64 (Go.IntKind.wrap Go.IntKind.i64 ((Int.tmod (Go.IntKind.wrap Go.IntKind.i64 l) (1000 : Int)) + (1 : Int))))))), (39, (.one (.cel (.bool (decide ((List.getD (List.getD [[(cond Bool.true (1 : Int) (0 : Int))], [(cond Bool.false (1 : Int) (0 : Int))]] (Int.toNat j) []) 0 (0 : Int)) ≠ (0 : Int))))))), (13, (.one (.cel (.int .i64 (Go.IntKind.wrap Go.IntKind.i64 ((Int.tmod (Go.IntKind.wrap Go.IntKind.i64 d) (1000 : Int)) + (1 : Int))))))), (38, (.one (.cel (.int .i64 (Go.IntKind.wrap Go.IntKind.i64 ((Int.tmod (Go.IntKind.wrap Go.IntKind.i64 d) (1000 : Int)) + (1 : Int))))))), (12, (.one (.cel (.bool (decide ((List.getD (List.getD [[(cond Bool.true (1 : Int) (0 : Int))], [(cond Bool.false (1 : Int) (0 : Int))]] (Int.toNat j) []) 0 (0 : Int)) ≠ (0 : Int))))))), (37, (.one (.cel (.bool (decide ((List.getD (List.getD [[(cond Bool.true (1 : Int) (0 : Int))], [(cond Bool.false (1 : Int) (0 : Int))]] (Int.toNat j) []) 0 (0 : Int)) ≠ (0 : Int))))))), (36, (.one (.cel (.elt 0 j 1 0)))), (35, (.one (.cel (.bool (decide (j < (((List.length [[(cond Bool.true (1 : Int) (0 : Int))], [(cond Bool.false (1 : Int) (0 : Int))]]) : Nat) : Int))))))), (34, (.one (.cel (.int .i64 j)))), (33, (.one (.cel (.int .i64 (((List.length [[(cond Bool.true (1 : Int) (0 : Int))], [(cond Bool.false (1 : Int) (0 : Int))]]) : Nat) : Int))))), (32, (.one (.cel (.row 0)))), (10, (.one (.cel (.ptr 0 0)))), (9, (.one (.cel (.int .i64 (Go.IntKind.wrap Go.IntKind.i64 ((Int.tmod (Go.IntKind.wrap Go.IntKind.i64 l) (1000 : Int)) + (1 : Int))))))), (8, (.one (.cel (.int .i64 (Go.IntKind.wrap Go.IntKind.i64 ((Int.tmod (Go.IntKind.wrap Go.IntKind.i64 d) (1000 : Int)) + (1 : Int))))))), (7, (.one (.cel (.int .i64 (Go.IntKind.wrap Go.IntKind.i64 ((Int.tmod (Go.IntKind.wrap Go.IntKind.i64 u) (1000 : Int)) + (1 : Int))))))), (6, (.one (.cel (.bool Bool.false))))], [[(.int .i64 c), (.bool o)]], [⟨(.recs [.bool] [[(cond Bool.true (1 : Int) (0 : Int))], [(cond Bool.false (1 : Int) (0 : Int))]]), some 4⟩]⟩
def debounces_L2_T (u : Int) (d : Int) (l : Int) (j : Int) (c : Int) (o : Bool) (i : Int) (st : Int) (nd : Int) (c2 : Int) (o2 : Bool) : Prop := (cnd (decide (i ≤ nd))
  (cnd ((!(decide ((bE c2 (Go.IntKind.wrap Go.IntKind.i64 ((Int.tmod (Go.IntKind.wrap Go.IntKind.i64 u) (1000 : Int)) + (1 : Int))) (Go.IntKind.wrap Go.IntKind.i64 ((Int.tmod (Go.IntKind.wrap Go.IntKind.i64 d) (1000 : Int)) + (1 : Int))) (Go.IntKind.wrap Go.IntKind.i64 ((Int.tmod (Go.IntKind.wrap Go.IntKind.i64 l) (1000 : Int)) + (1 : Int)))) = (0 : Int)))) || (!((bO c2 o2 (decide ((List.getD (List.getD [[(cond Bool.true (1 : Int) (0 : Int))], [(cond Bool.false (1 : Int) (0 : Int))]] (Int.toNat j) []) 0 (0 : Int)) ≠ (0 : Int))) (Go.IntKind.wrap Go.IntKind.i64 ((Int.tmod (Go.IntKind.wrap Go.IntKind.i64 u) (1000 : Int)) + (1 : Int))) (Go.IntKind.wrap Go.IntKind.i64 ((Int.tmod (Go.IntKind.wrap Go.IntKind.i64 d) (1000 : Int)) + (1 : Int))) (Go.IntKind.wrap Go.IntKind.i64 ((Int.tmod (Go.IntKind.wrap Go.IntKind.i64 l) (1000 : Int)) + (1 : Int)))) == ((decide ((List.getD (List.getD [[(cond Bool.true (1 : Int) (0 : Int))], [(cond Bool.false (1 : Int) (0 : Int))]] (Int.toNat j) []) 0 (0 : Int)) ≠ (0 : Int))) == (decide (i = nd))))))
    (Bool.false = Bool.true)
    ((debounces_L2_I u d l j c o (Go.IntKind.wrap Go.IntKind.i64 (i + (1 : Int))) st nd (bC c2 (decide ((List.getD (List.getD [[(cond Bool.true (1 : Int) (0 : Int))], [(cond Bool.false (1 : Int) (0 : Int))]] (Int.toNat j) []) 0 (0 : Int)) ≠ (0 : Int))) (Go.IntKind.wrap Go.IntKind.i64 ((Int.tmod (Go.IntKind.wrap Go.IntKind.i64 u) (1000 : Int)) + (1 : Int))) (Go.IntKind.wrap Go.IntKind.i64 ((Int.tmod (Go.IntKind.wrap Go.IntKind.i64 d) (1000 : Int)) + (1 : Int))) (Go.IntKind.wrap Go.IntKind.i64 ((Int.tmod (Go.IntKind.wrap Go.IntKind.i64 l) (1000 : Int)) + (1 : Int)))) (bO c2 o2 (decide ((List.getD (List.getD [[(cond Bool.true (1 : Int) (0 : Int))], [(cond Bool.false (1 : Int) (0 : Int))]] (Int.toNat j) []) 0 (0 : Int)) ≠ (0 : Int))) (Go.IntKind.wrap Go.IntKind.i64 ((Int.tmod (Go.IntKind.wrap Go.IntKind.i64 u) (1000 : Int)) + (1 : Int))) (Go.IntKind.wrap Go.IntKind.i64 ((Int.tmod (Go.IntKind.wrap Go.IntKind.i64 d) (1000 : Int)) + (1 : Int))) (Go.IntKind.wrap Go.IntKind.i64 ((Int.tmod (Go.IntKind.wrap Go.IntKind.i64 l) (1000 : Int)) + (1 : Int))))) ∧ (((debounces_L2_m u d l j c o (Go.IntKind.wrap Go.IntKind.i64 (i + (1 : Int))) st nd (bC c2 (decide ((List.getD (List.getD [[(cond Bool.true (1 : Int) (0 : Int))], [(cond Bool.false (1 : Int) (0 : Int))]] (Int.toNat j) []) 0 (0 : Int)) ≠ (0 : Int))) (Go.IntKind.wrap Go.IntKind.i64 ((Int.tmod (Go.IntKind.wrap Go.IntKind.i64 u) (1000 : Int)) + (1 : Int))) (Go.IntKind.wrap Go.IntKind.i64 ((Int.tmod (Go.IntKind.wrap Go.IntKind.i64 d) (1000 : Int)) + (1 : Int))) (Go.IntKind.wrap Go.IntKind.i64 ((Int.tmod (Go.IntKind.wrap Go.IntKind.i64 l) (1000 : Int)) + (1 : Int)))) (bO c2 o2 (decide ((List.getD (List.getD [[(cond Bool.true (1 : Int) (0 : Int))], [(cond Bool.false (1 : Int) (0 : Int))]] (Int.toNat j) []) 0 (0 : Int)) ≠ (0 : Int))) (Go.IntKind.wrap Go.IntKind.i64 ((Int.tmod (Go.IntKind.wrap Go.IntKind.i64 u) (1000 : Int)) + (1 : Int))) (Go.IntKind.wrap Go.IntKind.i64 ((Int.tmod (Go.IntKind.wrap Go.IntKind.i64 d) (1000 : Int)) + (1 : Int))) (Go.IntKind.wrap Go.IntKind.i64 ((Int.tmod (Go.IntKind.wrap Go.IntKind.i64 l) (1000 : Int)) + (1 : Int))))) < (debounces_L2_m u d l j c o i st nd c2 o2)) ∧ (((Go.IntKind.wrap Go.IntKind.i64 (i + (1 : Int))) = (Go.IntKind.wrap Go.IntKind.i64 (i + (1 : Int)))) ∧ ((nd = nd) ∧ (((Go.IntKind.wrap Go.IntKind.i64 ((Int.tmod (Go.IntKind.wrap Go.IntKind.i64 l) (1000 : Int)) + (1 : Int))) = (Go.IntKind.wrap Go.IntKind.i64 ((Int.tmod (Go.IntKind.wrap Go.IntKind.i64 l) (1000 : Int)) + (1 : Int)))) ∧ ((st = st) ∧ (((decide ((List.getD (List.getD [[(cond Bool.true (1 : Int) (0 : Int))], [(cond Bool.false (1 : Int) (0 : Int))]] (Int.toNat j) []) 0 (0 : Int)) ≠ (0 : Int))) = (decide ((List.getD (List.getD [[(cond Bool.true (1 : Int) (0 : Int))], [(cond Bool.false (1 : Int) (0 : Int))]] (Int.toNat j) []) 0 (0 : Int)) ≠ (0 : Int)))) ∧ (((Go.IntKind.wrap Go.IntKind.i64 ((Int.tmod (Go.IntKind.wrap Go.IntKind.i64 d) (1000 : Int)) + (1 : Int))) = (Go.IntKind.wrap Go.IntKind.i64 ((Int.tmod (Go.IntKind.wrap Go.IntKind.i64 d) (1000 : Int)) + (1 : Int)))) ∧ (((decide ((List.getD (List.getD [[(cond Bool.true (1 : Int) (0 : Int))], [(cond Bool.false (1 : Int) (0 : Int))]] (Int.toNat j) []) 0 (0 : Int)) ≠ (0 : Int))) = (decide ((List.getD (List.getD [[(cond Bool.true (1 : Int) (0 : Int))], [(cond Bool.false (1 : Int) (0 : Int))]] (Int.toNat j) []) 0 (0 : Int)) ≠ (0 : Int)))) ∧ (((decide ((List.getD (List.getD [[(cond Bool.true (1 : Int) (0 : Int))], [(cond Bool.false (1 : Int) (0 : Int))]] (Int.toNat j) []) 0 (0 : Int)) ≠ (0 : Int))) = (decide ((List.getD (List.getD [[(cond Bool.true (1 : Int) (0 : Int))], [(cond Bool.false (1 : Int) (0 : Int))]] (Int.toNat j) []) 0 (0 : Int)) ≠ (0 : Int)))) ∧ ((j = j) ∧ (((decide (j < (((List.length [[(cond Bool.true (1 : Int) (0 : Int))], [(cond Bool.false (1 : Int) (0 : Int))]]) : Nat) : Int))) = (decide (j < (((List.length [[(cond Bool.true (1 : Int) (0 : Int))], [(cond Bool.false (1 : Int) (0 : Int))]]) : Nat) : Int)))) ∧ ((j = j) ∧ (((((List.length [[(cond Bool.true (1 : Int) (0 : Int))], [(cond Bool.false (1 : Int) (0 : Int))]]) : Nat) : Int) = (((List.length [[(cond Bool.true (1 : Int) (0 : Int))], [(cond Bool.false (1 : Int) (0 : Int))]]) : Nat) : Int)) ∧ (True ∧ (True ∧ (((Go.IntKind.wrap Go.IntKind.i64 ((Int.tmod (Go.IntKind.wrap Go.IntKind.i64 l) (1000 : Int)) + (1 : Int))) = (Go.IntKind.wrap Go.IntKind.i64 ((Int.tmod (Go.IntKind.wrap Go.IntKind.i64 l) (1000 : Int)) + (1 : Int)))) ∧ (((Go.IntKind.wrap Go.IntKind.i64 ((Int.tmod (Go.IntKind.wrap Go.IntKind.i64 d) (1000 : Int)) + (1 : Int))) = (Go.IntKind.wrap Go.IntKind.i64 ((Int.tmod (Go.IntKind.wrap Go.IntKind.i64 d) (1000 : Int)) + (1 : Int)))) ∧ (((Go.IntKind.wrap Go.IntKind.i64 ((Int.tmod (Go.IntKind.wrap Go.IntKind.i64 u) (1000 : Int)) + (1 : Int))) = (Go.IntKind.wrap Go.IntKind.i64 ((Int.tmod (Go.IntKind.wrap Go.IntKind.i64 u) (1000 : Int)) + (1 : Int)))) ∧ ((Bool.false = Bool.false) ∧ ((((bC c2 (decide ((List.getD (List.getD [[(cond Bool.true (1 : Int) (0 : Int))], [(cond Bool.false (1 : Int) (0 : Int))]] (Int.toNat j) []) 0 (0 : Int)) ≠ (0 : Int))) (Go.IntKind.wrap Go.IntKind.i64 ((Int.tmod (Go.IntKind.wrap Go.IntKind.i64 u) (1000 : Int)) + (1 : Int))) (Go.IntKind.wrap Go.IntKind.i64 ((Int.tmod (Go.IntKind.wrap Go.IntKind.i64 d) (1000 : Int)) + (1 : Int))) (Go.IntKind.wrap Go.IntKind.i64 ((Int.tmod (Go.IntKind.wrap Go.IntKind.i64 l) (1000 : Int)) + (1 : Int)))) = (bC c2 (decide ((List.getD (List.getD [[(cond Bool.true (1 : Int) (0 : Int))], [(cond Bool.false (1 : Int) (0 : Int))]] (Int.toNat j) []) 0 (0 : Int)) ≠ (0 : Int))) (Go.IntKind.wrap Go.IntKind.i64 ((Int.tmod (Go.IntKind.wrap Go.IntKind.i64 u) (1000 : Int)) + (1 : Int))) (Go.IntKind.wrap Go.IntKind.i64 ((Int.tmod (Go.IntKind.wrap Go.IntKind.i64 d) (1000 : Int)) + (1 : Int))) (Go.IntKind.wrap Go.IntKind.i64 ((Int.tmod (Go.IntKind.wrap Go.IntKind.i64 l) (1000 : Int)) + (1 : Int))))) ∧ ((bO c2 o2 (decide ((List.getD (List.getD [[(cond Bool.true (1 : Int) (0 : Int))], [(cond Bool.false (1 : Int) (0 : Int))]] (Int.toNat j) []) 0 (0 : Int)) ≠ (0 : Int))) (Go.IntKind.wrap Go.IntKind.i64 ((Int.tmod (Go.IntKind.wrap Go.IntKind.i64 u) (1000 : Int)) + (1 : Int))) (Go.IntKind.wrap Go.IntKind.i64 ((Int.tmod (Go.IntKind.wrap Go.IntKind.i64 d) (1000 : Int)) + (1 : Int))) (Go.IntKind.wrap Go.IntKind.i64 ((Int.tmod (Go.IntKind.wrap Go.IntKind.i64 l) (1000 : Int)) + (1 : Int)))) = (bO c2 o2 (decide ((List.getD (List.getD [[(cond Bool.true (1 : Int) (0 : Int))], [(cond Bool.false (1 : Int) (0 : Int))]] (Int.toNat j) []) 0 (0 : Int)) ≠ (0 : Int))) (Go.IntKind.wrap Go.IntKind.i64 ((Int.tmod (Go.IntKind.wrap Go.IntKind.i64 u) (1000 : Int)) + (1 : Int))) (Go.IntKind.wrap Go.IntKind.i64 ((Int.tmod (Go.IntKind.wrap Go.IntKind.i64 d) (1000 : Int)) + (1 : Int))) (Go.IntKind.wrap Go.IntKind.i64 ((Int.tmod (Go.IntKind.wrap Go.IntKind.i64 l) (1000 : Int)) + (1 : Int)))))) ∧ (([[(cond Bool.true (1 : Int) (0 : Int))], [(cond Bool.false (1 : Int) (0 : Int))]] = [[(cond Bool.true (1 : Int) (0 : Int))], [(cond Bool.false (1 : Int) (0 : Int))]]) ∧ True)))))))))))))))))))))))
  ((debounces_L1_I u d l (Go.IntKind.wrap Go.IntKind.i64 (j + (1 : Int))) c2 o2) ∧ (((debounces_L1_m u d l (Go.IntKind.wrap Go.IntKind.i64 (j + (1 : Int))) c2 o2) < (debounces_L1_m u d l j c o)) ∧ (((Go.IntKind.wrap Go.IntKind.i64 (j + (1 : Int))) = (Go.IntKind.wrap Go.IntKind.i64 (j + (1 : Int)))) ∧ (((((List.length [[(cond Bool.true (1 : Int) (0 : Int))], [(cond Bool.false (1 : Int) (0 : Int))]]) : Nat) : Int) = (((List.length [[(cond Bool.true (1 : Int) (0 : Int))], [(cond Bool.false (1 : Int) (0 : Int))]]) : Nat) : Int)) ∧ (True ∧ (True ∧ (((Go.IntKind.wrap Go.IntKind.i64 ((Int.tmod (Go.IntKind.wrap Go.IntKind.i64 l) (1000 : Int)) + (1 : Int))) = (Go.IntKind.wrap Go.IntKind.i64 ((Int.tmod (Go.IntKind.wrap Go.IntKind.i64 l) (1000 : Int)) + (1 : Int)))) ∧ (((Go.IntKind.wrap Go.IntKind.i64 ((Int.tmod (Go.IntKind.wrap Go.IntKind.i64 d) (1000 : Int)) + (1 : Int))) = (Go.IntKind.wrap Go.IntKind.i64 ((Int.tmod (Go.IntKind.wrap Go.IntKind.i64 d) (1000 : Int)) + (1 : Int)))) ∧ (((Go.IntKind.wrap Go.IntKind.i64 ((Int.tmod (Go.IntKind.wrap Go.IntKind.i64 u) (1000 : Int)) + (1 : Int))) = (Go.IntKind.wrap Go.IntKind.i64 ((Int.tmod (Go.IntKind.wrap Go.IntKind.i64 u) (1000 : Int)) + (1 : Int)))) ∧ ((Bool.false = Bool.false) ∧ (((c2 = c2) ∧ (o2 = o2)) ∧ (([[(cond Bool.true (1 : Int) (0 : Int))], [(cond Bool.false (1 : Int) (0 : Int))]] = [[(cond Bool.true (1 : Int) (0 : Int))], [(cond Bool.false (1 : Int) (0 : Int))]]) ∧ True)))))))))))))
set_option maxRecDepth 100000 in
theorem debounces_L2_tree (u : Int) (d : Int) (l : Int) (j : Int) (c : Int) (o : Bool) (i : Int) (st : Int) (nd : Int) (c2 : Int) (o2 : Bool) : debounces_L2_T u d l j c o i st nd c2 o2 = ex Try.prog (conOf [awake_e, fbounce_e]) (subC (subC (bodyOf Try.f10) [1, 1, 1, 1, 0, 1, 0, 0]) [1, 1, 0, 0, 1, 1, 1, 1, 1, 0, 0]) (nextE (debounces_L2_N u d l j c o i st nd c2 o2) (kont Try.prog (conOf [awake_e, fbounce_e]) (subC (bodyOf Try.f10) [1, 1, 1, 1, 0, 1, 0, 0]) [1, 1, 0, 0, 1, 1, 1, 1, 1, 0] (nextE (debounces_L1_N u d l j c o) (kont Try.prog (conOf [awake_e, fbounce_e]) (bodyOf Try.f10) [1, 1, 1, 1, 0, 1, 0] (retPost Try.prog Try.f10 0 (debounces_res u d l)))))) (debounces_L2_F u d l j c o i st nd c2 o2) := by kernel_rfl
set_option maxRecDepth 100000 in
theorem debounces_L2_round (u : Int) (d : Int) (l : Int) (j : Int) (c : Int) (o : Bool) (i : Int) (st : Int) (nd : Int) (c2 : Int) (o2 : Bool) (p0 : wfI .u16 u = true) (p1 : wfI .u16 d = true) (p2 : wfI .u16 l = true) (hI_L1 : debounces_L1_I u d l j c o) (hI_L2 : debounces_L2_I u d l j c o i st nd c2 o2) : debounces_L2_T u d l j c o i st nd c2 o2 := by
  have hu := wfU16 p0
  have hd := wfU16 p1
  have hl := wfU16 p2
  obtain ⟨b1, ⟨b2, b3, b4⟩, b5, b6⟩ := hI_L2
  have hst : 1 ≤ st ∧ st ≤ 1000 := by omega
  obtain ⟨n1, n2, n3⟩ := need_spec (L := l % 1000 + 1) (st := st) (by omega) hst.1
  rw [← b4] at n1 n2 n3
  have hq := quo_bd (a := l % 1000 + 1 + st - 1) (b := st) (by omega) hst.1
  rw [← b4] at hq
  unfold debounces_L2_T
  rw [dn hu, dn hd, dn hl, w64 (n := i + 1) (by omega) (by omega), w64 (n := j + 1) (by omega) (by omega)]
  have eX : (i + 1 - 1) * st = (i - 1) * st + st := by rw [show i + 1 - 1 = (i - 1) + 1 by omega, Int.add_mul, Int.one_mul]
  have hX0 : 0 ≤ (i - 1) * st := Int.mul_nonneg (by omega) (by omega)
  by_cases hi : i ≤ nd
  · have hXn : (i - 1) * st ≤ (nd - 1) * st := Int.mul_le_mul_of_nonneg_right (by omega) (by omega)
    have hlt : i < nd → (i - 1) * st + st < l % 1000 + 1 := by
      intro h
      have h1 : i * st ≤ (nd - 1) * st := Int.mul_le_mul_of_nonneg_right (by omega) (by omega)
      have h2 : (i - 1) * st = i * st - st := by rw [Int.sub_mul, Int.one_mul]
      omega
    have heq : i = nd → l % 1000 + 1 ≤ (i - 1) * st + st := by
      intro h
      have h2 : (i - 1) * st = i * st - st := by rw [Int.sub_mul, Int.one_mul]
      rw [h2, h]
      omega
    generalize hX : (i - 1) * st = X at *
    rcases b1 with ⟨rfl, hs⟩ | ⟨rfl, hs⟩
    · obtain ⟨c1, c3⟩ := b5 rfl
      have e3 : decide (List.getD (List.getD [[cond true (1 : Int) (0 : Int)], [cond false (1 : Int) (0 : Int)]] (Int.toNat 0) []) 0 (0 : Int) ≠ (0 : Int)) = true := rfl
      rw [e3]
      have hz : bE c2 (u % 1000 + 1) (d % 1000 + 1) (l % 1000 + 1) = 0 := bE_zero.2 (by omega)
      have hK : bK c2 true (u % 1000 + 1) (d % 1000 + 1) (l % 1000 + 1) = min (l % 1000 + 1) (X + st) := by
        unfold bK
        rw [if_pos rfl, c1, ← hs]
        omega
      have hC : bC c2 true (u % 1000 + 1) (d % 1000 + 1) (l % 1000 + 1) = min (l % 1000 + 1) (X + st) := by unfold bC; rw [if_pos hz, hK]
      have hO : bO c2 o2 true (u % 1000 + 1) (d % 1000 + 1) (l % 1000 + 1) = decide (i = nd) := by
        unfold bO
        rw [if_pos hz, hK]
        by_cases h : i = nd
        · have := heq h
          rw [if_pos (by omega)]
          simp [h]
        · have := hlt (by omega)
          rw [if_neg (by omega), if_neg (by omega), c3]
          simp
          omega
      rw [hC, hO]
      simp only [hz, hi, decide_true, Bool.not_true, Bool.false_or, cnd, beq_t]
      refine ⟨⟨.inl ⟨rfl, hs⟩, ⟨by omega, by omega, b4⟩, fun _ => ⟨by rw [eX], by rw [show i + 1 - 1 = i by omega]⟩, fun h => absurd h (by decide)⟩, ?_, by simp⟩
      unfold debounces_L2_m
      omega
    · obtain ⟨c1, c3⟩ := b6 rfl
      have e3 : decide (List.getD (List.getD [[cond true (1 : Int) (0 : Int)], [cond false (1 : Int) (0 : Int)]] (Int.toNat 1) []) 0 (0 : Int) ≠ (0 : Int)) = false := rfl
      rw [e3]
      have hz : bE c2 (u % 1000 + 1) (d % 1000 + 1) (l % 1000 + 1) = 0 := bE_zero.2 (by omega)
      have hK : bK c2 false (u % 1000 + 1) (d % 1000 + 1) (l % 1000 + 1) = max 0 (l % 1000 + 1 - (X + st)) := by
        unfold bK
        rw [if_neg (by decide), c1, ← hs]
        omega
      have hC : bC c2 false (u % 1000 + 1) (d % 1000 + 1) (l % 1000 + 1) = max 0 (l % 1000 + 1 - (X + st)) := by unfold bC; rw [if_pos hz, hK]
      have hO : bO c2 o2 false (u % 1000 + 1) (d % 1000 + 1) (l % 1000 + 1) = !decide (i = nd) := by
        unfold bO
        rw [if_pos hz, hK]
        by_cases h : i = nd
        · have := heq h
          rw [if_neg (by omega), if_pos (by omega)]
          simp [h]
        · have := hlt (by omega)
          rw [if_neg (by omega), if_neg (by omega), c3]
          have h1 : ¬ i - 1 = nd := by omega
          simp [h, h1]
      rw [hC, hO]
      simp only [hz, hi, decide_true, Bool.not_true, Bool.false_or, cnd, beq_f]
      refine ⟨⟨.inr ⟨rfl, hs⟩, ⟨by omega, by omega, b4⟩, fun h => absurd h (by decide), fun _ => ⟨by rw [eX], by rw [show i + 1 - 1 = i by omega]⟩⟩, ?_, by simp⟩
      unfold debounces_L2_m
      omega
  · have hin : i - 1 = nd := by omega
    rw [hin] at b5 b6
    simp only [hi, decide_false, cnd]
    refine ⟨?_, ?_, by simp⟩
    · rcases b1 with ⟨rfl, hs⟩ | ⟨rfl, hs⟩
      · obtain ⟨c1, c3⟩ := b5 rfl
        exact .inr (.inl ⟨rfl, by omega, by rw [c3]; simp⟩)
      · obtain ⟨c1, c3⟩ := b6 rfl
        exact .inr (.inr ⟨rfl, by omega, by rw [c3]; simp⟩)
    · unfold debounces_L1_m
      omega
set_option maxRecDepth 100000 in
theorem debounces_L2_entry1 (u : Int) (d : Int) (l : Int) (j : Int) (c : Int) (o : Bool) : (((debounces_L2_I u d l j c o (1 : Int) (Go.IntKind.wrap Go.IntKind.i64 ((Int.tmod (Go.IntKind.wrap Go.IntKind.i64 u) (1000 : Int)) + (1 : Int))) (Go.IntKind.wrap Go.IntKind.i64 (Int.tdiv (Go.IntKind.wrap Go.IntKind.i64 ((Go.IntKind.wrap Go.IntKind.i64 ((Go.IntKind.wrap Go.IntKind.i64 ((Int.tmod (Go.IntKind.wrap Go.IntKind.i64 l) (1000 : Int)) + (1 : Int))) + (Go.IntKind.wrap Go.IntKind.i64 ((Int.tmod (Go.IntKind.wrap Go.IntKind.i64 u) (1000 : Int)) + (1 : Int))))) - (1 : Int))) (Go.IntKind.wrap Go.IntKind.i64 ((Int.tmod (Go.IntKind.wrap Go.IntKind.i64 u) (1000 : Int)) + (1 : Int))))) c o) ∧ (((1 : Int) = (1 : Int)) ∧ (((Go.IntKind.wrap Go.IntKind.i64 (Int.tdiv (Go.IntKind.wrap Go.IntKind.i64 ((Go.IntKind.wrap Go.IntKind.i64 ((Go.IntKind.wrap Go.IntKind.i64 ((Int.tmod (Go.IntKind.wrap Go.IntKind.i64 l) (1000 : Int)) + (1 : Int))) + (Go.IntKind.wrap Go.IntKind.i64 ((Int.tmod (Go.IntKind.wrap Go.IntKind.i64 u) (1000 : Int)) + (1 : Int))))) - (1 : Int))) (Go.IntKind.wrap Go.IntKind.i64 ((Int.tmod (Go.IntKind.wrap Go.IntKind.i64 u) (1000 : Int)) + (1 : Int))))) = (Go.IntKind.wrap Go.IntKind.i64 (Int.tdiv (Go.IntKind.wrap Go.IntKind.i64 ((Go.IntKind.wrap Go.IntKind.i64 ((Go.IntKind.wrap Go.IntKind.i64 ((Int.tmod (Go.IntKind.wrap Go.IntKind.i64 l) (1000 : Int)) + (1 : Int))) + (Go.IntKind.wrap Go.IntKind.i64 ((Int.tmod (Go.IntKind.wrap Go.IntKind.i64 u) (1000 : Int)) + (1 : Int))))) - (1 : Int))) (Go.IntKind.wrap Go.IntKind.i64 ((Int.tmod (Go.IntKind.wrap Go.IntKind.i64 u) (1000 : Int)) + (1 : Int)))))) ∧ (((Go.IntKind.wrap Go.IntKind.i64 ((Int.tmod (Go.IntKind.wrap Go.IntKind.i64 l) (1000 : Int)) + (1 : Int))) = (Go.IntKind.wrap Go.IntKind.i64 ((Int.tmod (Go.IntKind.wrap Go.IntKind.i64 l) (1000 : Int)) + (1 : Int)))) ∧ (((Go.IntKind.wrap Go.IntKind.i64 ((Int.tmod (Go.IntKind.wrap Go.IntKind.i64 u) (1000 : Int)) + (1 : Int))) = (Go.IntKind.wrap Go.IntKind.i64 ((Int.tmod (Go.IntKind.wrap Go.IntKind.i64 u) (1000 : Int)) + (1 : Int)))) ∧ (((decide ((List.getD (List.getD [[(cond Bool.true (1 : Int) (0 : Int))], [(cond Bool.false (1 : Int) (0 : Int))]] (Int.toNat j) []) 0 (0 : Int)) ≠ (0 : Int))) = (decide ((List.getD (List.getD [[(cond Bool.true (1 : Int) (0 : Int))], [(cond Bool.false (1 : Int) (0 : Int))]] (Int.toNat j) []) 0 (0 : Int)) ≠ (0 : Int)))) ∧ (((Go.IntKind.wrap Go.IntKind.i64 ((Int.tmod (Go.IntKind.wrap Go.IntKind.i64 d) (1000 : Int)) + (1 : Int))) = (Go.IntKind.wrap Go.IntKind.i64 ((Int.tmod (Go.IntKind.wrap Go.IntKind.i64 d) (1000 : Int)) + (1 : Int)))) ∧ (((decide ((List.getD (List.getD [[(cond Bool.true (1 : Int) (0 : Int))], [(cond Bool.false (1 : Int) (0 : Int))]] (Int.toNat j) []) 0 (0 : Int)) ≠ (0 : Int))) = (decide ((List.getD (List.getD [[(cond Bool.true (1 : Int) (0 : Int))], [(cond Bool.false (1 : Int) (0 : Int))]] (Int.toNat j) []) 0 (0 : Int)) ≠ (0 : Int)))) ∧ (((decide ((List.getD (List.getD [[(cond Bool.true (1 : Int) (0 : Int))], [(cond Bool.false (1 : Int) (0 : Int))]] (Int.toNat j) []) 0 (0 : Int)) ≠ (0 : Int))) = (decide ((List.getD (List.getD [[(cond Bool.true (1 : Int) (0 : Int))], [(cond Bool.false (1 : Int) (0 : Int))]] (Int.toNat j) []) 0 (0 : Int)) ≠ (0 : Int)))) ∧ ((j = j) ∧ (((decide (j < (((List.length [[(cond Bool.true (1 : Int) (0 : Int))], [(cond Bool.false (1 : Int) (0 : Int))]]) : Nat) : Int))) = (decide (j < (((List.length [[(cond Bool.true (1 : Int) (0 : Int))], [(cond Bool.false (1 : Int) (0 : Int))]]) : Nat) : Int)))) ∧ ((j = j) ∧ (((((List.length [[(cond Bool.true (1 : Int) (0 : Int))], [(cond Bool.false (1 : Int) (0 : Int))]]) : Nat) : Int) = (((List.length [[(cond Bool.true (1 : Int) (0 : Int))], [(cond Bool.false (1 : Int) (0 : Int))]]) : Nat) : Int)) ∧ (True ∧ (True ∧ (((Go.IntKind.wrap Go.IntKind.i64 ((Int.tmod (Go.IntKind.wrap Go.IntKind.i64 l) (1000 : Int)) + (1 : Int))) = (Go.IntKind.wrap Go.IntKind.i64 ((Int.tmod (Go.IntKind.wrap Go.IntKind.i64 l) (1000 : Int)) + (1 : Int)))) ∧ (((Go.IntKind.wrap Go.IntKind.i64 ((Int.tmod (Go.IntKind.wrap Go.IntKind.i64 d) (1000 : Int)) + (1 : Int))) = (Go.IntKind.wrap Go.IntKind.i64 ((Int.tmod (Go.IntKind.wrap Go.IntKind.i64 d) (1000 : Int)) + (1 : Int)))) ∧ (((Go.IntKind.wrap Go.IntKind.i64 ((Int.tmod (Go.IntKind.wrap Go.IntKind.i64 u) (1000 : Int)) + (1 : Int))) = (Go.IntKind.wrap Go.IntKind.i64 ((Int.tmod (Go.IntKind.wrap Go.IntKind.i64 u) (1000 : Int)) + (1 : Int)))) ∧ ((Bool.false = Bool.false) ∧ (((c = c) ∧ (o = o)) ∧ (([[(cond Bool.true (1 : Int) (0 : Int))], [(cond Bool.false (1 : Int) (0 : Int))]] = [[(cond Bool.true (1 : Int) (0 : Int))], [(cond Bool.false (1 : Int) (0 : Int))]]) ∧ True)))))))))))))))))))))) = debounces_L2_E u d l j c o (debounces_L2_S1 u d l j c o) := by kernel_rfl
theorem debounces_L2_1 (u : Int) (d : Int) (l : Int) (j : Int) (c : Int) (o : Bool) (p0 : wfI .u16 u = true) (p1 : wfI .u16 d = true) (p2 : wfI .u16 l = true) (hI_L1 : debounces_L1_I u d l j c o) (h : ((debounces_L2_I u d l j c o (1 : Int) (Go.IntKind.wrap Go.IntKind.i64 ((Int.tmod (Go.IntKind.wrap Go.IntKind.i64 u) (1000 : Int)) + (1 : Int))) (Go.IntKind.wrap Go.IntKind.i64 (Int.tdiv (Go.IntKind.wrap Go.IntKind.i64 ((Go.IntKind.wrap Go.IntKind.i64 ((Go.IntKind.wrap Go.IntKind.i64 ((Int.tmod (Go.IntKind.wrap Go.IntKind.i64 l) (1000 : Int)) + (1 : Int))) + (Go.IntKind.wrap Go.IntKind.i64 ((Int.tmod (Go.IntKind.wrap Go.IntKind.i64 u) (1000 : Int)) + (1 : Int))))) - (1 : Int))) (Go.IntKind.wrap Go.IntKind.i64 ((Int.tmod (Go.IntKind.wrap Go.IntKind.i64 u) (1000 : Int)) + (1 : Int))))) c o) ∧ (((1 : Int) = (1 : Int)) ∧ (((Go.IntKind.wrap Go.IntKind.i64 (Int.tdiv (Go.IntKind.wrap Go.IntKind.i64 ((Go.IntKind.wrap Go.IntKind.i64 ((Go.IntKind.wrap Go.IntKind.i64 ((Int.tmod (Go.IntKind.wrap Go.IntKind.i64 l) (1000 : Int)) + (1 : Int))) + (Go.IntKind.wrap Go.IntKind.i64 ((Int.tmod (Go.IntKind.wrap Go.IntKind.i64 u) (1000 : Int)) + (1 : Int))))) - (1 : Int))) (Go.IntKind.wrap Go.IntKind.i64 ((Int.tmod (Go.IntKind.wrap Go.IntKind.i64 u) (1000 : Int)) + (1 : Int))))) = (Go.IntKind.wrap Go.IntKind.i64 (Int.tdiv (Go.IntKind.wrap Go.IntKind.i64 ((Go.IntKind.wrap Go.IntKind.i64 ((Go.IntKind.wrap Go.IntKind.i64 ((Int.tmod (Go.IntKind.wrap Go.IntKind.i64 l) (1000 : Int)) + (1 : Int))) + (Go.IntKind.wrap Go.IntKind.i64 ((Int.tmod (Go.IntKind.wrap Go.IntKind.i64 u) (1000 : Int)) + (1 : Int))))) - (1 : Int))) (Go.IntKind.wrap Go.IntKind.i64 ((Int.tmod (Go.IntKind.wrap Go.IntKind.i64 u) (1000 : Int)) + (1 : Int)))))) ∧ (((Go.IntKind.wrap Go.IntKind.i64 ((Int.tmod (Go.IntKind.wrap Go.IntKind.i64 l) (1000 : Int)) + (1 : Int))) = (Go.IntKind.wrap Go.IntKind.i64 ((Int.tmod (Go.IntKind.wrap Go.IntKind.i64 l) (1000 : Int)) + (1 : Int)))) ∧ (((Go.IntKind.wrap Go.IntKind.i64 ((Int.tmod (Go.IntKind.wrap Go.IntKind.i64 u) (1000 : Int)) + (1 : Int))) = (Go.IntKind.wrap Go.IntKind.i64 ((Int.tmod (Go.IntKind.wrap Go.IntKind.i64 u) (1000 : Int)) + (1 : Int)))) ∧ (((decide ((List.getD (List.getD [[(cond Bool.true (1 : Int) (0 : Int))], [(cond Bool.false (1 : Int) (0 : Int))]] (Int.toNat j) []) 0 (0 : Int)) ≠ (0 : Int))) = (decide ((List.getD (List.getD [[(cond Bool.true (1 : Int) (0 : Int))], [(cond Bool.false (1 : Int) (0 : Int))]] (Int.toNat j) []) 0 (0 : Int)) ≠ (0 : Int)))) ∧ (((Go.IntKind.wrap Go.IntKind.i64 ((Int.tmod (Go.IntKind.wrap Go.IntKind.i64 d) (1000 : Int)) + (1 : Int))) = (Go.IntKind.wrap Go.IntKind.i64 ((Int.tmod (Go.IntKind.wrap Go.IntKind.i64 d) (1000 : Int)) + (1 : Int)))) ∧ (((decide ((List.getD (List.getD [[(cond Bool.true (1 : Int) (0 : Int))], [(cond Bool.false (1 : Int) (0 : Int))]] (Int.toNat j) []) 0 (0 : Int)) ≠ (0 : Int))) = (decide ((List.getD (List.getD [[(cond Bool.true (1 : Int) (0 : Int))], [(cond Bool.false (1 : Int) (0 : Int))]] (Int.toNat j) []) 0 (0 : Int)) ≠ (0 : Int)))) ∧ (((decide ((List.getD (List.getD [[(cond Bool.true (1 : Int) (0 : Int))], [(cond Bool.false (1 : Int) (0 : Int))]] (Int.toNat j) []) 0 (0 : Int)) ≠ (0 : Int))) = (decide ((List.getD (List.getD [[(cond Bool.true (1 : Int) (0 : Int))], [(cond Bool.false (1 : Int) (0 : Int))]] (Int.toNat j) []) 0 (0 : Int)) ≠ (0 : Int)))) ∧ ((j = j) ∧ (((decide (j < (((List.length [[(cond Bool.true (1 : Int) (0 : Int))], [(cond Bool.false (1 : Int) (0 : Int))]]) : Nat) : Int))) = (decide (j < (((List.length [[(cond Bool.true (1 : Int) (0 : Int))], [(cond Bool.false (1 : Int) (0 : Int))]]) : Nat) : Int)))) ∧ ((j = j) ∧ (((((List.length [[(cond Bool.true (1 : Int) (0 : Int))], [(cond Bool.false (1 : Int) (0 : Int))]]) : Nat) : Int) = (((List.length [[(cond Bool.true (1 : Int) (0 : Int))], [(cond Bool.false (1 : Int) (0 : Int))]]) : Nat) : Int)) ∧ (True ∧ (True ∧ (((Go.IntKind.wrap Go.IntKind.i64 ((Int.tmod (Go.IntKind.wrap Go.IntKind.i64 l) (1000 : Int)) + (1 : Int))) = (Go.IntKind.wrap Go.IntKind.i64 ((Int.tmod (Go.IntKind.wrap Go.IntKind.i64 l) (1000 : Int)) + (1 : Int)))) ∧ (((Go.IntKind.wrap Go.IntKind.i64 ((Int.tmod (Go.IntKind.wrap Go.IntKind.i64 d) (1000 : Int)) + (1 : Int))) = (Go.IntKind.wrap Go.IntKind.i64 ((Int.tmod (Go.IntKind.wrap Go.IntKind.i64 d) (1000 : Int)) + (1 : Int)))) ∧ (((Go.IntKind.wrap Go.IntKind.i64 ((Int.tmod (Go.IntKind.wrap Go.IntKind.i64 u) (1000 : Int)) + (1 : Int))) = (Go.IntKind.wrap Go.IntKind.i64 ((Int.tmod (Go.IntKind.wrap Go.IntKind.i64 u) (1000 : Int)) + (1 : Int)))) ∧ ((Bool.false = Bool.false) ∧ (((c = c) ∧ (o = o)) ∧ (([[(cond Bool.true (1 : Int) (0 : Int))], [(cond Bool.false (1 : Int) (0 : Int))]] = [[(cond Bool.true (1 : Int) (0 : Int))], [(cond Bool.false (1 : Int) (0 : Int))]]) ∧ True)))))))))))))))))))))) : LoopP (ex Try.prog (conOf [awake_e, fbounce_e]) (subC (subC (bodyOf Try.f10) [1, 1, 1, 1, 0, 1, 0, 0]) [1, 1, 0, 0, 1, 1, 1, 1, 1, 0, 0])) (kont Try.prog (conOf [awake_e, fbounce_e]) (subC (bodyOf Try.f10) [1, 1, 1, 1, 0, 1, 0, 0]) [1, 1, 0, 0, 1, 1, 1, 1, 1, 0] (nextE (debounces_L1_N u d l j c o) (kont Try.prog (conOf [awake_e, fbounce_e]) (bodyOf Try.f10) [1, 1, 1, 1, 0, 1, 0] (retPost Try.prog Try.f10 0 (debounces_res u d l))))) (debounces_L2_S1 u d l j c o) := by
  have hE : debounces_L2_E u d l j c o (debounces_L2_S1 u d l j c o) := Eq.mp (debounces_L2_entry1 u d l j c o) h
  unfold debounces_L2_E at hE
  obtain ⟨i, hE⟩ := getI_of hE
  obtain ⟨st, hE⟩ := getI_of hE
  obtain ⟨nd, hE⟩ := getI_of hE
  obtain ⟨c2, hE⟩ := getCI_of hE
  obtain ⟨o2, hE⟩ := getCB_of hE
  refine loop_of (α := (Int) × (Int) × (Int) × (Int) × (Bool)) (fun xx_ => debounces_L2_F u d l j c o xx_.1 xx_.2.1 xx_.2.2.1 xx_.2.2.2.1 xx_.2.2.2.2) (fun xx_ => debounces_L2_I u d l j c o xx_.1 xx_.2.1 xx_.2.2.1 xx_.2.2.2.1 xx_.2.2.2.2) (fun xx_ => debounces_L2_m u d l j c o xx_.1 xx_.2.1 xx_.2.2.1 xx_.2.2.2.1 xx_.2.2.2.2) (fun xx_ => debounces_L2_N u d l j c o xx_.1 xx_.2.1 xx_.2.2.1 xx_.2.2.2.1 xx_.2.2.2.2) (fun xx_ => debounces_L2_T u d l j c o xx_.1 xx_.2.1 xx_.2.2.1 xx_.2.2.2.1 xx_.2.2.2.2) (fun xx_ s_ h => ?_) ⟨⟨i, st, nd, c2, o2⟩, hE⟩ (fun xx_ => debounces_L2_tree u d l j c o xx_.1 xx_.2.1 xx_.2.2.1 xx_.2.2.2.1 xx_.2.2.2.2) (fun xx_ hI => debounces_L2_round u d l j c o xx_.1 xx_.2.1 xx_.2.2.1 xx_.2.2.2.1 xx_.2.2.2.2 p0 p1 p2 hI_L1 hI)
  unfold debounces_L2_N at h
  obtain ⟨i, h⟩ := getI_of h
  obtain ⟨st, h⟩ := getI_of h
  obtain ⟨nd, h⟩ := getI_of h
  obtain ⟨c2, h⟩ := getCI_of h
  obtain ⟨o2, h⟩ := getCB_of h
  exact ⟨⟨i, st, nd, c2, o2⟩, h⟩
set_option maxRecDepth 100000 in
theorem debounces_L2_entry2 (u : Int) (d : Int) (l : Int) (j : Int) (c : Int) (o : Bool) : (((debounces_L2_I u d l j c o (1 : Int) (Go.IntKind.wrap Go.IntKind.i64 ((Int.tmod (Go.IntKind.wrap Go.IntKind.i64 d) (1000 : Int)) + (1 : Int))) (Go.IntKind.wrap Go.IntKind.i64 (Int.tdiv (Go.IntKind.wrap Go.IntKind.i64 ((Go.IntKind.wrap Go.IntKind.i64 ((Go.IntKind.wrap Go.IntKind.i64 ((Int.tmod (Go.IntKind.wrap Go.IntKind.i64 l) (1000 : Int)) + (1 : Int))) + (Go.IntKind.wrap Go.IntKind.i64 ((Int.tmod (Go.IntKind.wrap Go.IntKind.i64 d) (1000 : Int)) + (1 : Int))))) - (1 : Int))) (Go.IntKind.wrap Go.IntKind.i64 ((Int.tmod (Go.IntKind.wrap Go.IntKind.i64 d) (1000 : Int)) + (1 : Int))))) c o) ∧ (((1 : Int) = (1 : Int)) ∧ (((Go.IntKind.wrap Go.IntKind.i64 (Int.tdiv (Go.IntKind.wrap Go.IntKind.i64 ((Go.IntKind.wrap Go.IntKind.i64 ((Go.IntKind.wrap Go.IntKind.i64 ((Int.tmod (Go.IntKind.wrap Go.IntKind.i64 l) (1000 : Int)) + (1 : Int))) + (Go.IntKind.wrap Go.IntKind.i64 ((Int.tmod (Go.IntKind.wrap Go.IntKind.i64 d) (1000 : Int)) + (1 : Int))))) - (1 : Int))) (Go.IntKind.wrap Go.IntKind.i64 ((Int.tmod (Go.IntKind.wrap Go.IntKind.i64 d) (1000 : Int)) + (1 : Int))))) = (Go.IntKind.wrap Go.IntKind.i64 (Int.tdiv (Go.IntKind.wrap Go.IntKind.i64 ((Go.IntKind.wrap Go.IntKind.i64 ((Go.IntKind.wrap Go.IntKind.i64 ((Int.tmod (Go.IntKind.wrap Go.IntKind.i64 l) (1000 : Int)) + (1 : Int))) + (Go.IntKind.wrap Go.IntKind.i64 ((Int.tmod (Go.IntKind.wrap Go.IntKind.i64 d) (1000 : Int)) + (1 : Int))))) - (1 : Int))) (Go.IntKind.wrap Go.IntKind.i64 ((Int.tmod (Go.IntKind.wrap Go.IntKind.i64 d) (1000 : Int)) + (1 : Int)))))) ∧ (((Go.IntKind.wrap Go.IntKind.i64 ((Int.tmod (Go.IntKind.wrap Go.IntKind.i64 l) (1000 : Int)) + (1 : Int))) = (Go.IntKind.wrap Go.IntKind.i64 ((Int.tmod (Go.IntKind.wrap Go.IntKind.i64 l) (1000 : Int)) + (1 : Int)))) ∧ (((Go.IntKind.wrap Go.IntKind.i64 ((Int.tmod (Go.IntKind.wrap Go.IntKind.i64 d) (1000 : Int)) + (1 : Int))) = (Go.IntKind.wrap Go.IntKind.i64 ((Int.tmod (Go.IntKind.wrap Go.IntKind.i64 d) (1000 : Int)) + (1 : Int)))) ∧ (((decide ((List.getD (List.getD [[(cond Bool.true (1 : Int) (0 : Int))], [(cond Bool.false (1 : Int) (0 : Int))]] (Int.toNat j) []) 0 (0 : Int)) ≠ (0 : Int))) = (decide ((List.getD (List.getD [[(cond Bool.true (1 : Int) (0 : Int))], [(cond Bool.false (1 : Int) (0 : Int))]] (Int.toNat j) []) 0 (0 : Int)) ≠ (0 : Int)))) ∧ (((Go.IntKind.wrap Go.IntKind.i64 ((Int.tmod (Go.IntKind.wrap Go.IntKind.i64 d) (1000 : Int)) + (1 : Int))) = (Go.IntKind.wrap Go.IntKind.i64 ((Int.tmod (Go.IntKind.wrap Go.IntKind.i64 d) (1000 : Int)) + (1 : Int)))) ∧ (((decide ((List.getD (List.getD [[(cond Bool.true (1 : Int) (0 : Int))], [(cond Bool.false (1 : Int) (0 : Int))]] (Int.toNat j) []) 0 (0 : Int)) ≠ (0 : Int))) = (decide ((List.getD (List.getD [[(cond Bool.true (1 : Int) (0 : Int))], [(cond Bool.false (1 : Int) (0 : Int))]] (Int.toNat j) []) 0 (0 : Int)) ≠ (0 : Int)))) ∧ (((decide ((List.getD (List.getD [[(cond Bool.true (1 : Int) (0 : Int))], [(cond Bool.false (1 : Int) (0 : Int))]] (Int.toNat j) []) 0 (0 : Int)) ≠ (0 : Int))) = (decide ((List.getD (List.getD [[(cond Bool.true (1 : Int) (0 : Int))], [(cond Bool.false (1 : Int) (0 : Int))]] (Int.toNat j) []) 0 (0 : Int)) ≠ (0 : Int)))) ∧ ((j = j) ∧ (((decide (j < (((List.length [[(cond Bool.true (1 : Int) (0 : Int))], [(cond Bool.false (1 : Int) (0 : Int))]]) : Nat) : Int))) = (decide (j < (((List.length [[(cond Bool.true (1 : Int) (0 : Int))], [(cond Bool.false (1 : Int) (0 : Int))]]) : Nat) : Int)))) ∧ ((j = j) ∧ (((((List.length [[(cond Bool.true (1 : Int) (0 : Int))], [(cond Bool.false (1 : Int) (0 : Int))]]) : Nat) : Int) = (((List.length [[(cond Bool.true (1 : Int) (0 : Int))], [(cond Bool.false (1 : Int) (0 : Int))]]) : Nat) : Int)) ∧ (True ∧ (True ∧ (((Go.IntKind.wrap Go.IntKind.i64 ((Int.tmod (Go.IntKind.wrap Go.IntKind.i64 l) (1000 : Int)) + (1 : Int))) = (Go.IntKind.wrap Go.IntKind.i64 ((Int.tmod (Go.IntKind.wrap Go.IntKind.i64 l) (1000 : Int)) + (1 : Int)))) ∧ (((Go.IntKind.wrap Go.IntKind.i64 ((Int.tmod (Go.IntKind.wrap Go.IntKind.i64 d) (1000 : Int)) + (1 : Int))) = (Go.IntKind.wrap Go.IntKind.i64 ((Int.tmod (Go.IntKind.wrap Go.IntKind.i64 d) (1000 : Int)) + (1 : Int)))) ∧ (((Go.IntKind.wrap Go.IntKind.i64 ((Int.tmod (Go.IntKind.wrap Go.IntKind.i64 u) (1000 : Int)) + (1 : Int))) = (Go.IntKind.wrap Go.IntKind.i64 ((Int.tmod (Go.IntKind.wrap Go.IntKind.i64 u) (1000 : Int)) + (1 : Int)))) ∧ ((Bool.false = Bool.false) ∧ (((c = c) ∧ (o = o)) ∧ (([[(cond Bool.true (1 : Int) (0 : Int))], [(cond Bool.false (1 : Int) (0 : Int))]] = [[(cond Bool.true (1 : Int) (0 : Int))], [(cond Bool.false (1 : Int) (0 : Int))]]) ∧ True)))))))))))))))))))))) = debounces_L2_E u d l j c o (debounces_L2_S2 u d l j c o) := by kernel_rfl
theorem debounces_L2_2 (u : Int) (d : Int) (l : Int) (j : Int) (c : Int) (o : Bool) (p0 : wfI .u16 u = true) (p1 : wfI .u16 d = true) (p2 : wfI .u16 l = true) (hI_L1 : debounces_L1_I u d l j c o) (h : ((debounces_L2_I u d l j c o (1 : Int) (Go.IntKind.wrap Go.IntKind.i64 ((Int.tmod (Go.IntKind.wrap Go.IntKind.i64 d) (1000 : Int)) + (1 : Int))) (Go.IntKind.wrap Go.IntKind.i64 (Int.tdiv (Go.IntKind.wrap Go.IntKind.i64 ((Go.IntKind.wrap Go.IntKind.i64 ((Go.IntKind.wrap Go.IntKind.i64 ((Int.tmod (Go.IntKind.wrap Go.IntKind.i64 l) (1000 : Int)) + (1 : Int))) + (Go.IntKind.wrap Go.IntKind.i64 ((Int.tmod (Go.IntKind.wrap Go.IntKind.i64 d) (1000 : Int)) + (1 : Int))))) - (1 : Int))) (Go.IntKind.wrap Go.IntKind.i64 ((Int.tmod (Go.IntKind.wrap Go.IntKind.i64 d) (1000 : Int)) + (1 : Int))))) c o) ∧ (((1 : Int) = (1 : Int)) ∧ (((Go.IntKind.wrap Go.IntKind.i64 (Int.tdiv (Go.IntKind.wrap Go.IntKind.i64 ((Go.IntKind.wrap Go.IntKind.i64 ((Go.IntKind.wrap Go.IntKind.i64 ((Int.tmod (Go.IntKind.wrap Go.IntKind.i64 l) (1000 : Int)) + (1 : Int))) + (Go.IntKind.wrap Go.IntKind.i64 ((Int.tmod (Go.IntKind.wrap Go.IntKind.i64 d) (1000 : Int)) + (1 : Int))))) - (1 : Int))) (Go.IntKind.wrap Go.IntKind.i64 ((Int.tmod (Go.IntKind.wrap Go.IntKind.i64 d) (1000 : Int)) + (1 : Int))))) = (Go.IntKind.wrap Go.IntKind.i64 (Int.tdiv (Go.IntKind.wrap Go.IntKind.i64 ((Go.IntKind.wrap Go.IntKind.i64 ((Go.IntKind.wrap Go.IntKind.i64 ((Int.tmod (Go.IntKind.wrap Go.IntKind.i64 l) (1000 : Int)) + (1 : Int))) + (Go.IntKind.wrap Go.IntKind.i64 ((Int.tmod (Go.IntKind.wrap Go.IntKind.i64 d) (1000 : Int)) + (1 : Int))))) - (1 : Int))) (Go.IntKind.wrap Go.IntKind.i64 ((Int.tmod (Go.IntKind.wrap Go.IntKind.i64 d) (1000 : Int)) + (1 : Int)))))) ∧ (((Go.IntKind.wrap Go.IntKind.i64 ((Int.tmod (Go.IntKind.wrap Go.IntKind.i64 l) (1000 : Int)) + (1 : Int))) = (Go.IntKind.wrap Go.IntKind.i64 ((Int.tmod (Go.IntKind.wrap Go.IntKind.i64 l) (1000 : Int)) + (1 : Int)))) ∧ (((Go.IntKind.wrap Go.IntKind.i64 ((Int.tmod (Go.IntKind.wrap Go.IntKind.i64 d) (1000 : Int)) + (1 : Int))) = (Go.IntKind.wrap Go.IntKind.i64 ((Int.tmod (Go.IntKind.wrap Go.IntKind.i64 d) (1000 : Int)) + (1 : Int)))) ∧ (((decide ((List.getD (List.getD [[(cond Bool.true (1 : Int) (0 : Int))], [(cond Bool.false (1 : Int) (0 : Int))]] (Int.toNat j) []) 0 (0 : Int)) ≠ (0 : Int))) = (decide ((List.getD (List.getD [[(cond Bool.true (1 : Int) (0 : Int))], [(cond Bool.false (1 : Int) (0 : Int))]] (Int.toNat j) []) 0 (0 : Int)) ≠ (0 : Int)))) ∧ (((Go.IntKind.wrap Go.IntKind.i64 ((Int.tmod (Go.IntKind.wrap Go.IntKind.i64 d) (1000 : Int)) + (1 : Int))) = (Go.IntKind.wrap Go.IntKind.i64 ((Int.tmod (Go.IntKind.wrap Go.IntKind.i64 d) (1000 : Int)) + (1 : Int)))) ∧ (((decide ((List.getD (List.getD [[(cond Bool.true (1 : Int) (0 : Int))], [(cond Bool.false (1 : Int) (0 : Int))]] (Int.toNat j) []) 0 (0 : Int)) ≠ (0 : Int))) = (decide ((List.getD (List.getD [[(cond Bool.true (1 : Int) (0 : Int))], [(cond Bool.false (1 : Int) (0 : Int))]] (Int.toNat j) []) 0 (0 : Int)) ≠ (0 : Int)))) ∧ (((decide ((List.getD (List.getD [[(cond Bool.true (1 : Int) (0 : Int))], [(cond Bool.false (1 : Int) (0 : Int))]] (Int.toNat j) []) 0 (0 : Int)) ≠ (0 : Int))) = (decide ((List.getD (List.getD [[(cond Bool.true (1 : Int) (0 : Int))], [(cond Bool.false (1 : Int) (0 : Int))]] (Int.toNat j) []) 0 (0 : Int)) ≠ (0 : Int)))) ∧ ((j = j) ∧ (((decide (j < (((List.length [[(cond Bool.true (1 : Int) (0 : Int))], [(cond Bool.false (1 : Int) (0 : Int))]]) : Nat) : Int))) = (decide (j < (((List.length [[(cond Bool.true (1 : Int) (0 : Int))], [(cond Bool.false (1 : Int) (0 : Int))]]) : Nat) : Int)))) ∧ ((j = j) ∧ (((((List.length [[(cond Bool.true (1 : Int) (0 : Int))], [(cond Bool.false (1 : Int) (0 : Int))]]) : Nat) : Int) = (((List.length [[(cond Bool.true (1 : Int) (0 : Int))], [(cond Bool.false (1 : Int) (0 : Int))]]) : Nat) : Int)) ∧ (True ∧ (True ∧ (((Go.IntKind.wrap Go.IntKind.i64 ((Int.tmod (Go.IntKind.wrap Go.IntKind.i64 l) (1000 : Int)) + (1 : Int))) = (Go.IntKind.wrap Go.IntKind.i64 ((Int.tmod (Go.IntKind.wrap Go.IntKind.i64 l) (1000 : Int)) + (1 : Int)))) ∧ (((Go.IntKind.wrap Go.IntKind.i64 ((Int.tmod (Go.IntKind.wrap Go.IntKind.i64 d) (1000 : Int)) + (1 : Int))) = (Go.IntKind.wrap Go.IntKind.i64 ((Int.tmod (Go.IntKind.wrap Go.IntKind.i64 d) (1000 : Int)) + (1 : Int)))) ∧ (((Go.IntKind.wrap Go.IntKind.i64 ((Int.tmod (Go.IntKind.wrap Go.IntKind.i64 u) (1000 : Int)) + (1 : Int))) = (Go.IntKind.wrap Go.IntKind.i64 ((Int.tmod (Go.IntKind.wrap Go.IntKind.i64 u) (1000 : Int)) + (1 : Int)))) ∧ ((Bool.false = Bool.false) ∧ (((c = c) ∧ (o = o)) ∧ (([[(cond Bool.true (1 : Int) (0 : Int))], [(cond Bool.false (1 : Int) (0 : Int))]] = [[(cond Bool.true (1 : Int) (0 : Int))], [(cond Bool.false (1 : Int) (0 : Int))]]) ∧ True)))))))))))))))))))))) : LoopP (ex Try.prog (conOf [awake_e, fbounce_e]) (subC (subC (bodyOf Try.f10) [1, 1, 1, 1, 0, 1, 0, 0]) [1, 1, 0, 0, 1, 1, 1, 1, 1, 0, 0])) (kont Try.prog (conOf [awake_e, fbounce_e]) (subC (bodyOf Try.f10) [1, 1, 1, 1, 0, 1, 0, 0]) [1, 1, 0, 0, 1, 1, 1, 1, 1, 0] (nextE (debounces_L1_N u d l j c o) (kont Try.prog (conOf [awake_e, fbounce_e]) (bodyOf Try.f10) [1, 1, 1, 1, 0, 1, 0] (retPost Try.prog Try.f10 0 (debounces_res u d l))))) (debounces_L2_S2 u d l j c o) := by
  have hE : debounces_L2_E u d l j c o (debounces_L2_S2 u d l j c o) := Eq.mp (debounces_L2_entry2 u d l j c o) h
  unfold debounces_L2_E at hE
  obtain ⟨i, hE⟩ := getI_of hE
  obtain ⟨st, hE⟩ := getI_of hE
  obtain ⟨nd, hE⟩ := getI_of hE
  obtain ⟨c2, hE⟩ := getCI_of hE
  obtain ⟨o2, hE⟩ := getCB_of hE
  refine loop_of (α := (Int) × (Int) × (Int) × (Int) × (Bool)) (fun xx_ => debounces_L2_F u d l j c o xx_.1 xx_.2.1 xx_.2.2.1 xx_.2.2.2.1 xx_.2.2.2.2) (fun xx_ => debounces_L2_I u d l j c o xx_.1 xx_.2.1 xx_.2.2.1 xx_.2.2.2.1 xx_.2.2.2.2) (fun xx_ => debounces_L2_m u d l j c o xx_.1 xx_.2.1 xx_.2.2.1 xx_.2.2.2.1 xx_.2.2.2.2) (fun xx_ => debounces_L2_N u d l j c o xx_.1 xx_.2.1 xx_.2.2.1 xx_.2.2.2.1 xx_.2.2.2.2) (fun xx_ => debounces_L2_T u d l j c o xx_.1 xx_.2.1 xx_.2.2.1 xx_.2.2.2.1 xx_.2.2.2.2) (fun xx_ s_ h => ?_) ⟨⟨i, st, nd, c2, o2⟩, hE⟩ (fun xx_ => debounces_L2_tree u d l j c o xx_.1 xx_.2.1 xx_.2.2.1 xx_.2.2.2.1 xx_.2.2.2.2) (fun xx_ hI => debounces_L2_round u d l j c o xx_.1 xx_.2.1 xx_.2.2.1 xx_.2.2.2.1 xx_.2.2.2.2 p0 p1 p2 hI_L1 hI)
  unfold debounces_L2_N at h
  obtain ⟨i, h⟩ := getI_of h
  obtain ⟨st, h⟩ := getI_of h
  obtain ⟨nd, h⟩ := getI_of h
  obtain ⟨c2, h⟩ := getCI_of h
  obtain ⟨o2, h⟩ := getCB_of h
  exact ⟨⟨i, st, nd, c2, o2⟩, h⟩
def debounces_L1_T (u : Int) (d : Int) (l : Int) (j : Int) (c : Int) (o : Bool) : Prop := (cnd (decide (j < (((List.length [[(cond Bool.true (1 : Int) (0 : Int))], [(cond Bool.false (1 : Int) (0 : Int))]]) : Nat) : Int)))
  (cnd (decide ((0 : Int) ≤ j))
    (cnd (decide (j < (((List.length [[(cond Bool.true (1 : Int) (0 : Int))], [(cond Bool.false (1 : Int) (0 : Int))]]) : Nat) : Int)))
      (cnd (decide ((List.getD (List.getD [[(cond Bool.true (1 : Int) (0 : Int))], [(cond Bool.false (1 : Int) (0 : Int))]] (Int.toNat j) []) 0 (0 : Int)) ≠ (0 : Int)))
        (cnd (decide ((Go.IntKind.wrap Go.IntKind.i64 ((Int.tmod (Go.IntKind.wrap Go.IntKind.i64 u) (1000 : Int)) + (1 : Int))) ≠ (0 : Int)))
          (LoopP (ex Try.prog (conOf [awake_e, fbounce_e]) (subC (subC (bodyOf Try.f10) [1, 1, 1, 1, 0, 1, 0, 0]) [1, 1, 0, 0, 1, 1, 1, 1, 1, 0, 0])) (kont Try.prog (conOf [awake_e, fbounce_e]) (subC (bodyOf Try.f10) [1, 1, 1, 1, 0, 1, 0, 0]) [1, 1, 0, 0, 1, 1, 1, 1, 1, 0] (nextE (debounces_L1_N u d l j c o) (kont Try.prog (conOf [awake_e, fbounce_e]) (bodyOf Try.f10) [1, 1, 1, 1, 0, 1, 0] (retPost Try.prog Try.f10 0 (debounces_res u d l))))) (debounces_L2_S1 u d l j c o))
          False)
        (cnd (decide ((Go.IntKind.wrap Go.IntKind.i64 ((Int.tmod (Go.IntKind.wrap Go.IntKind.i64 d) (1000 : Int)) + (1 : Int))) ≠ (0 : Int)))
          (LoopP (ex Try.prog (conOf [awake_e, fbounce_e]) (subC (subC (bodyOf Try.f10) [1, 1, 1, 1, 0, 1, 0, 0]) [1, 1, 0, 0, 1, 1, 1, 1, 1, 0, 0])) (kont Try.prog (conOf [awake_e, fbounce_e]) (subC (bodyOf Try.f10) [1, 1, 1, 1, 0, 1, 0, 0]) [1, 1, 0, 0, 1, 1, 1, 1, 1, 0] (nextE (debounces_L1_N u d l j c o) (kont Try.prog (conOf [awake_e, fbounce_e]) (bodyOf Try.f10) [1, 1, 1, 1, 0, 1, 0] (retPost Try.prog Try.f10 0 (debounces_res u d l))))) (debounces_L2_S2 u d l j c o))
          False))
      False)
    False)
  (((decide (c = (0 : Int))) && ((o == Bool.false) && Bool.true)) = Bool.true))
set_option maxRecDepth 100000 in
theorem debounces_L1_tree (u : Int) (d : Int) (l : Int) (j : Int) (c : Int) (o : Bool) : debounces_L1_T u d l j c o = ex Try.prog (conOf [awake_e, fbounce_e]) (subC (bodyOf Try.f10) [1, 1, 1, 1, 0, 1, 0, 0]) (nextE (debounces_L1_N u d l j c o) (kont Try.prog (conOf [awake_e, fbounce_e]) (bodyOf Try.f10) [1, 1, 1, 1, 0, 1, 0] (retPost Try.prog Try.f10 0 (debounces_res u d l)))) (debounces_L1_F u d l j c o) := by kernel_rfl
set_option maxRecDepth 100000 in
theorem debounces_L1_round (u : Int) (d : Int) (l : Int) (j : Int) (c : Int) (o : Bool) (p0 : wfI .u16 u = true) (p1 : wfI .u16 d = true) (p2 : wfI .u16 l = true) (hI_L1 : debounces_L1_I u d l j c o) : debounces_L1_T u d l j c o := by
  have hu := wfU16 p0
  have hd := wfU16 p1
  have hl := wfU16 p2
  have hI := hI_L1
  unfold debounces_L1_T
  have k0 : ∀ x : Int, 0 ≤ x → decide (x % 1000 + 1 ≠ 0) = true := by intro x hx; simp; omega
  rw [dn hu, dn hd, k0 u hu.1, k0 d hd.1]
  rcases hI_L1 with ⟨rfl, rfl, rfl⟩ | ⟨rfl, rfl, rfl⟩ | ⟨rfl, rfl, rfl⟩
  · have e1 : decide ((0 : Int) < ((([[cond true (1 : Int) (0 : Int)], [cond false (1 : Int) (0 : Int)]] : List (List Int)).length : Nat) : Int)) = true := rfl
    have e2 : decide ((0 : Int) ≤ 0) = true := rfl
    have e3 : decide (List.getD (List.getD [[cond true (1 : Int) (0 : Int)], [cond false (1 : Int) (0 : Int)]] (Int.toNat 0) []) 0 (0 : Int) ≠ (0 : Int)) = true := rfl
    simp only [e1, e2, e3, cnd]
    refine debounces_L2_1 u d l 0 0 false p0 p1 p2 hI ?_
    have hq := quo_bd (a := l % 1000 + 1 + (u % 1000 + 1) - 1) (b := u % 1000 + 1) (by omega) (by omega)
    rw [dn hu, dn hl, w64 (n := l % 1000 + 1 + (u % 1000 + 1)) (by omega) (by omega), w64 (n := l % 1000 + 1 + (u % 1000 + 1) - 1) (by omega) (by omega), tdiv_pos (by omega), w64 (n := (l % 1000 + 1 + (u % 1000 + 1) - 1) / (u % 1000 + 1)) (by omega) (by omega)]
    obtain ⟨n1, n2, n3⟩ := need_spec (L := l % 1000 + 1) (st := u % 1000 + 1) (by omega) (by omega)
    have hd0 : decide ((1 : Int) - 1 = (l % 1000 + 1 + (u % 1000 + 1) - 1) / (u % 1000 + 1)) = false := by simp; omega
    exact ⟨⟨.inl ⟨rfl, rfl⟩, ⟨by omega, by omega, rfl⟩, fun _ => ⟨by simp; omega, hd0.symm⟩, fun h => absurd h (by decide)⟩, by simp⟩
  · have e1 : decide ((1 : Int) < ((([[cond true (1 : Int) (0 : Int)], [cond false (1 : Int) (0 : Int)]] : List (List Int)).length : Nat) : Int)) = true := rfl
    have e2 : decide ((0 : Int) ≤ 1) = true := rfl
    have e3 : decide (List.getD (List.getD [[cond true (1 : Int) (0 : Int)], [cond false (1 : Int) (0 : Int)]] (Int.toNat 1) []) 0 (0 : Int) ≠ (0 : Int)) = false := rfl
    simp only [e1, e2, e3, cnd]
    refine debounces_L2_2 u d l 1 (l % 1000 + 1) true p0 p1 p2 hI ?_
    have hq := quo_bd (a := l % 1000 + 1 + (d % 1000 + 1) - 1) (b := d % 1000 + 1) (by omega) (by omega)
    rw [dn hd, dn hl, w64 (n := l % 1000 + 1 + (d % 1000 + 1)) (by omega) (by omega), w64 (n := l % 1000 + 1 + (d % 1000 + 1) - 1) (by omega) (by omega), tdiv_pos (by omega), w64 (n := (l % 1000 + 1 + (d % 1000 + 1) - 1) / (d % 1000 + 1)) (by omega) (by omega)]
    obtain ⟨n1, n2, n3⟩ := need_spec (L := l % 1000 + 1) (st := d % 1000 + 1) (by omega) (by omega)
    have hd0 : (!decide ((1 : Int) - 1 = (l % 1000 + 1 + (d % 1000 + 1) - 1) / (d % 1000 + 1))) = true := by simp; omega
    exact ⟨⟨.inr ⟨rfl, rfl⟩, ⟨by omega, by omega, rfl⟩, fun h => absurd h (by decide), fun _ => ⟨by simp; omega, hd0.symm⟩⟩, by simp⟩
  · have e1 : decide ((2 : Int) < ((([[cond true (1 : Int) (0 : Int)], [cond false (1 : Int) (0 : Int)]] : List (List Int)).length : Nat) : Int)) = false := rfl
    simp only [e1, cnd]
    rfl
set_option maxRecDepth 100000 in
theorem debounces_L1_entry1 (u : Int) (d : Int) (l : Int) : (((debounces_L1_I u d l (0 : Int) (0 : Int) Bool.false) ∧ (((0 : Int) = (0 : Int)) ∧ (((((List.length [[(cond Bool.true (1 : Int) (0 : Int))], [(cond Bool.false (1 : Int) (0 : Int))]]) : Nat) : Int) = (((List.length [[(cond Bool.true (1 : Int) (0 : Int))], [(cond Bool.false (1 : Int) (0 : Int))]]) : Nat) : Int)) ∧ (True ∧ (True ∧ (((Go.IntKind.wrap Go.IntKind.i64 ((Int.tmod (Go.IntKind.wrap Go.IntKind.i64 l) (1000 : Int)) + (1 : Int))) = (Go.IntKind.wrap Go.IntKind.i64 ((Int.tmod (Go.IntKind.wrap Go.IntKind.i64 l) (1000 : Int)) + (1 : Int)))) ∧ (((Go.IntKind.wrap Go.IntKind.i64 ((Int.tmod (Go.IntKind.wrap Go.IntKind.i64 d) (1000 : Int)) + (1 : Int))) = (Go.IntKind.wrap Go.IntKind.i64 ((Int.tmod (Go.IntKind.wrap Go.IntKind.i64 d) (1000 : Int)) + (1 : Int)))) ∧ (((Go.IntKind.wrap Go.IntKind.i64 ((Int.tmod (Go.IntKind.wrap Go.IntKind.i64 u) (1000 : Int)) + (1 : Int))) = (Go.IntKind.wrap Go.IntKind.i64 ((Int.tmod (Go.IntKind.wrap Go.IntKind.i64 u) (1000 : Int)) + (1 : Int)))) ∧ ((Bool.false = Bool.false) ∧ ((((0 : Int) = (0 : Int)) ∧ (Bool.false = Bool.false)) ∧ (([[(cond Bool.true (1 : Int) (0 : Int))], [(cond Bool.false (1 : Int) (0 : Int))]] = [[(cond Bool.true (1 : Int) (0 : Int))], [(cond Bool.false (1 : Int) (0 : Int))]]) ∧ True)))))))))))) = debounces_L1_E u d l (debounces_L1_S1 u d l) := by kernel_rfl
theorem debounces_L1_1 (u : Int) (d : Int) (l : Int) (p0 : wfI .u16 u = true) (p1 : wfI .u16 d = true) (p2 : wfI .u16 l = true) (h : ((debounces_L1_I u d l (0 : Int) (0 : Int) Bool.false) ∧ (((0 : Int) = (0 : Int)) ∧ (((((List.length [[(cond Bool.true (1 : Int) (0 : Int))], [(cond Bool.false (1 : Int) (0 : Int))]]) : Nat) : Int) = (((List.length [[(cond Bool.true (1 : Int) (0 : Int))], [(cond Bool.false (1 : Int) (0 : Int))]]) : Nat) : Int)) ∧ (True ∧ (True ∧ (((Go.IntKind.wrap Go.IntKind.i64 ((Int.tmod (Go.IntKind.wrap Go.IntKind.i64 l) (1000 : Int)) + (1 : Int))) = (Go.IntKind.wrap Go.IntKind.i64 ((Int.tmod (Go.IntKind.wrap Go.IntKind.i64 l) (1000 : Int)) + (1 : Int)))) ∧ (((Go.IntKind.wrap Go.IntKind.i64 ((Int.tmod (Go.IntKind.wrap Go.IntKind.i64 d) (1000 : Int)) + (1 : Int))) = (Go.IntKind.wrap Go.IntKind.i64 ((Int.tmod (Go.IntKind.wrap Go.IntKind.i64 d) (1000 : Int)) + (1 : Int)))) ∧ (((Go.IntKind.wrap Go.IntKind.i64 ((Int.tmod (Go.IntKind.wrap Go.IntKind.i64 u) (1000 : Int)) + (1 : Int))) = (Go.IntKind.wrap Go.IntKind.i64 ((Int.tmod (Go.IntKind.wrap Go.IntKind.i64 u) (1000 : Int)) + (1 : Int)))) ∧ ((Bool.false = Bool.false) ∧ ((((0 : Int) = (0 : Int)) ∧ (Bool.false = Bool.false)) ∧ (([[(cond Bool.true (1 : Int) (0 : Int))], [(cond Bool.false (1 : Int) (0 : Int))]] = [[(cond Bool.true (1 : Int) (0 : Int))], [(cond Bool.false (1 : Int) (0 : Int))]]) ∧ True)))))))))))) : LoopP (ex Try.prog (conOf [awake_e, fbounce_e]) (subC (bodyOf Try.f10) [1, 1, 1, 1, 0, 1, 0, 0])) (kont Try.prog (conOf [awake_e, fbounce_e]) (bodyOf Try.f10) [1, 1, 1, 1, 0, 1, 0] (retPost Try.prog Try.f10 0 (debounces_res u d l))) (debounces_L1_S1 u d l) := by
  have hE : debounces_L1_E u d l (debounces_L1_S1 u d l) := Eq.mp (debounces_L1_entry1 u d l) h
  unfold debounces_L1_E at hE
  obtain ⟨j, hE⟩ := getI_of hE
  obtain ⟨c, hE⟩ := getCI_of hE
  obtain ⟨o, hE⟩ := getCB_of hE
  refine loop_of (α := (Int) × (Int) × (Bool)) (fun xx_ => debounces_L1_F u d l xx_.1 xx_.2.1 xx_.2.2) (fun xx_ => debounces_L1_I u d l xx_.1 xx_.2.1 xx_.2.2) (fun xx_ => debounces_L1_m u d l xx_.1 xx_.2.1 xx_.2.2) (fun xx_ => debounces_L1_N u d l xx_.1 xx_.2.1 xx_.2.2) (fun xx_ => debounces_L1_T u d l xx_.1 xx_.2.1 xx_.2.2) (fun xx_ s_ h => ?_) ⟨⟨j, c, o⟩, hE⟩ (fun xx_ => debounces_L1_tree u d l xx_.1 xx_.2.1 xx_.2.2) (fun xx_ hI => debounces_L1_round u d l xx_.1 xx_.2.1 xx_.2.2 p0 p1 p2 hI)
  unfold debounces_L1_N at h
  obtain ⟨j, h⟩ := getI_of h
  obtain ⟨c, h⟩ := getCI_of h
  obtain ⟨o, h⟩ := getCB_of h
  exact ⟨⟨j, c, o⟩, h⟩
set_option maxRecDepth 100000 in
theorem debounces_tree (u : Int) (d : Int) (l : Int) : ((LoopP (ex Try.prog (conOf [awake_e, fbounce_e]) (subC (bodyOf Try.f10) [1, 1, 1, 1, 0, 1, 0, 0])) (kont Try.prog (conOf [awake_e, fbounce_e]) (bodyOf Try.f10) [1, 1, 1, 1, 0, 1, 0] (retPost Try.prog Try.f10 0 (debounces_res u d l))) (debounces_L1_S1 u d l))) = EXD Try.prog (conOf [awake_e, fbounce_e]) Try.f10 [.cel (.int .u16 u), .cel (.int .u16 d), .cel (.int .u16 l)] [] (debounces_res u d l) := by kernel_rfl
theorem debounces_holds (u : Int) (d : Int) (l : Int) (p0 : wfI .u16 u = true) (p1 : wfI .u16 d = true) (p2 : wfI .u16 l = true) : (LoopP (ex Try.prog (conOf [awake_e, fbounce_e]) (subC (bodyOf Try.f10) [1, 1, 1, 1, 0, 1, 0, 0])) (kont Try.prog (conOf [awake_e, fbounce_e]) (bodyOf Try.f10) [1, 1, 1, 1, 0, 1, 0] (retPost Try.prog Try.f10 0 (debounces_res u d l))) (debounces_L1_S1 u d l)) := by
  exact debounces_L1_1 u d l p0 p1 p2 ⟨.inl ⟨rfl, rfl, rfl⟩, by simp⟩
theorem debounces_ok : SoundEnt Try.prog debounces_e := by
  refine ent_of_ex (Γ := (conOf [awake_e, fbounce_e])) (conOf_sound (scons awake_ok (scons fbounce_ok snil))) (by kernel_rfl) Try.func10 (by kernel_rfl) (by kernel_rfl) (fun args rows res h ho => ?_)
  change debounces_go args rows = some res at h
  unfold debounces_go at h
  split at h
  · simp only [Option.some.injEq] at h
    subst h
    obtain ⟨p0, p1, p2, _⟩ := ho
    exact EX.of (debounces_tree _ _ _) (debounces_holds _ _ _ p0 p1 p2)
  · cases h
end Go.Proofs.Ytoflhcdhgkbdcaa

