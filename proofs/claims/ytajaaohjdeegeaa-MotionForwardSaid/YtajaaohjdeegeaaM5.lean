/- Motions: the laws. -/
import Derived.Test.YtajaaohjdeegeaaM4
namespace Go.Proofs.Ytajaaohjdeegeaa
set_option linter.unusedVariables false
set_option linter.unusedSimpArgs false
open Go.RowKit

theorem way_past : ∀ (l : List (List Int)) (e u : Int), vL e l = true → endL l ≤ u → way u l = way (endL l) l
  | [], _, _, _, _ => rfl
  | r :: l, e, u, hv, h => by
    obtain ⟨⟨a1, a2, a3, a4⟩, a5, a6⟩ := vL_cons hv
    have hb := (endL_bd l _ a5 a6).1
    simp only [way, endL] at h ⊢
    rw [show min u (r0 r) = r0 r by omega, show min (r0 r + endL l) (r0 r) = r0 r by omega, way_past l _ (u - r0 r) a6 (by omega), way_past l _ (r0 r + endL l - r0 r) a6 (by omega)]
theorem spd_bd : ∀ (l : List (List Int)) (e u : Int), vL e l = true → 0 ≤ spd u l ∧ spd u l ≤ 524288
  | [], _, _, _ => by simp only [spd]; omega
  | r :: l, e, u, hv => by
    obtain ⟨⟨a1, a2, a3, a4⟩, a5, a6⟩ := vL_cons hv
    simp only [spd]
    split
    · exact ⟨a3, a4⟩
    · exact spd_bd l _ _ a6
def rtime_res (s : Int) (l : List (List Int)) (p : Int) : CRes := ⟨[mValid s l], .tup [.cel (.int .i64 ((tmOf s l p).1)), .cel (.bool (decide ((tmOf s l p).2 = 0)))], []⟩
def rtime_go : List TV → List RowA → Option CRes := fun args rows =>
  match args, rows with
  | [.agg [.int .i64 s, .row 0], .cel (.int .i64 p)], [.recs [.int .i64, .int .i64] l] => some (rtime_res s l p)
  | _, _ => none
def rtime_e : Ent := ⟨13, [.recs [.int .i64, .int .i64] []], rtime_go⟩
def rtime_L1_F (s : Int) (l : List (List Int)) (p : Int) (lo : Int) (hi : Int) : St := ⟨36, [], [(7, (.one (.cel (.int .i64 hi)))), (6, (.one (.cel (.int .i64 lo)))), (5, (.one (.cel (.bool Bool.false)))), (4, (.one (.cel (.int .i64 (0 : Int))))), (2, (.one (.cel (.ptr 0 0)))), (1, (.one (.cel (.int .i64 p))))], [[(.int .i64 s), (.row 0)]], [⟨(.recs [.int .i64, .int .i64] l), none⟩]⟩
def rtime_L1_I (s : Int) (l : List (List Int)) (p : Int) (lo : Int) (hi : Int) : Prop := (0 ≤ lo ∧ lo ≤ (tmOf s l p).1 ∧ (tmOf s l p).1 ≤ hi ∧ hi ≤ 1099511627776) ∧ ((tmOf s l p).2 = 0)
def rtime_L1_m (s : Int) (l : List (List Int)) (p : Int) (lo : Int) (hi : Int) : Nat := (hi - lo).toNat
def rtime_L1_N (s : Int) (l : List (List Int)) (p : Int) (lo' : Int) (hi' : Int) (st_ : St) : Prop := getI st_ 6 fun lo => getI st_ 7 fun hi => rtime_L1_I s l p lo hi ∧ rtime_L1_m s l p lo hi < rtime_L1_m s l p lo' hi' ∧ SubA st_ (rtime_L1_F s l p lo hi)
def rtime_L1_E (s : Int) (l : List (List Int)) (p : Int) (st_ : St) : Prop := getI st_ 6 fun lo => getI st_ 7 fun hi => rtime_L1_I s l p lo hi ∧ SubA st_ (rtime_L1_F s l p lo hi)
def rtime_L1_S1 (s : Int) (l : List (List Int)) (p : Int) : St := ⟨36, [], [(19, (.one (.cel (.bool (decide ((s + ((way (endL l) l) / (65536 : Int))) < p)))))), (18, (.one (.cel (.int .i64 p)))), (17, (.one (.cel (.int .i64 (s + ((way (endL l) l) / (65536 : Int))))))), (16, (.one (.cel (.int .i64 (endL l))))), (15, (.one (.agg [(.int .i64 s), (.row 0)]))), (7, (.one (.cel (.int .i64 (endL l))))), (6, (.one (.cel (.int .i64 (0 : Int))))), (14, (.one (.cel (.int .i64 (endL l))))), (13, (.one (.agg [(.int .i64 s), (.row 0)]))), (12, (.one (.cel (.bool (decide (p ≤ s)))))), (11, (.one (.cel (.int .i64 s)))), (10, (.one (.cel (.ptr 0 0)))), (9, (.one (.cel (.int .i64 p)))), (5, (.one (.cel (.bool Bool.false)))), (4, (.one (.cel (.int .i64 (0 : Int))))), (2, (.one (.cel (.ptr 0 0)))), (0, (.one (.agg [(.int .i64 s), (.row 0)]))), (1, (.one (.cel (.int .i64 p))))], [[(.int .i64 s), (.row 0)]], [⟨(.recs [.int .i64, .int .i64] l), none⟩]⟩
def rtime_L1_T (s : Int) (l : List (List Int)) (p : Int) (lo : Int) (hi : Int) : Prop := (cnd (decide (lo < hi))
  (cnd (inBig (Go.IntKind.wrap Go.IntKind.i64 (lo + hi)))
    (cnd (mValid s l)
      (cnd (decide ((0 : Int) ≤ ((Go.IntKind.wrap Go.IntKind.i64 (lo + hi)) / (2 : Int))))
        (cnd (decide (((Go.IntKind.wrap Go.IntKind.i64 (lo + hi)) / (2 : Int)) ≤ (1099511627776 : Int)))
          (cnd (decide (p ≤ (s + ((way ((Go.IntKind.wrap Go.IntKind.i64 (lo + hi)) / (2 : Int)) l) / (65536 : Int)))))
            ((rtime_L1_I s l p lo ((Go.IntKind.wrap Go.IntKind.i64 (lo + hi)) / (2 : Int))) ∧ (((rtime_L1_m s l p lo ((Go.IntKind.wrap Go.IntKind.i64 (lo + hi)) / (2 : Int))) < (rtime_L1_m s l p lo hi)) ∧ ((((Go.IntKind.wrap Go.IntKind.i64 (lo + hi)) / (2 : Int)) = ((Go.IntKind.wrap Go.IntKind.i64 (lo + hi)) / (2 : Int))) ∧ ((lo = lo) ∧ ((Bool.false = Bool.false) ∧ (((0 : Int) = (0 : Int)) ∧ (True ∧ ((p = p) ∧ (((s = s) ∧ True) ∧ ((l = l) ∧ True))))))))))
            ((rtime_L1_I s l p (Go.IntKind.wrap Go.IntKind.i64 (((Go.IntKind.wrap Go.IntKind.i64 (lo + hi)) / (2 : Int)) + (1 : Int))) hi) ∧ (((rtime_L1_m s l p (Go.IntKind.wrap Go.IntKind.i64 (((Go.IntKind.wrap Go.IntKind.i64 (lo + hi)) / (2 : Int)) + (1 : Int))) hi) < (rtime_L1_m s l p lo hi)) ∧ ((hi = hi) ∧ (((Go.IntKind.wrap Go.IntKind.i64 (((Go.IntKind.wrap Go.IntKind.i64 (lo + hi)) / (2 : Int)) + (1 : Int))) = (Go.IntKind.wrap Go.IntKind.i64 (((Go.IntKind.wrap Go.IntKind.i64 (lo + hi)) / (2 : Int)) + (1 : Int)))) ∧ ((Bool.false = Bool.false) ∧ (((0 : Int) = (0 : Int)) ∧ (True ∧ ((p = p) ∧ (((s = s) ∧ True) ∧ ((l = l) ∧ True)))))))))))
          False)
        False)
      False)
    False)
  ((lo = (Prod.fst (tmOf s l p))) ∧ (Bool.true = (decide ((Prod.snd (tmOf s l p)) = (0 : Int))))))
set_option maxRecDepth 100000 in
theorem rtime_L1_tree (s : Int) (l : List (List Int)) (p : Int) (lo : Int) (hi : Int) : rtime_L1_T s l p lo hi = ex Try.prog (conOf [rend_e, rposition_e, rfloor_e]) (subC (bodyOf Try.f13) [1, 1, 1, 1, 0, 0, 0]) (nextE (rtime_L1_N s l p lo hi) (kont Try.prog (conOf [rend_e, rposition_e, rfloor_e]) (bodyOf Try.f13) [1, 1, 1, 1, 0, 0] (retPost Try.prog Try.f13 1 (rtime_res s l p)))) (rtime_L1_F s l p lo hi) := by kernel_rfl
set_option maxRecDepth 100000 in
theorem rtime_L1_round (s : Int) (l : List (List Int)) (p : Int) (lo : Int) (hi : Int) (p0 : mValid s l = true) (hI_L1 : rtime_L1_I s l p lo hi) : rtime_L1_T s l p lo hi := by
  obtain ⟨⟨a1, a2, a3, a4⟩, a5⟩ := hI_L1
  obtain ⟨k1, k2, k3, k4⟩ := tm_key (p := p) p0
  obtain ⟨g1, g2, g3⟩ := k4 a5
  unfold rtime_L1_T
  rw [a5]
  by_cases h : lo < hi
  · rw [w64 (n := lo + hi) (by omega) (by omega)]
    have hb : inBig (lo + hi) = true := inBig_iff.2 (by omega)
    generalize hm : (lo + hi) / 2 = m at *
    have j1 : decide (0 ≤ m) = true := by rw [decide_eq_true_eq]; omega
    have j2 : decide (m ≤ 1099511627776) = true := by rw [decide_eq_true_eq]; omega
    rw [w64 (n := m + 1) (by omega) (by omega), hb, p0, j1, j2, decide_eq_true h]
    have hg := g3 m (by omega)
    by_cases hc : p ≤ s + way m l / 65536
    · rw [decide_eq_true hc]
      refine ⟨⟨⟨a1, a2, hg.1 hc, by omega⟩, a5⟩, ?_, by simp⟩
      unfold rtime_L1_m
      omega
    · rw [decide_eq_false hc]
      have : ¬ (tmOf s l p).1 ≤ m := fun h => hc (hg.2 h)
      refine ⟨⟨⟨by omega, by omega, a3, a4⟩, a5⟩, ?_, by simp⟩
      unfold rtime_L1_m
      omega
  · rw [decide_eq_false h]
    exact ⟨by omega, rfl⟩
set_option maxRecDepth 100000 in
theorem rtime_L1_entry1 (s : Int) (l : List (List Int)) (p : Int) : (((rtime_L1_I s l p (0 : Int) (endL l)) ∧ (((endL l) = (endL l)) ∧ (((0 : Int) = (0 : Int)) ∧ ((Bool.false = Bool.false) ∧ (((0 : Int) = (0 : Int)) ∧ (True ∧ ((p = p) ∧ (((s = s) ∧ True) ∧ ((l = l) ∧ True)))))))))) = rtime_L1_E s l p (rtime_L1_S1 s l p) := by kernel_rfl
theorem rtime_L1_1 (s : Int) (l : List (List Int)) (p : Int) (p0 : mValid s l = true) (h : ((rtime_L1_I s l p (0 : Int) (endL l)) ∧ (((endL l) = (endL l)) ∧ (((0 : Int) = (0 : Int)) ∧ ((Bool.false = Bool.false) ∧ (((0 : Int) = (0 : Int)) ∧ (True ∧ ((p = p) ∧ (((s = s) ∧ True) ∧ ((l = l) ∧ True)))))))))) : LoopP (ex Try.prog (conOf [rend_e, rposition_e, rfloor_e]) (subC (bodyOf Try.f13) [1, 1, 1, 1, 0, 0, 0])) (kont Try.prog (conOf [rend_e, rposition_e, rfloor_e]) (bodyOf Try.f13) [1, 1, 1, 1, 0, 0] (retPost Try.prog Try.f13 1 (rtime_res s l p))) (rtime_L1_S1 s l p) := by
  have hE : rtime_L1_E s l p (rtime_L1_S1 s l p) := Eq.mp (rtime_L1_entry1 s l p) h
  unfold rtime_L1_E at hE
  obtain ⟨lo, hE⟩ := getI_of hE
  obtain ⟨hi, hE⟩ := getI_of hE
  refine loop_of (α := (Int) × (Int)) (fun xx_ => rtime_L1_F s l p xx_.1 xx_.2) (fun xx_ => rtime_L1_I s l p xx_.1 xx_.2) (fun xx_ => rtime_L1_m s l p xx_.1 xx_.2) (fun xx_ => rtime_L1_N s l p xx_.1 xx_.2) (fun xx_ => rtime_L1_T s l p xx_.1 xx_.2) (fun xx_ s_ h => ?_) ⟨⟨lo, hi⟩, hE⟩ (fun xx_ => rtime_L1_tree s l p xx_.1 xx_.2) (fun xx_ hI => rtime_L1_round s l p xx_.1 xx_.2 p0 hI)
  unfold rtime_L1_N at h
  obtain ⟨lo, h⟩ := getI_of h
  obtain ⟨hi, h⟩ := getI_of h
  exact ⟨⟨lo, hi⟩, h⟩
set_option maxRecDepth 100000 in
theorem rtime_tree (s : Int) (l : List (List Int)) (p : Int) : ((cnd (decide (p ≤ s))
  (((0 : Int) = (Prod.fst (tmOf s l p))) ∧ (Bool.true = (decide ((Prod.snd (tmOf s l p)) = (0 : Int)))))
  (cnd (mValid s l)
    (cnd (mValid s l)
      (cnd (decide ((0 : Int) ≤ (endL l)))
        (cnd (decide ((endL l) ≤ (1099511627776 : Int)))
          (cnd (decide ((s + ((way (endL l) l) / (65536 : Int))) < p))
            (((0 : Int) = (Prod.fst (tmOf s l p))) ∧ (Bool.false = (decide ((Prod.snd (tmOf s l p)) = (0 : Int)))))
            (LoopP (ex Try.prog (conOf [rend_e, rposition_e, rfloor_e]) (subC (bodyOf Try.f13) [1, 1, 1, 1, 0, 0, 0])) (kont Try.prog (conOf [rend_e, rposition_e, rfloor_e]) (bodyOf Try.f13) [1, 1, 1, 1, 0, 0] (retPost Try.prog Try.f13 1 (rtime_res s l p))) (rtime_L1_S1 s l p)))
          False)
        False)
      False)
    False))) = EXD Try.prog (conOf [rend_e, rposition_e, rfloor_e]) Try.f13 [.agg [.int .i64 s, .row 0], .cel (.int .i64 p)] [.recs [.int .i64, .int .i64] l] (rtime_res s l p) := by kernel_rfl
theorem rtime_holds (s : Int) (l : List (List Int)) (p : Int) (p0 : mValid s l = true) : (cnd (decide (p ≤ s))
  (((0 : Int) = (Prod.fst (tmOf s l p))) ∧ (Bool.true = (decide ((Prod.snd (tmOf s l p)) = (0 : Int)))))
  (cnd (mValid s l)
    (cnd (mValid s l)
      (cnd (decide ((0 : Int) ≤ (endL l)))
        (cnd (decide ((endL l) ≤ (1099511627776 : Int)))
          (cnd (decide ((s + ((way (endL l) l) / (65536 : Int))) < p))
            (((0 : Int) = (Prod.fst (tmOf s l p))) ∧ (Bool.false = (decide ((Prod.snd (tmOf s l p)) = (0 : Int)))))
            (LoopP (ex Try.prog (conOf [rend_e, rposition_e, rfloor_e]) (subC (bodyOf Try.f13) [1, 1, 1, 1, 0, 0, 0])) (kont Try.prog (conOf [rend_e, rposition_e, rfloor_e]) (bodyOf Try.f13) [1, 1, 1, 1, 0, 0] (retPost Try.prog Try.f13 1 (rtime_res s l p))) (rtime_L1_S1 s l p)))
          False)
        False)
      False)
    False)) := by
  obtain ⟨v1, v2, v3⟩ := mV_iff.1 p0
  obtain ⟨k1, k2, k3, k4⟩ := tm_key (p := p) p0
  have hE := endL_bd l 0 (by omega) v3
  have hP := way_past l 0 1099511627776 v3 (by omega)
  by_cases h1 : p ≤ s
  · have e : tmOf s l p = (0, 0) := by unfold tmOf; rw [if_pos p0, if_pos h1]
    rw [decide_eq_true h1, e]
    exact ⟨rfl, rfl⟩
  · have j1 : decide (0 ≤ endL l) = true := decide_eq_true hE.1
    have j2 : decide (endL l ≤ 1099511627776) = true := by rw [decide_eq_true_eq]; omega
    rw [decide_eq_false h1, p0, j1, j2, ← hP]
    rw [← hP] at *
    by_cases h2 : s + way 1099511627776 l / 65536 < p
    · have h7 : (tmOf s l p).2 = 7 := by
        rcases k1 with h | h
        · have := k3.1 h; omega
        · exact h
      rw [decide_eq_true h2, k2 h7, h7]
      exact ⟨rfl, rfl⟩
    · have h0 : (tmOf s l p).2 = 0 := k3.2 (by omega)
      obtain ⟨g1, g2, g3⟩ := k4 h0
      rw [decide_eq_false h2]
      exact rtime_L1_1 s l p p0 ⟨⟨⟨by omega, g1, g2, by omega⟩, h0⟩, by simp⟩
set_option maxHeartbeats 2000000 in
theorem rtime_ok : SoundEnt Try.prog rtime_e := by
  refine ent_of_ex (Γ := (conOf [rend_e, rposition_e, rfloor_e])) (conOf_sound (scons rend_ok (scons rposition_ok (scons rfloor_ok snil)))) (by kernel_rfl) Try.func13 (by kernel_rfl) (by kernel_rfl) (fun args rows res h ho => ?_)
  change rtime_go args rows = some res at h
  unfold rtime_go at h
  split at h
  · simp only [Option.some.injEq] at h
    subst h
    rename_i q0_ q2_ q1_
    obtain ⟨p0, _⟩ := ho
    exact EX.of (rtime_tree q0_ q1_ q2_) (rtime_holds q0_ q1_ q2_ p0)
  · cases h
def positions_res (s : Int) (l : List (List Int)) (t : Int) : CRes := ⟨[wfI .i64 s, wfR [.int .i64, .int .i64] l, wfI .i64 t], .one (.cel (.bool (true))), []⟩
def positions_go : List TV → List RowA → Option CRes := fun args rows =>
  match args, rows with
  | [.agg [.int .i64 s, .row 0], .cel (.int .i64 t)], [.recs [.int .i64, .int .i64] l] => some (positions_res s l t)
  | _, _ => none
def positions_e : Ent := ⟨7, [.recs [.int .i64, .int .i64] []], positions_go⟩
set_option maxRecDepth 100000 in
theorem positions_tree (s : Int) (l : List (List Int)) (t : Int) : ((cnd (decide ((60 : Int) < (((List.length l) : Nat) : Int)))
  (Bool.true = Bool.true)
  (cnd (!(mValid s l))
    (((((((!(mValid s l)) && (decide ((endOf s l) = (0 : Int)))) && (decide ((mErr s l t) = (1 : Int)))) && (decide ((posOf s l t) = (0 : Int)))) && (decide ((mErr s l t) = (1 : Int)))) && (decide ((spdOf s l t) = (0 : Int)))) = Bool.true)
    (cnd ((!((!(mValid s l)) == Bool.false)) || (mValid s l))
      (cnd ((!(mValid s l)) || (!(decide ((endOf s l) = (endL l)))))
        (Bool.false = Bool.true)
        (cnd ((decide (t < (0 : Int))) || (decide ((1099511627776 : Int) < t)))
          (((((decide ((mErr s l t) = (2 : Int))) && (decide ((posOf s l t) = (0 : Int)))) && (decide ((mErr s l t) = (2 : Int)))) && (decide ((spdOf s l t) = (0 : Int)))) = Bool.true)
          (cnd ((!((decide ((mErr s l t) = (0 : Int))) == Bool.true)) || (mValid s l))
            (cnd ((!((decide ((mErr s l t) = (0 : Int))) == Bool.true)) || (decide ((0 : Int) ≤ t)))
              (cnd ((!((decide ((mErr s l t) = (0 : Int))) == Bool.true)) || (decide (t ≤ (1099511627776 : Int))))
                (cnd ((!((((decide ((mErr s l t) = (0 : Int))) && (decide ((posOf s l t) = (s + ((way t l) / (65536 : Int)))))) && (decide ((mErr s l t) = (0 : Int)))) == Bool.true)) || (mValid s l))
                  (cnd ((!((((decide ((mErr s l t) = (0 : Int))) && (decide ((posOf s l t) = (s + ((way t l) / (65536 : Int)))))) && (decide ((mErr s l t) = (0 : Int)))) == Bool.true)) || (decide ((0 : Int) ≤ t)))
                    (cnd ((!((((decide ((mErr s l t) = (0 : Int))) && (decide ((posOf s l t) = (s + ((way t l) / (65536 : Int)))))) && (decide ((mErr s l t) = (0 : Int)))) == Bool.true)) || (decide (t ≤ (1099511627776 : Int))))
                      (((((decide ((mErr s l t) = (0 : Int))) && (decide ((posOf s l t) = (s + ((way t l) / (65536 : Int)))))) && (decide ((mErr s l t) = (0 : Int)))) && (decide ((spdOf s l t) = (spd t l)))) = Bool.true)
                      False)
                    False)
                  False)
                False)
              False)
            False)))
      False)))) = EXD Try.prog (inlOf Try.prog [awake_e, position_e, mspeed_e, valid_e, mend_e, rvalid_e, rend_e, rposition_e, rspeed_e] [(10, Try.f10)]) Try.f7 [.agg [.int .i64 s, .row 0], .cel (.int .i64 t)] [.recs [.int .i64, .int .i64] l] (positions_res s l t) := by kernel_rfl
theorem positions_holds (s : Int) (l : List (List Int)) (t : Int) (p0 : wfI .i64 s = true) (p1 : wfR [.int .i64, .int .i64] l = true) (p2 : wfI .i64 t = true) : (cnd (decide ((60 : Int) < (((List.length l) : Nat) : Int)))
  (Bool.true = Bool.true)
  (cnd (!(mValid s l))
    (((((((!(mValid s l)) && (decide ((endOf s l) = (0 : Int)))) && (decide ((mErr s l t) = (1 : Int)))) && (decide ((posOf s l t) = (0 : Int)))) && (decide ((mErr s l t) = (1 : Int)))) && (decide ((spdOf s l t) = (0 : Int)))) = Bool.true)
    (cnd ((!((!(mValid s l)) == Bool.false)) || (mValid s l))
      (cnd ((!(mValid s l)) || (!(decide ((endOf s l) = (endL l)))))
        (Bool.false = Bool.true)
        (cnd ((decide (t < (0 : Int))) || (decide ((1099511627776 : Int) < t)))
          (((((decide ((mErr s l t) = (2 : Int))) && (decide ((posOf s l t) = (0 : Int)))) && (decide ((mErr s l t) = (2 : Int)))) && (decide ((spdOf s l t) = (0 : Int)))) = Bool.true)
          (cnd ((!((decide ((mErr s l t) = (0 : Int))) == Bool.true)) || (mValid s l))
            (cnd ((!((decide ((mErr s l t) = (0 : Int))) == Bool.true)) || (decide ((0 : Int) ≤ t)))
              (cnd ((!((decide ((mErr s l t) = (0 : Int))) == Bool.true)) || (decide (t ≤ (1099511627776 : Int))))
                (cnd ((!((((decide ((mErr s l t) = (0 : Int))) && (decide ((posOf s l t) = (s + ((way t l) / (65536 : Int)))))) && (decide ((mErr s l t) = (0 : Int)))) == Bool.true)) || (mValid s l))
                  (cnd ((!((((decide ((mErr s l t) = (0 : Int))) && (decide ((posOf s l t) = (s + ((way t l) / (65536 : Int)))))) && (decide ((mErr s l t) = (0 : Int)))) == Bool.true)) || (decide ((0 : Int) ≤ t)))
                    (cnd ((!((((decide ((mErr s l t) = (0 : Int))) && (decide ((posOf s l t) = (s + ((way t l) / (65536 : Int)))))) && (decide ((mErr s l t) = (0 : Int)))) == Bool.true)) || (decide (t ≤ (1099511627776 : Int))))
                      (((((decide ((mErr s l t) = (0 : Int))) && (decide ((posOf s l t) = (s + ((way t l) / (65536 : Int)))))) && (decide ((mErr s l t) = (0 : Int)))) && (decide ((spdOf s l t) = (spd t l)))) = Bool.true)
                      False)
                    False)
                  False)
                False)
              False)
            False)))
      False))) := by
  by_cases hl : (60 : Int) < l.length
  · rw [decide_eq_true hl]; trivial
  rw [decide_eq_false hl]
  cases hm : mValid s l with
  | false =>
    have e1 : endOf s l = 0 := by unfold endOf; rw [hm]; rfl
    have e2 : mErr s l t = 1 := by unfold mErr; rw [hm]; rfl
    have e3 : posOf s l t = 0 := by unfold posOf; rw [e2]; rfl
    have e4 : spdOf s l t = 0 := by unfold spdOf; rw [e2]; rfl
    rw [e1, e2, e3, e4]
    rfl
  | true =>
    have e1 : endOf s l = endL l := by unfold endOf; rw [hm]; rfl
    rw [e1]
    by_cases ht : 0 ≤ t ∧ t ≤ 1099511627776
    · have e2 : mErr s l t = 0 := mErr_zero.2 ⟨hm, ht.1, ht.2⟩
      have e3 : posOf s l t = s + way t l / 65536 := by unfold posOf; rw [if_pos e2]
      have e4 : spdOf s l t = spd t l := by unfold spdOf; rw [if_pos e2]
      rw [e2, e3, e4]
      have j1 : decide (t < 0) = false := by rw [decide_eq_false_iff_not]; omega
      have j2 : decide (1099511627776 < t) = false := by rw [decide_eq_false_iff_not]; omega
      have j3 : decide (0 ≤ t) = true := decide_eq_true ht.1
      have j4 : decide (t ≤ 1099511627776) = true := decide_eq_true ht.2
      rw [j1, j2, j3, j4]
      simp [cnd]
    · have e2 : mErr s l t = 2 := by unfold mErr; rw [if_pos hm, if_neg ht]
      have e3 : posOf s l t = 0 := by unfold posOf; rw [e2]; rfl
      have e4 : spdOf s l t = 0 := by unfold spdOf; rw [e2]; rfl
      have j : (decide (t < 0) || decide (1099511627776 < t)) = true := by simp; omega
      rw [e2, e3, e4, j]
      simp [cnd]
set_option maxHeartbeats 2000000 in
theorem positions_ok : SoundEnt Try.prog positions_e := by
  refine ent_of_ex (Γ := (inlOf Try.prog [awake_e, position_e, mspeed_e, valid_e, mend_e, rvalid_e, rend_e, rposition_e, rspeed_e] [(10, Try.f10)])) (inlOf_sound (scons awake_ok (scons position_ok (scons mspeed_ok (scons valid_ok (scons mend_ok (scons rvalid_ok (scons rend_ok (scons rposition_ok (scons rspeed_ok snil))))))))) (by kernel_rfl) ⟨⟨Try.func10, by kernel_rfl, by kernel_rfl⟩, trivial⟩) (by kernel_rfl) Try.func7 (by kernel_rfl) (by kernel_rfl) (fun args rows res h ho => ?_)
  change positions_go args rows = some res at h
  unfold positions_go at h
  split at h
  · simp only [Option.some.injEq] at h
    subst h
    rename_i q0_ q2_ q1_
    obtain ⟨p0, p1, p2, _⟩ := ho
    exact EX.of (positions_tree q0_ q1_ q2_) (positions_holds q0_ q1_ q2_ p0 p1 p2)
  · cases h
def times_res (s : Int) (l : List (List Int)) (p : Int) : CRes := ⟨[wfI .i64 s, wfR [.int .i64, .int .i64] l, wfI .i64 p], .one (.cel (.bool (true))), []⟩
def times_go : List TV → List RowA → Option CRes := fun args rows =>
  match args, rows with
  | [.agg [.int .i64 s, .row 0], .cel (.int .i64 p)], [.recs [.int .i64, .int .i64] l] => some (times_res s l p)
  | _, _ => none
def times_e : Ent := ⟨3, [.recs [.int .i64, .int .i64] []], times_go⟩
set_option maxRecDepth 100000 in
theorem times_tree (s : Int) (l : List (List Int)) (p : Int) : ((cnd (decide ((60 : Int) < (((List.length l) : Nat) : Int)))
  (Bool.true = Bool.true)
  (cnd (wfI Go.IntKind.i64 p)
    (cnd (!(mValid s l))
      (((decide ((Prod.snd (tmOf s l p)) = (1 : Int))) && (decide ((Prod.fst (tmOf s l p)) = (0 : Int)))) = Bool.true)
      (cnd (mValid s l)
        (cnd (!(decide ((Prod.snd (tmOf s l p)) = (0 : Int))))
          (((decide ((Prod.snd (tmOf s l p)) = (7 : Int))) && (decide ((Prod.fst (tmOf s l p)) = (0 : Int)))) = Bool.true)
          (((decide ((Prod.snd (tmOf s l p)) = (0 : Int))) && (decide ((Prod.fst (tmOf s l p)) = (Prod.fst (tmOf s l p))))) = Bool.true))
        False))
    False))) = EXD Try.prog (inlOf Try.prog [awake_e, mtime_e, rvalid_e, rtime_e] [(10, Try.f10)]) Try.f3 [.agg [.int .i64 s, .row 0], .cel (.int .i64 p)] [.recs [.int .i64, .int .i64] l] (times_res s l p) := by kernel_rfl
theorem times_holds (s : Int) (l : List (List Int)) (p : Int) (p0 : wfI .i64 s = true) (p1 : wfR [.int .i64, .int .i64] l = true) (p2 : wfI .i64 p = true) : (cnd (decide ((60 : Int) < (((List.length l) : Nat) : Int)))
  (Bool.true = Bool.true)
  (cnd (wfI Go.IntKind.i64 p)
    (cnd (!(mValid s l))
      (((decide ((Prod.snd (tmOf s l p)) = (1 : Int))) && (decide ((Prod.fst (tmOf s l p)) = (0 : Int)))) = Bool.true)
      (cnd (mValid s l)
        (cnd (!(decide ((Prod.snd (tmOf s l p)) = (0 : Int))))
          (((decide ((Prod.snd (tmOf s l p)) = (7 : Int))) && (decide ((Prod.fst (tmOf s l p)) = (0 : Int)))) = Bool.true)
          (((decide ((Prod.snd (tmOf s l p)) = (0 : Int))) && (decide ((Prod.fst (tmOf s l p)) = (Prod.fst (tmOf s l p))))) = Bool.true))
        False))
    False)) := by
  by_cases hl : (60 : Int) < l.length
  · rw [decide_eq_true hl]; trivial
  rw [decide_eq_false hl, p2]
  cases hm : mValid s l with
  | false =>
    have e : tmOf s l p = (0, 1) := by unfold tmOf; rw [hm]; rfl
    rw [e]
    rfl
  | true =>
    obtain ⟨k1, k2, k3, k4⟩ := tm_key (p := p) hm
    rcases k1 with h | h
    · rw [h]; simp [cnd]
    · rw [h, k2 h]; simp [cnd]
set_option maxHeartbeats 2000000 in
theorem times_ok : SoundEnt Try.prog times_e := by
  refine ent_of_ex (Γ := (inlOf Try.prog [awake_e, mtime_e, rvalid_e, rtime_e] [(10, Try.f10)])) (inlOf_sound (scons awake_ok (scons mtime_ok (scons rvalid_ok (scons rtime_ok snil)))) (by kernel_rfl) ⟨⟨Try.func10, by kernel_rfl, by kernel_rfl⟩, trivial⟩) (by kernel_rfl) Try.func3 (by kernel_rfl) (by kernel_rfl) (fun args rows res h ho => ?_)
  change times_go args rows = some res at h
  unfold times_go at h
  split at h
  · simp only [Option.some.injEq] at h
    subst h
    rename_i q0_ q2_ q1_
    obtain ⟨p0, p1, p2, _⟩ := ho
    exact EX.of (times_tree q0_ q1_ q2_) (times_holds q0_ q1_ q2_ p0 p1 p2)
  · cases h
def first_res (s : Int) (l : List (List Int)) (p : Int) (d : Int) : CRes := ⟨[wfI .i64 s, wfR [.int .i64, .int .i64] l, wfI .i64 p, wfI .i64 d], .one (.cel (.bool (true))), []⟩
def first_go : List TV → List RowA → Option CRes := fun args rows =>
  match args, rows with
  | [.agg [.int .i64 s, .row 0], .cel (.int .i64 p), .cel (.int .i64 d)], [.recs [.int .i64, .int .i64] l] => some (first_res s l p d)
  | _, _ => none
def first_e : Ent := ⟨4, [.recs [.int .i64, .int .i64] []], first_go⟩
set_option maxRecDepth 100000 in
theorem first_tree (s : Int) (l : List (List Int)) (p : Int) (d : Int) : ((cnd (decide ((60 : Int) < (((List.length l) : Nat) : Int)))
  (Bool.true = Bool.true)
  (cnd (Bool.false || (!(mValid s l)))
    (Bool.true = Bool.true)
    (cnd (wfI Go.IntKind.i64 p)
      (cnd ((!(decide ((mErr s l (1099511627776 : Int)) = (0 : Int)))) || (!((decide ((Prod.snd (tmOf s l p)) = (0 : Int))) == (decide (p ≤ (posOf s l (1099511627776 : Int)))))))
        (Bool.false = Bool.true)
        (cnd (!(decide ((Prod.snd (tmOf s l p)) = (0 : Int))))
          ((decide ((Prod.fst (tmOf s l p)) = (0 : Int))) = Bool.true)
          (cnd ((!(decide ((mErr s l (Prod.fst (tmOf s l p))) = (0 : Int)))) || (decide ((posOf s l (Prod.fst (tmOf s l p))) < p)))
            (Bool.false = Bool.true)
            (cnd (decide ((0 : Int) < (Prod.fst (tmOf s l p))))
              (cnd ((!(decide ((mErr s l (Go.IntKind.wrap Go.IntKind.i64 ((Prod.fst (tmOf s l p)) - (1 : Int)))) = (0 : Int)))) || (decide (p ≤ (posOf s l (Go.IntKind.wrap Go.IntKind.i64 ((Prod.fst (tmOf s l p)) - (1 : Int)))))))
                (Bool.false = Bool.true)
                (cnd ((((decide (d < (0 : Int))) || (decide ((1099511627776 : Int) < d))) || (decide ((1125899906842624 : Int) < p))) || (decide (p < (-(1125899906842624 : Int)))))
                  (Bool.true = Bool.true)
                  (cnd (wfI Go.IntKind.i64 (Go.IntKind.wrap Go.IntKind.i64 (p + d)))
                    (((!(decide ((Prod.snd (tmOf s l (Go.IntKind.wrap Go.IntKind.i64 (p + d)))) = (0 : Int)))) || (decide ((Prod.fst (tmOf s l p)) ≤ (Prod.fst (tmOf s l (Go.IntKind.wrap Go.IntKind.i64 (p + d))))))) = Bool.true)
                    False)))
              (cnd ((((decide (d < (0 : Int))) || (decide ((1099511627776 : Int) < d))) || (decide ((1125899906842624 : Int) < p))) || (decide (p < (-(1125899906842624 : Int)))))
                (Bool.true = Bool.true)
                (cnd (wfI Go.IntKind.i64 (Go.IntKind.wrap Go.IntKind.i64 (p + d)))
                  (((!(decide ((Prod.snd (tmOf s l (Go.IntKind.wrap Go.IntKind.i64 (p + d)))) = (0 : Int)))) || (decide ((Prod.fst (tmOf s l p)) ≤ (Prod.fst (tmOf s l (Go.IntKind.wrap Go.IntKind.i64 (p + d))))))) = Bool.true)
                  False))))))
      False)))) = EXD Try.prog (inlOf Try.prog [awake_e, mtime_e, rvalid_e, position_e] [(10, Try.f10)]) Try.f4 [.agg [.int .i64 s, .row 0], .cel (.int .i64 p), .cel (.int .i64 d)] [.recs [.int .i64, .int .i64] l] (first_res s l p d) := by kernel_rfl
theorem first_holds (s : Int) (l : List (List Int)) (p : Int) (d : Int) (p0 : wfI .i64 s = true) (p1 : wfR [.int .i64, .int .i64] l = true) (p2 : wfI .i64 p = true) (p3 : wfI .i64 d = true) : (cnd (decide ((60 : Int) < (((List.length l) : Nat) : Int)))
  (Bool.true = Bool.true)
  (cnd (Bool.false || (!(mValid s l)))
    (Bool.true = Bool.true)
    (cnd (wfI Go.IntKind.i64 p)
      (cnd ((!(decide ((mErr s l (1099511627776 : Int)) = (0 : Int)))) || (!((decide ((Prod.snd (tmOf s l p)) = (0 : Int))) == (decide (p ≤ (posOf s l (1099511627776 : Int)))))))
        (Bool.false = Bool.true)
        (cnd (!(decide ((Prod.snd (tmOf s l p)) = (0 : Int))))
          ((decide ((Prod.fst (tmOf s l p)) = (0 : Int))) = Bool.true)
          (cnd ((!(decide ((mErr s l (Prod.fst (tmOf s l p))) = (0 : Int)))) || (decide ((posOf s l (Prod.fst (tmOf s l p))) < p)))
            (Bool.false = Bool.true)
            (cnd (decide ((0 : Int) < (Prod.fst (tmOf s l p))))
              (cnd ((!(decide ((mErr s l (Go.IntKind.wrap Go.IntKind.i64 ((Prod.fst (tmOf s l p)) - (1 : Int)))) = (0 : Int)))) || (decide (p ≤ (posOf s l (Go.IntKind.wrap Go.IntKind.i64 ((Prod.fst (tmOf s l p)) - (1 : Int)))))))
                (Bool.false = Bool.true)
                (cnd ((((decide (d < (0 : Int))) || (decide ((1099511627776 : Int) < d))) || (decide ((1125899906842624 : Int) < p))) || (decide (p < (-(1125899906842624 : Int)))))
                  (Bool.true = Bool.true)
                  (cnd (wfI Go.IntKind.i64 (Go.IntKind.wrap Go.IntKind.i64 (p + d)))
                    (((!(decide ((Prod.snd (tmOf s l (Go.IntKind.wrap Go.IntKind.i64 (p + d)))) = (0 : Int)))) || (decide ((Prod.fst (tmOf s l p)) ≤ (Prod.fst (tmOf s l (Go.IntKind.wrap Go.IntKind.i64 (p + d))))))) = Bool.true)
                    False)))
              (cnd ((((decide (d < (0 : Int))) || (decide ((1099511627776 : Int) < d))) || (decide ((1125899906842624 : Int) < p))) || (decide (p < (-(1125899906842624 : Int)))))
                (Bool.true = Bool.true)
                (cnd (wfI Go.IntKind.i64 (Go.IntKind.wrap Go.IntKind.i64 (p + d)))
                  (((!(decide ((Prod.snd (tmOf s l (Go.IntKind.wrap Go.IntKind.i64 (p + d)))) = (0 : Int)))) || (decide ((Prod.fst (tmOf s l p)) ≤ (Prod.fst (tmOf s l (Go.IntKind.wrap Go.IntKind.i64 (p + d))))))) = Bool.true)
                  False))))))
      False))) := by
  by_cases hl : (60 : Int) < l.length
  · rw [decide_eq_true hl]; trivial
  rw [decide_eq_false hl, p2]
  cases hm : mValid s l with
  | false => simp [cnd]
  | true =>
    obtain ⟨v1, v2, v3⟩ := mV_iff.1 hm
    obtain ⟨k1, k2, k3, k4⟩ := tm_key (p := p) hm
    have hE := endL_bd l 0 (by omega) v3
    have hpos : ∀ u, 0 ≤ u → u ≤ 1099511627776 → mErr s l u = 0 ∧ posOf s l u = s + way u l / 65536 := fun u h1 h2 => by
      have e : mErr s l u = 0 := mErr_zero.2 ⟨hm, h1, h2⟩
      exact ⟨e, by unfold posOf; rw [if_pos e]⟩
    obtain ⟨m1, m2⟩ := hpos 1099511627776 (by omega) (by omega)
    rw [m1, m2]
    rcases k1 with h | h
    · obtain ⟨g1, g2, g3⟩ := k4 h
      obtain ⟨n1, n2⟩ := hpos (tmOf s l p).1 g1 (by omega)
      have j1 : decide (p ≤ s + way 1099511627776 l / 65536) = true := decide_eq_true (k3.1 h)
      have hp1 := (g3 _ g1).2 (Int.le_refl _)
      have j2 : decide (s + way (tmOf s l p).1 l / 65536 < p) = false := by rw [decide_eq_false_iff_not]; omega
      rw [h, n1, n2, j1, j2]
      have R : cnd ((((decide (d < (0 : Int))) || (decide ((1099511627776 : Int) < d))) || (decide ((1125899906842624 : Int) < p))) || (decide (p < (-(1125899906842624 : Int)))))
                  (Bool.true = Bool.true)
                  (cnd (wfI Go.IntKind.i64 (Go.IntKind.wrap Go.IntKind.i64 (p + d)))
                    (((!(decide ((Prod.snd (tmOf s l (Go.IntKind.wrap Go.IntKind.i64 (p + d)))) = (0 : Int)))) || (decide ((Prod.fst (tmOf s l p)) ≤ (Prod.fst (tmOf s l (Go.IntKind.wrap Go.IntKind.i64 (p + d))))))) = Bool.true)
                    False) := by
        by_cases hr : ((d < 0 ∨ 1099511627776 < d) ∨ 1125899906842624 < p) ∨ p < -1125899906842624
        · have j : ((((decide (d < (0 : Int))) || (decide ((1099511627776 : Int) < d))) || (decide ((1125899906842624 : Int) < p))) || (decide (p < (-(1125899906842624 : Int))))) = true := by
            simp only [Bool.or_eq_true, decide_eq_true_eq]; exact hr
          rw [j]; trivial
        · have j : ((((decide (d < (0 : Int))) || (decide ((1099511627776 : Int) < d))) || (decide ((1125899906842624 : Int) < p))) || (decide (p < (-(1125899906842624 : Int))))) = false := by
            rw [Bool.eq_false_iff]; intro hh; simp only [Bool.or_eq_true, decide_eq_true_eq] at hh; exact hr hh
          rw [j, w64 (n := p + d) (by omega) (by omega), wfI64.2 (by omega)]
          obtain ⟨q1, q2, q3, q4⟩ := tm_key (p := p + d) hm
          rcases q1 with q | q
          · obtain ⟨w1, w2, w3⟩ := q4 q
            have := (w3 _ w1).2 (Int.le_refl _)
            have hle := (g3 _ w1).1 (by omega)
            rw [q, decide_eq_true hle]
            rfl
          · rw [q]; rfl
      by_cases hz : 0 < (tmOf s l p).1
      · have j3 : decide (0 < (tmOf s l p).1) = true := decide_eq_true hz
        rw [w64 (n := (tmOf s l p).1 - 1) (by omega) (by omega)]
        obtain ⟨o1, o2⟩ := hpos ((tmOf s l p).1 - 1) (by omega) (by omega)
        have hp2 : ¬ p ≤ s + way ((tmOf s l p).1 - 1) l / 65536 := fun hh => by have := (g3 ((tmOf s l p).1 - 1) (by omega)).1 hh; omega
        rw [o1, o2, decide_eq_false hp2, j3]
        exact R
      · have j3 : decide (0 < (tmOf s l p).1) = false := decide_eq_false hz
        rw [j3]
        exact R
    · have j1 : decide (p ≤ s + way 1099511627776 l / 65536) = false := by
        rw [decide_eq_false_iff_not]
        intro hh
        have := k3.2 hh
        omega
      rw [h, k2 h, j1]
      rfl
set_option maxHeartbeats 2000000 in
theorem first_ok : SoundEnt Try.prog first_e := by
  refine ent_of_ex (Γ := (inlOf Try.prog [awake_e, mtime_e, rvalid_e, position_e] [(10, Try.f10)])) (inlOf_sound (scons awake_ok (scons mtime_ok (scons rvalid_ok (scons position_ok snil)))) (by kernel_rfl) ⟨⟨Try.func10, by kernel_rfl, by kernel_rfl⟩, trivial⟩) (by kernel_rfl) Try.func4 (by kernel_rfl) (by kernel_rfl) (fun args rows res h ho => ?_)
  change first_go args rows = some res at h
  unfold first_go at h
  split at h
  · simp only [Option.some.injEq] at h
    subst h
    rename_i q0_ q2_ q3_ q1_
    obtain ⟨p0, p1, p2, p3, _⟩ := ho
    exact EX.of (first_tree q0_ q1_ q2_ q3_) (first_holds q0_ q1_ q2_ q3_ p0 p1 p2 p3)
  · cases h
def forward_res (s : Int) (l : List (List Int)) (t : Int) (d : Int) : CRes := ⟨[wfI .i64 s, wfR [.int .i64, .int .i64] l, wfI .i64 t, wfI .i64 d], .one (.cel (.bool (true))), []⟩
def forward_go : List TV → List RowA → Option CRes := fun args rows =>
  match args, rows with
  | [.agg [.int .i64 s, .row 0], .cel (.int .i64 t), .cel (.int .i64 d)], [.recs [.int .i64, .int .i64] l] => some (forward_res s l t d)
  | _, _ => none
def forward_e : Ent := ⟨6, [.recs [.int .i64, .int .i64] []], forward_go⟩
def forward_L1_F (s : Int) (l : List (List Int)) (t : Int) (d : Int) (i : Int) (cu : Int) : St := ⟨147, [], [(105, (.one (.cel (.int .i64 i)))), (104, (.one (.cel (.int .i64 (((List.length l) : Nat) : Int))))), (103, (.one (.cel (.row 0)))), (15, (.one (.cel (.int .i64 cu)))), (13, (.one (.cel (.int .i64 (spdOf s l t))))), (11, (.one (.cel (.int .i64 (posOf s l (Go.IntKind.wrap Go.IntKind.i64 (t + d))))))), (9, (.one (.cel (.int .i64 (posOf s l t))))), (6, (.one (.cel (.bool Bool.false)))), (1, (.one (.cel (.int .i64 t)))), (2, (.one (.cel (.int .i64 d))))], [[(.int .i64 s), (.row 0)], [(.int .i64 s), (.row 0)], [(.int .i64 s), (.row 0)]], [⟨(.recs [.int .i64, .int .i64] l), none⟩]⟩
def forward_L1_I (s : Int) (l : List (List Int)) (t : Int) (d : Int) (i : Int) (cu : Int) : Prop := (0 ≤ i ∧ i ≤ l.length ∧ (l.length : Int) ≤ 60 ∧ 0 ≤ t ∧ 0 ≤ d ∧ t + d ≤ 1099511627776 ∧ mValid s l = true) ∧ (0 ≤ cu ∧ cu ≤ t) ∧ (vL cu (l.drop i.toNat) = true) ∧ (way (t + d) l - way t l = way (t - cu + d) (l.drop i.toNat) - way (t - cu) (l.drop i.toNat)) ∧ (spd t l = spd (t - cu) (l.drop i.toNat))
def forward_L1_m (s : Int) (l : List (List Int)) (t : Int) (d : Int) (i : Int) (cu : Int) : Nat := (l.length - i).toNat
def forward_L1_N (s : Int) (l : List (List Int)) (t : Int) (d : Int) (i' : Int) (cu' : Int) (st_ : St) : Prop := getI st_ 105 fun i => getI st_ 15 fun cu => forward_L1_I s l t d i cu ∧ forward_L1_m s l t d i cu < forward_L1_m s l t d i' cu' ∧ SubA st_ (forward_L1_F s l t d i cu)
def forward_L1_E (s : Int) (l : List (List Int)) (t : Int) (d : Int) (st_ : St) : Prop := getI st_ 105 fun i => getI st_ 15 fun cu => forward_L1_I s l t d i cu ∧ SubA st_ (forward_L1_F s l t d i cu)
def forward_L1_S1 (s : Int) (l : List (List Int)) (t : Int) (d : Int) : St := ⟨147, [97, 92, 86, 82, 78, 74, 41, 37, 33, 29, 24], [(105, (.one (.cel (.int .i64 (0 : Int))))), (104, (.one (.cel (.int .i64 (((List.length l) : Nat) : Int))))), (103, (.one (.cel (.row 0)))), (102, (.one (.cel (.ptr 0 1)))), (15, (.one (.cel (.int .i64 (0 : Int))))), (101, (.one (.cel (.bool (((((((!(decide ((mErr s l (0 : Int)) = (0 : Int)))) || (!(decide ((mErr s l t) = (0 : Int))))) || (!(decide ((mErr s l (Go.IntKind.wrap Go.IntKind.i64 (t + d))) = (0 : Int))))) || (!(decide ((mErr s l t) = (0 : Int))))) || (!(decide ((posOf s l (0 : Int)) = s)))) || (decide ((posOf s l t) < (posOf s l (0 : Int))))) || (decide ((posOf s l (Go.IntKind.wrap Go.IntKind.i64 (t + d))) < (posOf s l t)))))))), (100, (.spec 97 Bool.false (.cel (.bool (decide ((posOf s l (Go.IntKind.wrap Go.IntKind.i64 (t + d))) < (posOf s l t))))))), (99, (.spec 97 Bool.false (.cel (.int .i64 (posOf s l t))))), (98, (.spec 97 Bool.false (.cel (.int .i64 (posOf s l (Go.IntKind.wrap Go.IntKind.i64 (t + d))))))), (97, (.one (.cel (.bool ((((((!(decide ((mErr s l (0 : Int)) = (0 : Int)))) || (!(decide ((mErr s l t) = (0 : Int))))) || (!(decide ((mErr s l (Go.IntKind.wrap Go.IntKind.i64 (t + d))) = (0 : Int))))) || (!(decide ((mErr s l t) = (0 : Int))))) || (!(decide ((posOf s l (0 : Int)) = s)))) || (decide ((posOf s l t) < (posOf s l (0 : Int))))))))), (96, (.one (.cel (.bool ((((((!(decide ((mErr s l (0 : Int)) = (0 : Int)))) || (!(decide ((mErr s l t) = (0 : Int))))) || (!(decide ((mErr s l (Go.IntKind.wrap Go.IntKind.i64 (t + d))) = (0 : Int))))) || (!(decide ((mErr s l t) = (0 : Int))))) || (!(decide ((posOf s l (0 : Int)) = s)))) || (decide ((posOf s l t) < (posOf s l (0 : Int))))))))), (95, (.spec 92 Bool.false (.cel (.bool (decide ((posOf s l t) < (posOf s l (0 : Int)))))))), (94, (.spec 92 Bool.false (.cel (.int .i64 (posOf s l (0 : Int)))))), (93, (.spec 92 Bool.false (.cel (.int .i64 (posOf s l t))))), (92, (.one (.cel (.bool (((((!(decide ((mErr s l (0 : Int)) = (0 : Int)))) || (!(decide ((mErr s l t) = (0 : Int))))) || (!(decide ((mErr s l (Go.IntKind.wrap Go.IntKind.i64 (t + d))) = (0 : Int))))) || (!(decide ((mErr s l t) = (0 : Int))))) || (!(decide ((posOf s l (0 : Int)) = s)))))))), (91, (.one (.cel (.bool (((((!(decide ((mErr s l (0 : Int)) = (0 : Int)))) || (!(decide ((mErr s l t) = (0 : Int))))) || (!(decide ((mErr s l (Go.IntKind.wrap Go.IntKind.i64 (t + d))) = (0 : Int))))) || (!(decide ((mErr s l t) = (0 : Int))))) || (!(decide ((posOf s l (0 : Int)) = s)))))))), (90, (.spec 86 Bool.false (.cel (.bool (!(decide ((posOf s l (0 : Int)) = s))))))), (89, (.spec 86 Bool.false (.cel (.int .i64 s)))), (88, (.spec 86 Bool.false (.cel (.ptr 0 0)))), (87, (.spec 86 Bool.false (.cel (.int .i64 (posOf s l (0 : Int)))))), (86, (.one (.cel (.bool ((((!(decide ((mErr s l (0 : Int)) = (0 : Int)))) || (!(decide ((mErr s l t) = (0 : Int))))) || (!(decide ((mErr s l (Go.IntKind.wrap Go.IntKind.i64 (t + d))) = (0 : Int))))) || (!(decide ((mErr s l t) = (0 : Int))))))))), (85, (.one (.cel (.bool ((((!(decide ((mErr s l (0 : Int)) = (0 : Int)))) || (!(decide ((mErr s l t) = (0 : Int))))) || (!(decide ((mErr s l (Go.IntKind.wrap Go.IntKind.i64 (t + d))) = (0 : Int))))) || (!(decide ((mErr s l t) = (0 : Int))))))))), (84, (.spec 82 Bool.false (.cel (.bool (!(decide ((mErr s l t) = (0 : Int)))))))), (83, (.spec 82 Bool.false (.cel (.int .i64 (mErr s l t))))), (82, (.one (.cel (.bool (((!(decide ((mErr s l (0 : Int)) = (0 : Int)))) || (!(decide ((mErr s l t) = (0 : Int))))) || (!(decide ((mErr s l (Go.IntKind.wrap Go.IntKind.i64 (t + d))) = (0 : Int))))))))), (81, (.one (.cel (.bool (((!(decide ((mErr s l (0 : Int)) = (0 : Int)))) || (!(decide ((mErr s l t) = (0 : Int))))) || (!(decide ((mErr s l (Go.IntKind.wrap Go.IntKind.i64 (t + d))) = (0 : Int))))))))), (80, (.spec 78 Bool.false (.cel (.bool (!(decide ((mErr s l (Go.IntKind.wrap Go.IntKind.i64 (t + d))) = (0 : Int)))))))), (79, (.spec 78 Bool.false (.cel (.int .i64 (mErr s l (Go.IntKind.wrap Go.IntKind.i64 (t + d))))))), (78, (.one (.cel (.bool ((!(decide ((mErr s l (0 : Int)) = (0 : Int)))) || (!(decide ((mErr s l t) = (0 : Int))))))))), (77, (.one (.cel (.bool ((!(decide ((mErr s l (0 : Int)) = (0 : Int)))) || (!(decide ((mErr s l t) = (0 : Int))))))))), (76, (.spec 74 Bool.false (.cel (.bool (!(decide ((mErr s l t) = (0 : Int)))))))), (75, (.spec 74 Bool.false (.cel (.int .i64 (mErr s l t))))), (74, (.one (.cel (.bool (!(decide ((mErr s l (0 : Int)) = (0 : Int)))))))), (73, (.one (.cel (.bool (!(decide ((mErr s l (0 : Int)) = (0 : Int)))))))), (72, (.one (.cel (.int .i64 (mErr s l (0 : Int)))))), (14, (.one (.cel (.int .i64 (mErr s l t))))), (13, (.one (.cel (.int .i64 (spdOf s l t))))), (71, (.one (.cel (.int .i64 (mErr s l t))))), (70, (.one (.cel (.int .i64 (spdOf s l t))))), (66, (.tup [(.cel (.int .i64 (spdOf s l t))), (.cel (.int .i64 (mErr s l t)))])), (69, (.tup [(.cel (.int .i64 (spdOf s l t))), (.cel (.int .i64 (mErr s l t)))])), (68, (.one (.cel (.int .i64 t)))), (67, (.one (.agg [(.int .i64 s), (.row 0)]))), (12, (.one (.cel (.int .i64 (mErr s l (Go.IntKind.wrap Go.IntKind.i64 (t + d))))))), (11, (.one (.cel (.int .i64 (posOf s l (Go.IntKind.wrap Go.IntKind.i64 (t + d))))))), (65, (.one (.cel (.int .i64 (mErr s l (Go.IntKind.wrap Go.IntKind.i64 (t + d))))))), (64, (.one (.cel (.int .i64 (posOf s l (Go.IntKind.wrap Go.IntKind.i64 (t + d))))))), (58, (.tup [(.cel (.int .i64 (posOf s l (Go.IntKind.wrap Go.IntKind.i64 (t + d))))), (.cel (.int .i64 (mErr s l (Go.IntKind.wrap Go.IntKind.i64 (t + d)))))])), (63, (.tup [(.cel (.int .i64 (posOf s l (Go.IntKind.wrap Go.IntKind.i64 (t + d))))), (.cel (.int .i64 (mErr s l (Go.IntKind.wrap Go.IntKind.i64 (t + d)))))])), (62, (.one (.cel (.int .i64 (Go.IntKind.wrap Go.IntKind.i64 (t + d)))))), (61, (.one (.cel (.int .i64 d)))), (60, (.one (.cel (.int .i64 t)))), (59, (.one (.agg [(.int .i64 s), (.row 0)]))), (10, (.one (.cel (.int .i64 (mErr s l t))))), (9, (.one (.cel (.int .i64 (posOf s l t))))), (57, (.one (.cel (.int .i64 (mErr s l t))))), (56, (.one (.cel (.int .i64 (posOf s l t))))), (52, (.tup [(.cel (.int .i64 (posOf s l t))), (.cel (.int .i64 (mErr s l t)))])), (55, (.tup [(.cel (.int .i64 (posOf s l t))), (.cel (.int .i64 (mErr s l t)))])), (54, (.one (.cel (.int .i64 t)))), (53, (.one (.agg [(.int .i64 s), (.row 0)]))), (8, (.one (.cel (.int .i64 (mErr s l (0 : Int)))))), (7, (.one (.cel (.int .i64 (posOf s l (0 : Int)))))), (51, (.one (.cel (.int .i64 (mErr s l (0 : Int)))))), (50, (.one (.cel (.int .i64 (posOf s l (0 : Int)))))), (47, (.tup [(.cel (.int .i64 (posOf s l (0 : Int)))), (.cel (.int .i64 (mErr s l (0 : Int))))])), (49, (.tup [(.cel (.int .i64 (posOf s l (0 : Int)))), (.cel (.int .i64 (mErr s l (0 : Int))))])), (48, (.one (.agg [(.int .i64 s), (.row 0)]))), (46, (.one (.cel (.bool (((((Bool.false || (!(mValid s l))) || (decide (t < (0 : Int)))) || (decide ((1099511627776 : Int) < t))) || (decide (d < (0 : Int)))) || (decide ((Go.IntKind.wrap Go.IntKind.i64 ((1099511627776 : Int) - t)) < d))))))), (45, (.spec 41 Bool.false (.cel (.bool (decide ((Go.IntKind.wrap Go.IntKind.i64 ((1099511627776 : Int) - t)) < d)))))), (44, (.spec 41 Bool.false (.cel (.int .i64 (Go.IntKind.wrap Go.IntKind.i64 ((1099511627776 : Int) - t)))))), (43, (.spec 41 Bool.false (.cel (.int .i64 t)))), (42, (.spec 41 Bool.false (.cel (.int .i64 d)))), (41, (.one (.cel (.bool ((((Bool.false || (!(mValid s l))) || (decide (t < (0 : Int)))) || (decide ((1099511627776 : Int) < t))) || (decide (d < (0 : Int)))))))), (40, (.one (.cel (.bool ((((Bool.false || (!(mValid s l))) || (decide (t < (0 : Int)))) || (decide ((1099511627776 : Int) < t))) || (decide (d < (0 : Int)))))))), (39, (.spec 37 Bool.false (.cel (.bool (decide (d < (0 : Int))))))), (38, (.spec 37 Bool.false (.cel (.int .i64 d)))), (37, (.one (.cel (.bool (((Bool.false || (!(mValid s l))) || (decide (t < (0 : Int)))) || (decide ((1099511627776 : Int) < t))))))), (36, (.one (.cel (.bool (((Bool.false || (!(mValid s l))) || (decide (t < (0 : Int)))) || (decide ((1099511627776 : Int) < t))))))), (35, (.spec 33 Bool.false (.cel (.bool (decide ((1099511627776 : Int) < t)))))), (34, (.spec 33 Bool.false (.cel (.int .i64 t)))), (33, (.one (.cel (.bool ((Bool.false || (!(mValid s l))) || (decide (t < (0 : Int)))))))), (32, (.one (.cel (.bool ((Bool.false || (!(mValid s l))) || (decide (t < (0 : Int)))))))), (31, (.spec 29 Bool.false (.cel (.bool (decide (t < (0 : Int))))))), (30, (.spec 29 Bool.false (.cel (.int .i64 t)))), (29, (.one (.cel (.bool (Bool.false || (!(mValid s l))))))), (28, (.one (.cel (.bool (Bool.false || (!(mValid s l))))))), (27, (.spec 24 Bool.false (.cel (.bool (!(mValid s l)))))), (26, (.spec 24 Bool.false (.cel (.bool (mValid s l))))), (25, (.spec 24 Bool.false (.agg [(.int .i64 s), (.row 0)]))), (24, (.one (.cel (.bool Bool.false)))), (23, (.one (.cel (.bool Bool.false)))), (22, (.one (.cel (.bsl 1 1)))), (21, (.one (.agg [(.int .i64 s), (.row 0)]))), (20, (.one (.cel (.bool (!Bool.true))))), (19, (.one (.cel (.bool Bool.true)))), (6, (.one (.cel (.bool Bool.false)))), (3, (.one (.cel (.ptr 0 0)))), (0, (.one (.agg [(.int .i64 s), (.row 0)]))), (1, (.one (.cel (.int .i64 t)))), (2, (.one (.cel (.int .i64 d))))], [[(.int .i64 s), (.row 0)], [(.int .i64 s), (.row 0)], [(.int .i64 s), (.row 0)]], [⟨(.recs [.int .i64, .int .i64] l), none⟩]⟩
def forward_L1_T (s : Int) (l : List (List Int)) (t : Int) (d : Int) (i : Int) (cu : Int) : Prop := (cnd (decide (i < (((List.length l) : Nat) : Int)))
  (cnd (decide ((0 : Int) ≤ i))
    (cnd (decide (i < (((List.length l) : Nat) : Int)))
      (cnd (decide (t < (Go.IntKind.wrap Go.IntKind.i64 (cu + (List.getD (List.getD l (Int.toNat i) ([] : List Int)) 0 (0 : Int))))))
        (cnd (decide ((Go.IntKind.wrap Go.IntKind.i64 (cu + (List.getD (List.getD l (Int.toNat i) ([] : List Int)) 0 (0 : Int)))) < (Go.IntKind.wrap Go.IntKind.i64 (t + d))))
          (Bool.true = Bool.true)
          (cnd ((!((decide ((Go.IntKind.wrap Go.IntKind.i64 (Int.tdiv (Go.IntKind.wrap Go.IntKind.i64 ((spdOf s l t) * d)) (65536 : Int))) ≤ (Go.IntKind.wrap Go.IntKind.i64 ((posOf s l (Go.IntKind.wrap Go.IntKind.i64 (t + d))) - (posOf s l t))))) == Bool.true)) || (decide ((65536 : Int) ≠ (0 : Int))))
            (((decide ((Go.IntKind.wrap Go.IntKind.i64 (Int.tdiv (Go.IntKind.wrap Go.IntKind.i64 ((spdOf s l t) * d)) (65536 : Int))) ≤ (Go.IntKind.wrap Go.IntKind.i64 ((posOf s l (Go.IntKind.wrap Go.IntKind.i64 (t + d))) - (posOf s l t))))) && (decide ((Go.IntKind.wrap Go.IntKind.i64 ((posOf s l (Go.IntKind.wrap Go.IntKind.i64 (t + d))) - (posOf s l t))) ≤ (Go.IntKind.wrap Go.IntKind.i64 ((Go.IntKind.wrap Go.IntKind.i64 (Int.tdiv (Go.IntKind.wrap Go.IntKind.i64 ((spdOf s l t) * d)) (65536 : Int))) + (1 : Int)))))) = Bool.true)
            False))
        ((forward_L1_I s l t d (Go.IntKind.wrap Go.IntKind.i64 (i + (1 : Int))) (Go.IntKind.wrap Go.IntKind.i64 (cu + (List.getD (List.getD l (Int.toNat i) ([] : List Int)) 0 (0 : Int))))) ∧ (((forward_L1_m s l t d (Go.IntKind.wrap Go.IntKind.i64 (i + (1 : Int))) (Go.IntKind.wrap Go.IntKind.i64 (cu + (List.getD (List.getD l (Int.toNat i) ([] : List Int)) 0 (0 : Int))))) < (forward_L1_m s l t d i cu)) ∧ (((Go.IntKind.wrap Go.IntKind.i64 (i + (1 : Int))) = (Go.IntKind.wrap Go.IntKind.i64 (i + (1 : Int)))) ∧ (((((List.length l) : Nat) : Int) = (((List.length l) : Nat) : Int)) ∧ (True ∧ (((Go.IntKind.wrap Go.IntKind.i64 (cu + (List.getD (List.getD l (Int.toNat i) ([] : List Int)) 0 (0 : Int)))) = (Go.IntKind.wrap Go.IntKind.i64 (cu + (List.getD (List.getD l (Int.toNat i) ([] : List Int)) 0 (0 : Int))))) ∧ (((spdOf s l t) = (spdOf s l t)) ∧ (((posOf s l (Go.IntKind.wrap Go.IntKind.i64 (t + d))) = (posOf s l (Go.IntKind.wrap Go.IntKind.i64 (t + d)))) ∧ (((posOf s l t) = (posOf s l t)) ∧ ((Bool.false = Bool.false) ∧ ((t = t) ∧ ((d = d) ∧ (((s = s) ∧ True) ∧ (((s = s) ∧ True) ∧ (((s = s) ∧ True) ∧ ((l = l) ∧ True)))))))))))))))))
      False)
    False)
  (((decide ((posOf s l (Go.IntKind.wrap Go.IntKind.i64 (t + d))) = (posOf s l t))) && (decide ((spdOf s l t) = (0 : Int)))) = Bool.true))
set_option maxRecDepth 100000 in
theorem forward_L1_tree (s : Int) (l : List (List Int)) (t : Int) (d : Int) (i : Int) (cu : Int) : forward_L1_T s l t d i cu = ex Try.prog (inlOf Try.prog [awake_e, position_e, mspeed_e, rvalid_e] [(10, Try.f10)]) (subC (bodyOf Try.f6) [1, 1, 1, 1, 1, 1, 1, 1, 1, 0, 1, 0, 0]) (nextE (forward_L1_N s l t d i cu) (kont Try.prog (inlOf Try.prog [awake_e, position_e, mspeed_e, rvalid_e] [(10, Try.f10)]) (bodyOf Try.f6) [1, 1, 1, 1, 1, 1, 1, 1, 1, 0, 1, 0] (retPost Try.prog Try.f6 1 (forward_res s l t d)))) (forward_L1_F s l t d i cu) := by kernel_rfl
set_option maxRecDepth 100000 in
theorem forward_L1_round (s : Int) (l : List (List Int)) (t : Int) (d : Int) (i : Int) (cu : Int) (p0 : wfI .i64 s = true) (p1 : wfR [.int .i64, .int .i64] l = true) (p2 : wfI .i64 t = true) (p3 : wfI .i64 d = true) (hI_L1 : forward_L1_I s l t d i cu) : forward_L1_T s l t d i cu := by
  obtain ⟨⟨i0, i1, i2, t0, d0, d1, hm⟩, ⟨c0, c1⟩, hv, hw, hs⟩ := hI_L1
  have hpos : ∀ u, 0 ≤ u → u ≤ 1099511627776 → mErr s l u = 0 ∧ posOf s l u = s + way u l / 65536 ∧ spdOf s l u = spd u l := fun u h1 h2 => by
    have e : mErr s l u = 0 := mErr_zero.2 ⟨hm, h1, h2⟩
    exact ⟨e, by unfold posOf; rw [if_pos e], by unfold spdOf; rw [if_pos e]⟩
  obtain ⟨v1, v2, v3⟩ := mV_iff.1 hm
  obtain ⟨n1, n2, n3⟩ := hpos t (by omega) (by omega)
  obtain ⟨o1, o2, o3⟩ := hpos (t + d) (by omega) (by omega)
  have sb := spd_bd l 0 t v3
  have wb := way_bd l 0 t v3 (by omega)
  have wb2 := way_bd l 0 (t + d) v3 (by omega)
  unfold forward_L1_T
  rw [w64 (n := t + d) (by omega) (by omega)]
  rw [n2, n3, o2]
  rw [w64 (n := s + way (t + d) l / 65536 - (s + way t l / 65536)) (by omega) (by omega)]
  by_cases hi : i < l.length
  · have hd := drop_consR (l := l) (i := i) i0 hi
    rw [hd] at hv hw hs
    simp only [hi, i0, decide_true, cnd]
    generalize l.getD i.toNat [] = r at *
    rw [r0e]
    obtain ⟨⟨a1, a2, a3, a4⟩, a5, a6⟩ := vL_cons hv
    rw [w64 (n := i + 1) (by omega) (by omega), w64 (n := cu + r0 r) (by omega) (by omega)]
    simp only [way, spd] at hw hs
    have hz := way_zero _ _ a6
    by_cases hc : t < cu + r0 r
    · rw [if_pos (by omega)] at hs
      rw [decide_eq_true hc]
      by_cases hc2 : cu + r0 r < t + d
      · rw [decide_eq_true hc2]; trivial
      · rw [decide_eq_false hc2]
        rw [show min (t - cu) (r0 r) = t - cu by omega, show min (t - cu + d) (r0 r) = t - cu + d by omega, show t - cu - (t - cu) = 0 by omega, show t - cu + d - (t - cu + d) = 0 by omega, hz, Int.add_mul] at hw
        have hb : 0 ≤ spd t l * d ∧ spd t l * d ≤ 524288 * 1099511627776 := ⟨Int.mul_nonneg sb.1 d0, Int.mul_le_mul sb.2 (by omega) d0 (by omega)⟩
        have he : d * r1 r = spd t l * d := by rw [hs, Int.mul_comm]
        generalize hp : spd t l * d = x at *
        rw [w64 (n := x) (by omega) (by omega), tdiv_pos hb.1, w64 (n := x / 65536) (by omega) (by omega), w64 (n := x / 65536 + 1) (by omega) (by omega)]
        have k1 : decide (x / 65536 ≤ s + way (t + d) l / 65536 - (s + way t l / 65536)) = true := by rw [decide_eq_true_eq]; omega
        have k2 : decide (s + way (t + d) l / 65536 - (s + way t l / 65536) ≤ x / 65536 + 1) = true := by rw [decide_eq_true_eq]; omega
        rw [k1, k2]
        rfl
    · rw [if_neg (by omega)] at hs
      rw [decide_eq_false hc]
      have e1 : (i + 1).toNat = i.toNat + 1 := by omega
      rw [show min (t - cu) (r0 r) = r0 r by omega, show min (t - cu + d) (r0 r) = r0 r by omega] at hw
      refine ⟨⟨⟨by omega, by omega, i2, t0, d0, d1, hm⟩, ⟨by omega, by omega⟩, ?_, ?_, ?_⟩, ?_, by simp⟩
      · rw [e1]; exact a6
      · rw [e1, show t - (cu + r0 r) + d = t - cu + d - r0 r by omega, show t - (cu + r0 r) = t - cu - r0 r by omega]; omega
      · rw [e1, hs, show t - (cu + r0 r) = t - cu - r0 r by omega]
      · unfold forward_L1_m
        omega
  · simp only [hi, decide_false, cnd]
    have e : l.drop i.toNat = [] := List.drop_eq_nil_of_le (by omega)
    rw [e] at hw hs
    simp only [way, spd] at hw hs
    have k1 : decide (s + way (t + d) l / 65536 = s + way t l / 65536) = true := by rw [decide_eq_true_eq]; omega
    have k2 : decide (spd t l = 0) = true := by rw [decide_eq_true_eq]; exact hs
    rw [k1, k2]
    rfl
set_option maxRecDepth 100000 in
theorem forward_L1_entry1 (s : Int) (l : List (List Int)) (t : Int) (d : Int) : (((forward_L1_I s l t d (0 : Int) (0 : Int)) ∧ (((0 : Int) = (0 : Int)) ∧ (((((List.length l) : Nat) : Int) = (((List.length l) : Nat) : Int)) ∧ (True ∧ (((0 : Int) = (0 : Int)) ∧ (((spdOf s l t) = (spdOf s l t)) ∧ (((posOf s l (Go.IntKind.wrap Go.IntKind.i64 (t + d))) = (posOf s l (Go.IntKind.wrap Go.IntKind.i64 (t + d)))) ∧ (((posOf s l t) = (posOf s l t)) ∧ ((Bool.false = Bool.false) ∧ ((t = t) ∧ ((d = d) ∧ (((s = s) ∧ True) ∧ (((s = s) ∧ True) ∧ (((s = s) ∧ True) ∧ ((l = l) ∧ True)))))))))))))))) = forward_L1_E s l t d (forward_L1_S1 s l t d) := by kernel_rfl
theorem forward_L1_1 (s : Int) (l : List (List Int)) (t : Int) (d : Int) (p0 : wfI .i64 s = true) (p1 : wfR [.int .i64, .int .i64] l = true) (p2 : wfI .i64 t = true) (p3 : wfI .i64 d = true) (h : ((forward_L1_I s l t d (0 : Int) (0 : Int)) ∧ (((0 : Int) = (0 : Int)) ∧ (((((List.length l) : Nat) : Int) = (((List.length l) : Nat) : Int)) ∧ (True ∧ (((0 : Int) = (0 : Int)) ∧ (((spdOf s l t) = (spdOf s l t)) ∧ (((posOf s l (Go.IntKind.wrap Go.IntKind.i64 (t + d))) = (posOf s l (Go.IntKind.wrap Go.IntKind.i64 (t + d)))) ∧ (((posOf s l t) = (posOf s l t)) ∧ ((Bool.false = Bool.false) ∧ ((t = t) ∧ ((d = d) ∧ (((s = s) ∧ True) ∧ (((s = s) ∧ True) ∧ (((s = s) ∧ True) ∧ ((l = l) ∧ True)))))))))))))))) : LoopP (ex Try.prog (inlOf Try.prog [awake_e, position_e, mspeed_e, rvalid_e] [(10, Try.f10)]) (subC (bodyOf Try.f6) [1, 1, 1, 1, 1, 1, 1, 1, 1, 0, 1, 0, 0])) (kont Try.prog (inlOf Try.prog [awake_e, position_e, mspeed_e, rvalid_e] [(10, Try.f10)]) (bodyOf Try.f6) [1, 1, 1, 1, 1, 1, 1, 1, 1, 0, 1, 0] (retPost Try.prog Try.f6 1 (forward_res s l t d))) (forward_L1_S1 s l t d) := by
  have hE : forward_L1_E s l t d (forward_L1_S1 s l t d) := Eq.mp (forward_L1_entry1 s l t d) h
  unfold forward_L1_E at hE
  obtain ⟨i, hE⟩ := getI_of hE
  obtain ⟨cu, hE⟩ := getI_of hE
  refine loop_of (α := (Int) × (Int)) (fun xx_ => forward_L1_F s l t d xx_.1 xx_.2) (fun xx_ => forward_L1_I s l t d xx_.1 xx_.2) (fun xx_ => forward_L1_m s l t d xx_.1 xx_.2) (fun xx_ => forward_L1_N s l t d xx_.1 xx_.2) (fun xx_ => forward_L1_T s l t d xx_.1 xx_.2) (fun xx_ s_ h => ?_) ⟨⟨i, cu⟩, hE⟩ (fun xx_ => forward_L1_tree s l t d xx_.1 xx_.2) (fun xx_ hI => forward_L1_round s l t d xx_.1 xx_.2 p0 p1 p2 p3 hI)
  unfold forward_L1_N at h
  obtain ⟨i, h⟩ := getI_of h
  obtain ⟨cu, h⟩ := getI_of h
  exact ⟨⟨i, cu⟩, h⟩
set_option maxRecDepth 100000 in
theorem forward_tree (s : Int) (l : List (List Int)) (t : Int) (d : Int) : ((cnd (decide ((60 : Int) < (((List.length l) : Nat) : Int)))
  (Bool.true = Bool.true)
  (cnd (((((Bool.false || (!(mValid s l))) || (decide (t < (0 : Int)))) || (decide ((1099511627776 : Int) < t))) || (decide (d < (0 : Int)))) || (decide ((Go.IntKind.wrap Go.IntKind.i64 ((1099511627776 : Int) - t)) < d)))
    (Bool.true = Bool.true)
    (cnd (((((((!(decide ((mErr s l (0 : Int)) = (0 : Int)))) || (!(decide ((mErr s l t) = (0 : Int))))) || (!(decide ((mErr s l (Go.IntKind.wrap Go.IntKind.i64 (t + d))) = (0 : Int))))) || (!(decide ((mErr s l t) = (0 : Int))))) || (!(decide ((posOf s l (0 : Int)) = s)))) || (decide ((posOf s l t) < (posOf s l (0 : Int))))) || (decide ((posOf s l (Go.IntKind.wrap Go.IntKind.i64 (t + d))) < (posOf s l t))))
      (Bool.false = Bool.true)
      (LoopP (ex Try.prog (inlOf Try.prog [awake_e, position_e, mspeed_e, rvalid_e] [(10, Try.f10)]) (subC (bodyOf Try.f6) [1, 1, 1, 1, 1, 1, 1, 1, 1, 0, 1, 0, 0])) (kont Try.prog (inlOf Try.prog [awake_e, position_e, mspeed_e, rvalid_e] [(10, Try.f10)]) (bodyOf Try.f6) [1, 1, 1, 1, 1, 1, 1, 1, 1, 0, 1, 0] (retPost Try.prog Try.f6 1 (forward_res s l t d))) (forward_L1_S1 s l t d)))))) = EXD Try.prog (inlOf Try.prog [awake_e, position_e, mspeed_e, rvalid_e] [(10, Try.f10)]) Try.f6 [.agg [.int .i64 s, .row 0], .cel (.int .i64 t), .cel (.int .i64 d)] [.recs [.int .i64, .int .i64] l] (forward_res s l t d) := by kernel_rfl
theorem forward_holds (s : Int) (l : List (List Int)) (t : Int) (d : Int) (p0 : wfI .i64 s = true) (p1 : wfR [.int .i64, .int .i64] l = true) (p2 : wfI .i64 t = true) (p3 : wfI .i64 d = true) : (cnd (decide ((60 : Int) < (((List.length l) : Nat) : Int)))
  (Bool.true = Bool.true)
  (cnd (((((Bool.false || (!(mValid s l))) || (decide (t < (0 : Int)))) || (decide ((1099511627776 : Int) < t))) || (decide (d < (0 : Int)))) || (decide ((Go.IntKind.wrap Go.IntKind.i64 ((1099511627776 : Int) - t)) < d)))
    (Bool.true = Bool.true)
    (cnd (((((((!(decide ((mErr s l (0 : Int)) = (0 : Int)))) || (!(decide ((mErr s l t) = (0 : Int))))) || (!(decide ((mErr s l (Go.IntKind.wrap Go.IntKind.i64 (t + d))) = (0 : Int))))) || (!(decide ((mErr s l t) = (0 : Int))))) || (!(decide ((posOf s l (0 : Int)) = s)))) || (decide ((posOf s l t) < (posOf s l (0 : Int))))) || (decide ((posOf s l (Go.IntKind.wrap Go.IntKind.i64 (t + d))) < (posOf s l t))))
      (Bool.false = Bool.true)
      (LoopP (ex Try.prog (inlOf Try.prog [awake_e, position_e, mspeed_e, rvalid_e] [(10, Try.f10)]) (subC (bodyOf Try.f6) [1, 1, 1, 1, 1, 1, 1, 1, 1, 0, 1, 0, 0])) (kont Try.prog (inlOf Try.prog [awake_e, position_e, mspeed_e, rvalid_e] [(10, Try.f10)]) (bodyOf Try.f6) [1, 1, 1, 1, 1, 1, 1, 1, 1, 0, 1, 0] (retPost Try.prog Try.f6 1 (forward_res s l t d))) (forward_L1_S1 s l t d))))) := by
  by_cases hl : (60 : Int) < l.length
  · rw [decide_eq_true hl]; trivial
  rw [decide_eq_false hl]
  cases hm : mValid s l with
  | false => simp [cnd]
  | true =>
    by_cases hr : (0 ≤ t ∧ t ≤ 1099511627776) ∧ 0 ≤ d ∧ d ≤ 1099511627776 - t
    · obtain ⟨v1, v2, v3⟩ := mV_iff.1 hm
      rw [w64 (n := 1099511627776 - t) (by omega) (by omega), w64 (n := t + d) (by omega) (by omega)]
      have hpos : ∀ u, 0 ≤ u → u ≤ 1099511627776 → mErr s l u = 0 ∧ posOf s l u = s + way u l / 65536 := fun u h1 h2 => by
        have e : mErr s l u = 0 := mErr_zero.2 ⟨hm, h1, h2⟩
        exact ⟨e, by unfold posOf; rw [if_pos e]⟩
      obtain ⟨m1, m2⟩ := hpos 0 (by omega) (by omega)
      obtain ⟨n1, n2⟩ := hpos t (by omega) (by omega)
      obtain ⟨o1, o2⟩ := hpos (t + d) (by omega) (by omega)
      have hz := way_zero l 0 v3
      have b1 := way_bd l 0 t v3 (by omega)
      have b2 := way_more l 0 t d v3 (by omega) (by omega)
      have j1 : decide (t < 0) = false := by rw [decide_eq_false_iff_not]; omega
      have j2 : decide (1099511627776 < t) = false := by rw [decide_eq_false_iff_not]; omega
      have j3 : decide (d < 0) = false := by rw [decide_eq_false_iff_not]; omega
      have j4 : decide (1099511627776 - t < d) = false := by rw [decide_eq_false_iff_not]; omega
      have j5 : decide (posOf s l 0 = s) = true := by rw [decide_eq_true_eq, m2, hz]; omega
      have j6 : decide (posOf s l t < posOf s l 0) = false := by rw [decide_eq_false_iff_not, m2, n2, hz]; omega
      have j7 : decide (posOf s l (t + d) < posOf s l t) = false := by rw [decide_eq_false_iff_not, n2, o2]; omega
      rw [m1, n1, o1, j1, j2, j3, j4, j5, j6, j7]
      exact forward_L1_1 s l t d p0 p1 p2 p3 ⟨⟨⟨by omega, by omega, by omega, by omega, by omega, by omega, hm⟩, ⟨by omega, by omega⟩, by simpa using v3, by simp, by simp⟩, by simp⟩
    · have j : (((((false || (!true)) || (decide (t < (0 : Int)))) || (decide ((1099511627776 : Int) < t))) || (decide (d < (0 : Int)))) || (decide ((Go.IntKind.wrap Go.IntKind.i64 ((1099511627776 : Int) - t)) < d))) = true := by
        by_cases h1 : t < 0
        · simp [h1]
        by_cases h2 : 1099511627776 < t
        · simp [h2]
        by_cases h3 : d < 0
        · simp [h3]
        rw [w64 (n := 1099511627776 - t) (by omega) (by omega)]
        simp only [Bool.or_eq_true, decide_eq_true_eq]
        omega
      rw [j]
      trivial
set_option maxHeartbeats 2000000 in
theorem forward_ok : SoundEnt Try.prog forward_e := by
  refine ent_of_ex (Γ := (inlOf Try.prog [awake_e, position_e, mspeed_e, rvalid_e] [(10, Try.f10)])) (inlOf_sound (scons awake_ok (scons position_ok (scons mspeed_ok (scons rvalid_ok snil)))) (by kernel_rfl) ⟨⟨Try.func10, by kernel_rfl, by kernel_rfl⟩, trivial⟩) (by kernel_rfl) Try.func6 (by kernel_rfl) (by kernel_rfl) (fun args rows res h ho => ?_)
  change forward_go args rows = some res at h
  unfold forward_go at h
  split at h
  · simp only [Option.some.injEq] at h
    subst h
    rename_i q0_ q2_ q3_ q1_
    obtain ⟨p0, p1, p2, p3, _⟩ := ho
    exact EX.of (forward_tree q0_ q1_ q2_ q3_) (forward_holds q0_ q1_ q2_ q3_ p0 p1 p2 p3)
  · cases h
end Go.Proofs.Ytajaaohjdeegeaa

