/- The law of joined motions. -/
import Derived.Test.YtajaaohjdeegeaaM6
namespace Go.Proofs.Ytajaaohjdeegeaa
set_option linter.unusedVariables false
set_option linter.unusedSimpArgs false
open Go.RowKit

theorem way_z0 : ∀ (l : List (List Int)) (e : Int), vL e l = true → way 0 l = 0
  | [], _, _ => rfl
  | r :: l, e, hv => by
    obtain ⟨⟨a1, a2, a3, a4⟩, a5, a6⟩ := vL_cons hv
    simp only [way]
    rw [show min (0 : Int) (r0 r) = 0 by omega, show (0 : Int) - 0 = 0 from rfl, way_z0 l _ a6]
    omega
theorem endL_app : ∀ (l l2 : List (List Int)), endL (l ++ l2) = endL l + endL l2
  | [], l2 => by simp only [List.nil_append, endL]; omega
  | r :: l, l2 => by
    have := endL_app l l2
    simp only [List.cons_append, endL]
    omega
theorem way_app : ∀ (l l2 : List (List Int)) (e u : Int), vL e (l ++ l2) = true → vL e l = true → 0 ≤ u → u < endL l → way u (l ++ l2) = way u l ∧ spd u (l ++ l2) = spd u l
  | [], _, _, u, _, _, h0, h1 => by simp only [endL] at h1; omega
  | r :: l, l2, e, u, hv, hw, h0, h1 => by
    rw [List.cons_append] at hv ⊢
    obtain ⟨_, _, b6⟩ := vL_cons hv
    obtain ⟨⟨a1, a2, a3, a4⟩, a5, a6⟩ := vL_cons hw
    simp only [endL] at h1
    simp only [way, spd]
    by_cases h : u < r0 r
    · rw [if_pos h, if_pos h, show min u (r0 r) = u by omega, show u - u = 0 by omega, way_z0 _ _ b6, way_z0 _ _ a6]
      exact ⟨rfl, rfl⟩
    · rw [if_neg h, if_neg h, show min u (r0 r) = r0 r by omega]
      obtain ⟨g1, g2⟩ := way_app l l2 _ (u - r0 r) b6 a6 (by omega) (by omega)
      rw [g1, g2]
      exact ⟨rfl, rfl⟩
theorem spd_app : ∀ (l l2 : List (List Int)) (e u : Int), vL e l = true → endL l ≤ u → spd u (l ++ l2) = spd (u - endL l) l2
  | [], l2, _, u, _, _ => by simp only [List.nil_append, endL]; rw [Int.sub_zero]
  | r :: l, l2, e, u, hw, h1 => by
    obtain ⟨⟨a1, a2, a3, a4⟩, a5, a6⟩ := vL_cons hw
    have he := endL_bd l _ a5 a6
    simp only [endL] at h1
    rw [List.cons_append]
    simp only [spd, endL]
    rw [if_neg (show ¬ u < r0 r by omega), spd_app l l2 _ (u - r0 r) a6 (by omega), show u - r0 r - endL l = u - (r0 r + endL l) by omega]
def joins_res (s : Int) (l : List (List Int)) (s2 : Int) (l2 : List (List Int)) (t : Int) (k : Int) : CRes := ⟨[wfI .i64 s, wfR [.int .i64, .int .i64] l, wfI .i64 s2, wfR [.int .i64, .int .i64] l2, wfI .i64 t, wfI .i64 k], .one (.cel (.bool (true))), []⟩
def joins_go : List TV → List RowA → List (List CV) → Option CRes := fun args rows caps =>
  match args, rows, caps with
  | [.agg [.int .i64 s, .row 0], .agg [.int .i64 s2, .row 1], .cel (.int .i64 t), .cel (.int .i64 k)], [.recs [.int .i64, .int .i64] l, .recs [.int .i64, .int .i64] l2], [] => some (joins_res s l s2 l2 t k)
  | _, _, _ => none
def joins_e : Ent := ⟨8, [.recs [.int .i64, .int .i64] [], .recs [.int .i64, .int .i64] []], joins_go⟩
set_option maxRecDepth 100000 in
theorem joins_tree (s : Int) (l : List (List Int)) (s2 : Int) (l2 : List (List Int)) (t : Int) (k : Int) : ((cnd (decide ((60 : Int) < (((List.length l) : Nat) : Int)))
  (Bool.true = Bool.true)
  (cnd (decide ((60 : Int) < (((List.length l2) : Nat) : Int)))
    (Bool.true = Bool.true)
    (cnd (decide ((((List.length (if ((((mValid s l) && (mValid s2 l2)) && (mValid s (l ++ l2))) = Bool.true) then (l ++ l2) else ([] : List (List Int)))) : Nat) : Int) ≤ (1000000 : Int)))
      (cnd (decide ((((List.length (if ((((mValid s l) && (mValid s2 l2)) && (mValid s (l ++ l2))) = Bool.true) then (l ++ l2) else ([] : List (List Int)))) : Nat) : Int) ≤ (1000000 : Int)))
        (cnd (((!((decide ((if ((((mValid s l) && (mValid s2 l2)) && (mValid s (l ++ l2))) = Bool.true) then s else (0 : Int)) = (if ((((mValid s l) && (mValid s2 l2)) && (mValid s (l ++ l2))) = Bool.true) then s else (0 : Int)))) && (decide ((List.map two (if ((((mValid s l) && (mValid s2 l2)) && (mValid s (l ++ l2))) = Bool.true) then (l ++ l2) else ([] : List (List Int)))) = (List.map two (if ((((mValid s l) && (mValid s2 l2)) && (mValid s (l ++ l2))) = Bool.true) then (l ++ l2) else ([] : List (List Int)))))))) || (!(decide ((if (((mValid s l) && (mValid s2 l2)) = Bool.true) then (if ((mValid s (l ++ l2)) = Bool.true) then (0 : Int) else (5 : Int)) else (1 : Int)) = (if (((mValid s l) && (mValid s2 l2)) = Bool.true) then (if ((mValid s (l ++ l2)) = Bool.true) then (0 : Int) else (5 : Int)) else (1 : Int)))))) || (!((stdOk s l k) == (stdOk s l k))))
          (Bool.false = Bool.true)
          (cnd (((!(decide ((if (((mValid s l) && (mValid s2 l2)) = Bool.true) then (if ((mValid s (l ++ l2)) = Bool.true) then (0 : Int) else (5 : Int)) else (1 : Int)) = (0 : Int)))) || (decide (t < (0 : Int)))) || (decide ((endOf (if ((((mValid s l) && (mValid s2 l2)) && (mValid s (l ++ l2))) = Bool.true) then s else (0 : Int)) (if ((((mValid s l) && (mValid s2 l2)) && (mValid s (l ++ l2))) = Bool.true) then (l ++ l2) else ([] : List (List Int)))) < t)))
            (Bool.true = Bool.true)
            (cnd (decide (t < (endOf s l)))
              (((((decide ((mErr (if ((((mValid s l) && (mValid s2 l2)) && (mValid s (l ++ l2))) = Bool.true) then s else (0 : Int)) (if ((((mValid s l) && (mValid s2 l2)) && (mValid s (l ++ l2))) = Bool.true) then (l ++ l2) else ([] : List (List Int))) t) = (mErr s l t))) && (decide ((posOf (if ((((mValid s l) && (mValid s2 l2)) && (mValid s (l ++ l2))) = Bool.true) then s else (0 : Int)) (if ((((mValid s l) && (mValid s2 l2)) && (mValid s (l ++ l2))) = Bool.true) then (l ++ l2) else ([] : List (List Int))) t) = (posOf s l t)))) && (decide ((mErr (if ((((mValid s l) && (mValid s2 l2)) && (mValid s (l ++ l2))) = Bool.true) then s else (0 : Int)) (if ((((mValid s l) && (mValid s2 l2)) && (mValid s (l ++ l2))) = Bool.true) then (l ++ l2) else ([] : List (List Int))) t) = (mErr s l t)))) && (decide ((spdOf (if ((((mValid s l) && (mValid s2 l2)) && (mValid s (l ++ l2))) = Bool.true) then s else (0 : Int)) (if ((((mValid s l) && (mValid s2 l2)) && (mValid s (l ++ l2))) = Bool.true) then (l ++ l2) else ([] : List (List Int))) t) = (spdOf s l t)))) = Bool.true)
              ((((decide ((mErr (if ((((mValid s l) && (mValid s2 l2)) && (mValid s (l ++ l2))) = Bool.true) then s else (0 : Int)) (if ((((mValid s l) && (mValid s2 l2)) && (mValid s (l ++ l2))) = Bool.true) then (l ++ l2) else ([] : List (List Int))) t) = (0 : Int))) && (decide ((mErr (if ((((mValid s l) && (mValid s2 l2)) && (mValid s (l ++ l2))) = Bool.true) then s else (0 : Int)) (if ((((mValid s l) && (mValid s2 l2)) && (mValid s (l ++ l2))) = Bool.true) then (l ++ l2) else ([] : List (List Int))) t) = (mErr s2 l2 (Go.IntKind.wrap Go.IntKind.i64 (t - (endOf s l))))))) && (decide ((spdOf (if ((((mValid s l) && (mValid s2 l2)) && (mValid s (l ++ l2))) = Bool.true) then s else (0 : Int)) (if ((((mValid s l) && (mValid s2 l2)) && (mValid s (l ++ l2))) = Bool.true) then (l ++ l2) else ([] : List (List Int))) t) = (spdOf s2 l2 (Go.IntKind.wrap Go.IntKind.i64 (t - (endOf s l))))))) = Bool.true))))
        False)
      False)))) = EXD Try.prog (inlOf Try.prog [awake_e, join_e, rjoin_e, rsame_e, steady_e, rsteady_e, mend_e, position_e, mspeed_e] [(10, Try.f10)] []) Try.f8 [.agg [.int .i64 s, .row 0], .agg [.int .i64 s2, .row 1], .cel (.int .i64 t), .cel (.int .i64 k)] [.recs [.int .i64, .int .i64] l, .recs [.int .i64, .int .i64] l2] [] (joins_res s l s2 l2 t k) := by kernel_rfl
theorem joins_holds (s : Int) (l : List (List Int)) (s2 : Int) (l2 : List (List Int)) (t : Int) (k : Int) (p0 : (wfI .i64 s) = true) (p1 : (wfR [.int .i64, .int .i64] l) = true) (p2 : (wfI .i64 s2) = true) (p3 : (wfR [.int .i64, .int .i64] l2) = true) (p4 : (wfI .i64 t) = true) (p5 : (wfI .i64 k) = true) : (cnd (decide ((60 : Int) < (((List.length l) : Nat) : Int)))
  (Bool.true = Bool.true)
  (cnd (decide ((60 : Int) < (((List.length l2) : Nat) : Int)))
    (Bool.true = Bool.true)
    (cnd (decide ((((List.length (if ((((mValid s l) && (mValid s2 l2)) && (mValid s (l ++ l2))) = Bool.true) then (l ++ l2) else ([] : List (List Int)))) : Nat) : Int) ≤ (1000000 : Int)))
      (cnd (decide ((((List.length (if ((((mValid s l) && (mValid s2 l2)) && (mValid s (l ++ l2))) = Bool.true) then (l ++ l2) else ([] : List (List Int)))) : Nat) : Int) ≤ (1000000 : Int)))
        (cnd (((!((decide ((if ((((mValid s l) && (mValid s2 l2)) && (mValid s (l ++ l2))) = Bool.true) then s else (0 : Int)) = (if ((((mValid s l) && (mValid s2 l2)) && (mValid s (l ++ l2))) = Bool.true) then s else (0 : Int)))) && (decide ((List.map two (if ((((mValid s l) && (mValid s2 l2)) && (mValid s (l ++ l2))) = Bool.true) then (l ++ l2) else ([] : List (List Int)))) = (List.map two (if ((((mValid s l) && (mValid s2 l2)) && (mValid s (l ++ l2))) = Bool.true) then (l ++ l2) else ([] : List (List Int)))))))) || (!(decide ((if (((mValid s l) && (mValid s2 l2)) = Bool.true) then (if ((mValid s (l ++ l2)) = Bool.true) then (0 : Int) else (5 : Int)) else (1 : Int)) = (if (((mValid s l) && (mValid s2 l2)) = Bool.true) then (if ((mValid s (l ++ l2)) = Bool.true) then (0 : Int) else (5 : Int)) else (1 : Int)))))) || (!((stdOk s l k) == (stdOk s l k))))
          (Bool.false = Bool.true)
          (cnd (((!(decide ((if (((mValid s l) && (mValid s2 l2)) = Bool.true) then (if ((mValid s (l ++ l2)) = Bool.true) then (0 : Int) else (5 : Int)) else (1 : Int)) = (0 : Int)))) || (decide (t < (0 : Int)))) || (decide ((endOf (if ((((mValid s l) && (mValid s2 l2)) && (mValid s (l ++ l2))) = Bool.true) then s else (0 : Int)) (if ((((mValid s l) && (mValid s2 l2)) && (mValid s (l ++ l2))) = Bool.true) then (l ++ l2) else ([] : List (List Int)))) < t)))
            (Bool.true = Bool.true)
            (cnd (decide (t < (endOf s l)))
              (((((decide ((mErr (if ((((mValid s l) && (mValid s2 l2)) && (mValid s (l ++ l2))) = Bool.true) then s else (0 : Int)) (if ((((mValid s l) && (mValid s2 l2)) && (mValid s (l ++ l2))) = Bool.true) then (l ++ l2) else ([] : List (List Int))) t) = (mErr s l t))) && (decide ((posOf (if ((((mValid s l) && (mValid s2 l2)) && (mValid s (l ++ l2))) = Bool.true) then s else (0 : Int)) (if ((((mValid s l) && (mValid s2 l2)) && (mValid s (l ++ l2))) = Bool.true) then (l ++ l2) else ([] : List (List Int))) t) = (posOf s l t)))) && (decide ((mErr (if ((((mValid s l) && (mValid s2 l2)) && (mValid s (l ++ l2))) = Bool.true) then s else (0 : Int)) (if ((((mValid s l) && (mValid s2 l2)) && (mValid s (l ++ l2))) = Bool.true) then (l ++ l2) else ([] : List (List Int))) t) = (mErr s l t)))) && (decide ((spdOf (if ((((mValid s l) && (mValid s2 l2)) && (mValid s (l ++ l2))) = Bool.true) then s else (0 : Int)) (if ((((mValid s l) && (mValid s2 l2)) && (mValid s (l ++ l2))) = Bool.true) then (l ++ l2) else ([] : List (List Int))) t) = (spdOf s l t)))) = Bool.true)
              ((((decide ((mErr (if ((((mValid s l) && (mValid s2 l2)) && (mValid s (l ++ l2))) = Bool.true) then s else (0 : Int)) (if ((((mValid s l) && (mValid s2 l2)) && (mValid s (l ++ l2))) = Bool.true) then (l ++ l2) else ([] : List (List Int))) t) = (0 : Int))) && (decide ((mErr (if ((((mValid s l) && (mValid s2 l2)) && (mValid s (l ++ l2))) = Bool.true) then s else (0 : Int)) (if ((((mValid s l) && (mValid s2 l2)) && (mValid s (l ++ l2))) = Bool.true) then (l ++ l2) else ([] : List (List Int))) t) = (mErr s2 l2 (Go.IntKind.wrap Go.IntKind.i64 (t - (endOf s l))))))) && (decide ((spdOf (if ((((mValid s l) && (mValid s2 l2)) && (mValid s (l ++ l2))) = Bool.true) then s else (0 : Int)) (if ((((mValid s l) && (mValid s2 l2)) && (mValid s (l ++ l2))) = Bool.true) then (l ++ l2) else ([] : List (List Int))) t) = (spdOf s2 l2 (Go.IntKind.wrap Go.IntKind.i64 (t - (endOf s l))))))) = Bool.true))))
        False)
      False))) := by
  by_cases hl : (60 : Int) < l.length
  · rw [decide_eq_true hl]; trivial
  by_cases hl2 : (60 : Int) < l2.length
  · rw [decide_eq_false hl, decide_eq_true hl2]; trivial
  rw [decide_eq_false hl, decide_eq_false hl2]
  cases h1 : mValid s l with
  | false => simp [cnd]
  | true =>
    cases h2 : mValid s2 l2 with
    | false => simp [cnd]
    | true =>
      cases h3 : mValid s (l ++ l2) with
      | false => simp [cnd]
      | true =>
        obtain ⟨u1, u2, u3⟩ := mV_iff.1 h1
        obtain ⟨v1, v2, v3⟩ := mV_iff.1 h2
        obtain ⟨w1, w2, w3⟩ := mV_iff.1 h3
        have q1 := endL_bd l 0 (by omega) u3
        have q2 := endL_bd l2 0 (by omega) v3
        have q3 := endL_bd (l ++ l2) 0 (by omega) w3
        have qa := endL_app l l2
        have e1 : endOf s l = endL l := by unfold endOf; rw [h1]; rfl
        have e3 : endOf s (l ++ l2) = endL (l ++ l2) := by unfold endOf; rw [h3]; rfl
        simp only [Bool.and_self, if_true, e1, e3]
        rw [decide_eq_true (show (((l ++ l2).length : Nat) : Int) ≤ 1000000 by omega)]
        simp only [decide_true, Bool.and_self, beq_self_eq_true, Bool.not_true, Bool.or_self, Bool.false_or, cnd]
        by_cases ht : 0 ≤ t ∧ t ≤ endL (l ++ l2)
        · rw [decide_eq_false (show ¬ t < 0 by omega), decide_eq_false (show ¬ endL (l ++ l2) < t by omega)]
          have m3 : mErr s (l ++ l2) t = 0 := mErr_zero.2 ⟨h3, by omega, by omega⟩
          have p3 : posOf s (l ++ l2) t = s + way t (l ++ l2) / 65536 := by unfold posOf; rw [if_pos m3]
          have s3 : spdOf s (l ++ l2) t = spd t (l ++ l2) := by unfold spdOf; rw [if_pos m3]
          by_cases hc : t < endL l
          · have m1 : mErr s l t = 0 := mErr_zero.2 ⟨h1, by omega, by omega⟩
            have p1' : posOf s l t = s + way t l / 65536 := by unfold posOf; rw [if_pos m1]
            have s1 : spdOf s l t = spd t l := by unfold spdOf; rw [if_pos m1]
            obtain ⟨g1, g2⟩ := way_app l l2 0 t w3 u3 (by omega) hc
            rw [decide_eq_true hc, m3, p3, s3, m1, p1', s1, g1, g2]
            simp [cnd]
          · rw [decide_eq_false hc, w64 (n := t - endL l) (by omega) (by omega)]
            have m2 : mErr s2 l2 (t - endL l) = 0 := mErr_zero.2 ⟨h2, by omega, by omega⟩
            have s2' : spdOf s2 l2 (t - endL l) = spd (t - endL l) l2 := by unfold spdOf; rw [if_pos m2]
            rw [m3, s3, m2, s2', spd_app l l2 0 t u3 (by omega)]
            simp [cnd]
        · have j : (decide (t < 0) || decide (endL (l ++ l2) < t)) = true := by
            rcases Int.lt_or_le t 0 with h | h
            · rw [decide_eq_true h]; rfl
            · rw [decide_eq_true (show endL (l ++ l2) < t by omega), Bool.or_true]
          rw [j]
          trivial
set_option maxHeartbeats 2000000 in
theorem joins_ok : SoundEnt Try.prog joins_e := by
  refine ent_of_ex (Γ := (inlOf Try.prog [awake_e, join_e, rjoin_e, rsame_e, steady_e, rsteady_e, mend_e, position_e, mspeed_e] [(10, Try.f10)] [])) (inlOf_sound (scons awake_ok (scons join_ok (scons rjoin_ok (scons rsame_ok (scons steady_ok (scons rsteady_ok (scons mend_ok (scons position_ok (scons mspeed_ok snil))))))))) (by kernel_rfl) ⟨⟨Try.func10, by kernel_rfl, by kernel_rfl⟩, trivial⟩ spnil) (by kernel_rfl) Try.func8 (by kernel_rfl) (by kernel_rfl) (fun args rows caps res h ho => ?_)
  change joins_go args rows caps = some res at h
  unfold joins_go at h
  split at h
  · simp only [Option.some.injEq] at h
    subst h
    rename_i q0_ q2_ q4_ q5_ q1_ q3_
    obtain ⟨p0, p1, p2, p3, p4, p5, _⟩ := ho
    exact EX.of (joins_tree q0_ q1_ q2_ q3_ q4_ q5_) (joins_holds q0_ q1_ q2_ q3_ q4_ q5_ p0 p1 p2 p3 p4 p5)
  · cases h
end Go.Proofs.Ytajaaohjdeegeaa

