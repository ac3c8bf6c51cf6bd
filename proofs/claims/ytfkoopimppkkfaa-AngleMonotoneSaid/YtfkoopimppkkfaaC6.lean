/- The angle never goes back between teeth. -/
import Derived.Test.YtfkoopimppkkfaaC2
namespace Go.Proofs.Ytfkoopimppkkfaa
set_option linter.unusedVariables false
set_option linter.unusedSimpArgs false
open Go.RowKit

def ahead_res (x : Int) (f : Int) : CRes := ⟨[decide (0 ≤ x), decide (x < 46080), decide (0 ≤ f), decide (f < 46080)], .one (.cel (.int .i64 (tmD f x))), []⟩
def ahead_go : List TV → List RowA → List (List CV) → Option CRes := fun args rows caps =>
  match args, rows, caps with
  | [.cel (.int .i64 x), .cel (.ptr 0 0)], [], [[.int .i64 f]] => some (ahead_res x f)
  | _, _, _ => none
def ahead_e : Ent := ⟨22, [], ahead_go⟩
set_option maxRecDepth 100000 in
theorem ahead_tree (x : Int) (f : Int) : (((Int.tmod (Go.IntKind.wrap Go.IntKind.i64 ((Int.tmod (Go.IntKind.wrap Go.IntKind.i64 (x - f)) (46080 : Int)) + (46080 : Int))) (46080 : Int)) = (tmD f x))) = EXD Try.prog (conOf []) Try.f22 [.cel (.int .i64 x), .cel (.ptr 0 0)] [] [[.int .i64 f]] (ahead_res x f) := by kernel_rfl
theorem ahead_holds (x : Int) (f : Int) (p0 : (decide (0 ≤ x)) = true) (p1 : (decide (x < 46080)) = true) (p2 : (decide (0 ≤ f)) = true) (p3 : (decide (f < 46080)) = true) : ((Int.tmod (Go.IntKind.wrap Go.IntKind.i64 ((Int.tmod (Go.IntKind.wrap Go.IntKind.i64 (x - f)) (46080 : Int)) + (46080 : Int))) (46080 : Int)) = (tmD f x)) := by
  simp only [decide_eq_true_eq] at p0 p1 p2 p3
  rw [w64 (n := x - f) (by omega) (by omega)]
  have e : Int.tmod (x - f) 46080 = x - f := by
    rcases Int.lt_or_le (x - f) 0 with h | h
    · have : x - f = -(f - x) := by omega
      rw [this, Int.neg_tmod, show Int.tmod (f - x) 46080 = (f - x) % 46080 from tmod_pos (by omega)]
      omega
    · rw [tmod_pos h]; omega
  rw [e, w64 (n := x - f + 46080) (by omega) (by omega), tmod_pos (by omega)]
  rfl
set_option maxHeartbeats 2000000 in
theorem ahead_ok : SoundEnt Try.prog ahead_e := by
  refine ent_of_ex (Γ := (conOf [])) (conOf_sound snil) (by kernel_rfl) Try.func22 (by kernel_rfl) (by kernel_rfl) (fun args rows caps res h ho => ?_)
  change ahead_go args rows caps = some res at h
  unfold ahead_go at h
  split at h
  · simp only [Option.some.injEq] at h
    subst h
    rename_i q0_ q1_
    obtain ⟨p0, p1, p2, p3, _⟩ := ho
    exact EX.of (ahead_tree q0_ q1_) (ahead_holds q0_ q1_ p0 p1 p2 p3)
  · cases h
def monotone_res (v : Bool) (a0 : Int) (an : Int) (pe : Int) (sp : Int) (ah : Int) (t : Int) (l : Int) : CRes := ⟨[wfI .i64 a0, wfI .i64 an, wfI .i64 pe, wfI .i64 sp, wfI .i64 ah, wfI .u32 t, wfI .u32 l], .one (.cel (.bool (true))), []⟩
def monotone_go : List TV → List RowA → List (List CV) → Option CRes := fun args rows caps =>
  match args, rows, caps with
  | [.agg [.bool v, .int .i64 a0, .int .i64 an, .int .i64 pe, .int .i64 sp, .int .i64 ah], .cel (.int .u32 t), .cel (.int .u32 l)], [], [] => some (monotone_res v a0 an pe sp ah t l)
  | _, _, _ => none
def monotone_e : Ent := ⟨6, [], monotone_go⟩
set_option maxRecDepth 100000 in
theorem monotone_tree (v : Bool) (a0 : Int) (an : Int) (pe : Int) (sp : Int) (ah : Int) (t : Int) (l : Int) : ((cnd ((!(cValid v a0 an pe sp ah)) || (!v))
  (((decide ((rcA v a0 an pe sp ah) = (0 : Int))) && (decide ((rcB v a0 an pe sp ah) = (0 : Int)))) = Bool.true)
  (cnd (decide ((1099511627776 : Int) < (Go.IntKind.wrap Go.IntKind.i64 ((Go.IntKind.wrap Go.IntKind.i64 (a0 + (Go.IntKind.wrap Go.IntKind.i64 t))) + (Go.IntKind.wrap Go.IntKind.i64 l)))))
    (Bool.true = Bool.true)
    (cnd ((!((((((!(decide ((atErr v a0 an pe sp ah (Go.IntKind.wrap Go.IntKind.i64 (a0 + (Go.IntKind.wrap Go.IntKind.i64 t)))) = (0 : Int)))) || (!(decide ((atErr v a0 an pe sp ah (Go.IntKind.wrap Go.IntKind.i64 ((Go.IntKind.wrap Go.IntKind.i64 (a0 + (Go.IntKind.wrap Go.IntKind.i64 t))) + (Go.IntKind.wrap Go.IntKind.i64 l)))) = (0 : Int))))) || (!(decide ((atErr v a0 an pe sp ah a0) = (0 : Int))))) || (!(decide ((atA v a0 an pe sp ah a0) = an)))) || (!(decide ((rcA v a0 an pe sp ah) = an)))) == Bool.false)) || (decide ((0 : Int) ≤ (rcB v a0 an pe sp ah))))
      (cnd ((!((((((!(decide ((atErr v a0 an pe sp ah (Go.IntKind.wrap Go.IntKind.i64 (a0 + (Go.IntKind.wrap Go.IntKind.i64 t)))) = (0 : Int)))) || (!(decide ((atErr v a0 an pe sp ah (Go.IntKind.wrap Go.IntKind.i64 ((Go.IntKind.wrap Go.IntKind.i64 (a0 + (Go.IntKind.wrap Go.IntKind.i64 t))) + (Go.IntKind.wrap Go.IntKind.i64 l)))) = (0 : Int))))) || (!(decide ((atErr v a0 an pe sp ah a0) = (0 : Int))))) || (!(decide ((atA v a0 an pe sp ah a0) = an)))) || (!(decide ((rcA v a0 an pe sp ah) = an)))) == Bool.false)) || (decide ((rcB v a0 an pe sp ah) < (46080 : Int))))
        (cnd ((!((((((!(decide ((atErr v a0 an pe sp ah (Go.IntKind.wrap Go.IntKind.i64 (a0 + (Go.IntKind.wrap Go.IntKind.i64 t)))) = (0 : Int)))) || (!(decide ((atErr v a0 an pe sp ah (Go.IntKind.wrap Go.IntKind.i64 ((Go.IntKind.wrap Go.IntKind.i64 (a0 + (Go.IntKind.wrap Go.IntKind.i64 t))) + (Go.IntKind.wrap Go.IntKind.i64 l)))) = (0 : Int))))) || (!(decide ((atErr v a0 an pe sp ah a0) = (0 : Int))))) || (!(decide ((atA v a0 an pe sp ah a0) = an)))) || (!(decide ((rcA v a0 an pe sp ah) = an)))) == Bool.false)) || (decide ((0 : Int) ≤ (rcA v a0 an pe sp ah))))
          (cnd ((!((((((!(decide ((atErr v a0 an pe sp ah (Go.IntKind.wrap Go.IntKind.i64 (a0 + (Go.IntKind.wrap Go.IntKind.i64 t)))) = (0 : Int)))) || (!(decide ((atErr v a0 an pe sp ah (Go.IntKind.wrap Go.IntKind.i64 ((Go.IntKind.wrap Go.IntKind.i64 (a0 + (Go.IntKind.wrap Go.IntKind.i64 t))) + (Go.IntKind.wrap Go.IntKind.i64 l)))) = (0 : Int))))) || (!(decide ((atErr v a0 an pe sp ah a0) = (0 : Int))))) || (!(decide ((atA v a0 an pe sp ah a0) = an)))) || (!(decide ((rcA v a0 an pe sp ah) = an)))) == Bool.false)) || (decide ((rcA v a0 an pe sp ah) < (46080 : Int))))
            (cnd ((((((!(decide ((atErr v a0 an pe sp ah (Go.IntKind.wrap Go.IntKind.i64 (a0 + (Go.IntKind.wrap Go.IntKind.i64 t)))) = (0 : Int)))) || (!(decide ((atErr v a0 an pe sp ah (Go.IntKind.wrap Go.IntKind.i64 ((Go.IntKind.wrap Go.IntKind.i64 (a0 + (Go.IntKind.wrap Go.IntKind.i64 t))) + (Go.IntKind.wrap Go.IntKind.i64 l)))) = (0 : Int))))) || (!(decide ((atErr v a0 an pe sp ah a0) = (0 : Int))))) || (!(decide ((atA v a0 an pe sp ah a0) = an)))) || (!(decide ((rcA v a0 an pe sp ah) = an)))) || (!(decide ((tmD (rcA v a0 an pe sp ah) (rcB v a0 an pe sp ah)) = ah))))
              (Bool.false = Bool.true)
              (cnd (decide ((0 : Int) ≤ (atA v a0 an pe sp ah (Go.IntKind.wrap Go.IntKind.i64 (a0 + (Go.IntKind.wrap Go.IntKind.i64 t))))))
                (cnd (decide ((atA v a0 an pe sp ah (Go.IntKind.wrap Go.IntKind.i64 (a0 + (Go.IntKind.wrap Go.IntKind.i64 t)))) < (46080 : Int)))
                  (cnd (decide ((0 : Int) ≤ (rcA v a0 an pe sp ah)))
                    (cnd (decide ((rcA v a0 an pe sp ah) < (46080 : Int)))
                      (cnd (decide ((0 : Int) ≤ (atA v a0 an pe sp ah (Go.IntKind.wrap Go.IntKind.i64 ((Go.IntKind.wrap Go.IntKind.i64 (a0 + (Go.IntKind.wrap Go.IntKind.i64 t))) + (Go.IntKind.wrap Go.IntKind.i64 l))))))
                        (cnd (decide ((atA v a0 an pe sp ah (Go.IntKind.wrap Go.IntKind.i64 ((Go.IntKind.wrap Go.IntKind.i64 (a0 + (Go.IntKind.wrap Go.IntKind.i64 t))) + (Go.IntKind.wrap Go.IntKind.i64 l)))) < (46080 : Int)))
                          (cnd (decide ((0 : Int) ≤ (rcA v a0 an pe sp ah)))
                            (cnd (decide ((rcA v a0 an pe sp ah) < (46080 : Int)))
                              (cnd ((!((decide ((tmD (rcA v a0 an pe sp ah) (atA v a0 an pe sp ah (Go.IntKind.wrap Go.IntKind.i64 ((Go.IntKind.wrap Go.IntKind.i64 (a0 + (Go.IntKind.wrap Go.IntKind.i64 t))) + (Go.IntKind.wrap Go.IntKind.i64 l))))) < (tmD (rcA v a0 an pe sp ah) (atA v a0 an pe sp ah (Go.IntKind.wrap Go.IntKind.i64 (a0 + (Go.IntKind.wrap Go.IntKind.i64 t))))))) == Bool.false)) || (decide ((0 : Int) ≤ (atA v a0 an pe sp ah (Go.IntKind.wrap Go.IntKind.i64 ((Go.IntKind.wrap Go.IntKind.i64 (a0 + (Go.IntKind.wrap Go.IntKind.i64 t))) + (Go.IntKind.wrap Go.IntKind.i64 l)))))))
                                (cnd ((!((decide ((tmD (rcA v a0 an pe sp ah) (atA v a0 an pe sp ah (Go.IntKind.wrap Go.IntKind.i64 ((Go.IntKind.wrap Go.IntKind.i64 (a0 + (Go.IntKind.wrap Go.IntKind.i64 t))) + (Go.IntKind.wrap Go.IntKind.i64 l))))) < (tmD (rcA v a0 an pe sp ah) (atA v a0 an pe sp ah (Go.IntKind.wrap Go.IntKind.i64 (a0 + (Go.IntKind.wrap Go.IntKind.i64 t))))))) == Bool.false)) || (decide ((atA v a0 an pe sp ah (Go.IntKind.wrap Go.IntKind.i64 ((Go.IntKind.wrap Go.IntKind.i64 (a0 + (Go.IntKind.wrap Go.IntKind.i64 t))) + (Go.IntKind.wrap Go.IntKind.i64 l)))) < (46080 : Int))))
                                  (cnd ((!((decide ((tmD (rcA v a0 an pe sp ah) (atA v a0 an pe sp ah (Go.IntKind.wrap Go.IntKind.i64 ((Go.IntKind.wrap Go.IntKind.i64 (a0 + (Go.IntKind.wrap Go.IntKind.i64 t))) + (Go.IntKind.wrap Go.IntKind.i64 l))))) < (tmD (rcA v a0 an pe sp ah) (atA v a0 an pe sp ah (Go.IntKind.wrap Go.IntKind.i64 (a0 + (Go.IntKind.wrap Go.IntKind.i64 t))))))) == Bool.false)) || (decide ((0 : Int) ≤ (rcA v a0 an pe sp ah))))
                                    (cnd ((!((decide ((tmD (rcA v a0 an pe sp ah) (atA v a0 an pe sp ah (Go.IntKind.wrap Go.IntKind.i64 ((Go.IntKind.wrap Go.IntKind.i64 (a0 + (Go.IntKind.wrap Go.IntKind.i64 t))) + (Go.IntKind.wrap Go.IntKind.i64 l))))) < (tmD (rcA v a0 an pe sp ah) (atA v a0 an pe sp ah (Go.IntKind.wrap Go.IntKind.i64 (a0 + (Go.IntKind.wrap Go.IntKind.i64 t))))))) == Bool.false)) || (decide ((rcA v a0 an pe sp ah) < (46080 : Int))))
                                      (cnd ((decide ((tmD (rcA v a0 an pe sp ah) (atA v a0 an pe sp ah (Go.IntKind.wrap Go.IntKind.i64 ((Go.IntKind.wrap Go.IntKind.i64 (a0 + (Go.IntKind.wrap Go.IntKind.i64 t))) + (Go.IntKind.wrap Go.IntKind.i64 l))))) < (tmD (rcA v a0 an pe sp ah) (atA v a0 an pe sp ah (Go.IntKind.wrap Go.IntKind.i64 (a0 + (Go.IntKind.wrap Go.IntKind.i64 t))))))) || (decide (ah < (tmD (rcA v a0 an pe sp ah) (atA v a0 an pe sp ah (Go.IntKind.wrap Go.IntKind.i64 ((Go.IntKind.wrap Go.IntKind.i64 (a0 + (Go.IntKind.wrap Go.IntKind.i64 t))) + (Go.IntKind.wrap Go.IntKind.i64 l))))))))
                                        (Bool.false = Bool.true)
                                        (cnd ((!((decide ((Go.IntKind.wrap Go.IntKind.i64 ((Go.IntKind.wrap Go.IntKind.i64 ((Go.IntKind.wrap Go.IntKind.i64 (a0 + (Go.IntKind.wrap Go.IntKind.i64 t))) + (Go.IntKind.wrap Go.IntKind.i64 l))) - a0)) < (Go.IntKind.wrap Go.IntKind.i64 ((Go.IntKind.wrap Go.IntKind.i64 ((3 : Int) * pe)) + (3 : Int))))) == Bool.false)) || (decide ((0 : Int) ≤ (atA v a0 an pe sp ah (Go.IntKind.wrap Go.IntKind.i64 ((Go.IntKind.wrap Go.IntKind.i64 (a0 + (Go.IntKind.wrap Go.IntKind.i64 t))) + (Go.IntKind.wrap Go.IntKind.i64 l)))))))
                                          (cnd ((!((decide ((Go.IntKind.wrap Go.IntKind.i64 ((Go.IntKind.wrap Go.IntKind.i64 ((Go.IntKind.wrap Go.IntKind.i64 (a0 + (Go.IntKind.wrap Go.IntKind.i64 t))) + (Go.IntKind.wrap Go.IntKind.i64 l))) - a0)) < (Go.IntKind.wrap Go.IntKind.i64 ((Go.IntKind.wrap Go.IntKind.i64 ((3 : Int) * pe)) + (3 : Int))))) == Bool.false)) || (decide ((atA v a0 an pe sp ah (Go.IntKind.wrap Go.IntKind.i64 ((Go.IntKind.wrap Go.IntKind.i64 (a0 + (Go.IntKind.wrap Go.IntKind.i64 t))) + (Go.IntKind.wrap Go.IntKind.i64 l)))) < (46080 : Int))))
                                            (cnd ((!((decide ((Go.IntKind.wrap Go.IntKind.i64 ((Go.IntKind.wrap Go.IntKind.i64 ((Go.IntKind.wrap Go.IntKind.i64 (a0 + (Go.IntKind.wrap Go.IntKind.i64 t))) + (Go.IntKind.wrap Go.IntKind.i64 l))) - a0)) < (Go.IntKind.wrap Go.IntKind.i64 ((Go.IntKind.wrap Go.IntKind.i64 ((3 : Int) * pe)) + (3 : Int))))) == Bool.false)) || (decide ((0 : Int) ≤ (rcA v a0 an pe sp ah))))
                                              (cnd ((!((decide ((Go.IntKind.wrap Go.IntKind.i64 ((Go.IntKind.wrap Go.IntKind.i64 ((Go.IntKind.wrap Go.IntKind.i64 (a0 + (Go.IntKind.wrap Go.IntKind.i64 t))) + (Go.IntKind.wrap Go.IntKind.i64 l))) - a0)) < (Go.IntKind.wrap Go.IntKind.i64 ((Go.IntKind.wrap Go.IntKind.i64 ((3 : Int) * pe)) + (3 : Int))))) == Bool.false)) || (decide ((rcA v a0 an pe sp ah) < (46080 : Int))))
                                                (((decide ((Go.IntKind.wrap Go.IntKind.i64 ((Go.IntKind.wrap Go.IntKind.i64 ((Go.IntKind.wrap Go.IntKind.i64 (a0 + (Go.IntKind.wrap Go.IntKind.i64 t))) + (Go.IntKind.wrap Go.IntKind.i64 l))) - a0)) < (Go.IntKind.wrap Go.IntKind.i64 ((Go.IntKind.wrap Go.IntKind.i64 ((3 : Int) * pe)) + (3 : Int))))) || (decide ((tmD (rcA v a0 an pe sp ah) (atA v a0 an pe sp ah (Go.IntKind.wrap Go.IntKind.i64 ((Go.IntKind.wrap Go.IntKind.i64 (a0 + (Go.IntKind.wrap Go.IntKind.i64 t))) + (Go.IntKind.wrap Go.IntKind.i64 l))))) = ah))) = Bool.true)
                                                False)
                                              False)
                                            False)
                                          False))
                                      False)
                                    False)
                                  False)
                                False)
                              False)
                            False)
                          False)
                        False)
                      False)
                    False)
                  False)
                False))
            False)
          False)
        False)
      False)))) = EXD Try.prog (conOf [awake_e, aat_e, areach_e, avalid_e, ahead_e]) Try.f6 [.agg [.bool v, .int .i64 a0, .int .i64 an, .int .i64 pe, .int .i64 sp, .int .i64 ah], .cel (.int .u32 t), .cel (.int .u32 l)] [] [] (monotone_res v a0 an pe sp ah t l) := by kernel_rfl
theorem monotone_holds (v : Bool) (a0 : Int) (an : Int) (pe : Int) (sp : Int) (ah : Int) (t : Int) (l : Int) (p0 : (wfI .i64 a0) = true) (p1 : (wfI .i64 an) = true) (p2 : (wfI .i64 pe) = true) (p3 : (wfI .i64 sp) = true) (p4 : (wfI .i64 ah) = true) (p5 : (wfI .u32 t) = true) (p6 : (wfI .u32 l) = true) : (cnd ((!(cValid v a0 an pe sp ah)) || (!v))
  (((decide ((rcA v a0 an pe sp ah) = (0 : Int))) && (decide ((rcB v a0 an pe sp ah) = (0 : Int)))) = Bool.true)
  (cnd (decide ((1099511627776 : Int) < (Go.IntKind.wrap Go.IntKind.i64 ((Go.IntKind.wrap Go.IntKind.i64 (a0 + (Go.IntKind.wrap Go.IntKind.i64 t))) + (Go.IntKind.wrap Go.IntKind.i64 l)))))
    (Bool.true = Bool.true)
    (cnd ((!((((((!(decide ((atErr v a0 an pe sp ah (Go.IntKind.wrap Go.IntKind.i64 (a0 + (Go.IntKind.wrap Go.IntKind.i64 t)))) = (0 : Int)))) || (!(decide ((atErr v a0 an pe sp ah (Go.IntKind.wrap Go.IntKind.i64 ((Go.IntKind.wrap Go.IntKind.i64 (a0 + (Go.IntKind.wrap Go.IntKind.i64 t))) + (Go.IntKind.wrap Go.IntKind.i64 l)))) = (0 : Int))))) || (!(decide ((atErr v a0 an pe sp ah a0) = (0 : Int))))) || (!(decide ((atA v a0 an pe sp ah a0) = an)))) || (!(decide ((rcA v a0 an pe sp ah) = an)))) == Bool.false)) || (decide ((0 : Int) ≤ (rcB v a0 an pe sp ah))))
      (cnd ((!((((((!(decide ((atErr v a0 an pe sp ah (Go.IntKind.wrap Go.IntKind.i64 (a0 + (Go.IntKind.wrap Go.IntKind.i64 t)))) = (0 : Int)))) || (!(decide ((atErr v a0 an pe sp ah (Go.IntKind.wrap Go.IntKind.i64 ((Go.IntKind.wrap Go.IntKind.i64 (a0 + (Go.IntKind.wrap Go.IntKind.i64 t))) + (Go.IntKind.wrap Go.IntKind.i64 l)))) = (0 : Int))))) || (!(decide ((atErr v a0 an pe sp ah a0) = (0 : Int))))) || (!(decide ((atA v a0 an pe sp ah a0) = an)))) || (!(decide ((rcA v a0 an pe sp ah) = an)))) == Bool.false)) || (decide ((rcB v a0 an pe sp ah) < (46080 : Int))))
        (cnd ((!((((((!(decide ((atErr v a0 an pe sp ah (Go.IntKind.wrap Go.IntKind.i64 (a0 + (Go.IntKind.wrap Go.IntKind.i64 t)))) = (0 : Int)))) || (!(decide ((atErr v a0 an pe sp ah (Go.IntKind.wrap Go.IntKind.i64 ((Go.IntKind.wrap Go.IntKind.i64 (a0 + (Go.IntKind.wrap Go.IntKind.i64 t))) + (Go.IntKind.wrap Go.IntKind.i64 l)))) = (0 : Int))))) || (!(decide ((atErr v a0 an pe sp ah a0) = (0 : Int))))) || (!(decide ((atA v a0 an pe sp ah a0) = an)))) || (!(decide ((rcA v a0 an pe sp ah) = an)))) == Bool.false)) || (decide ((0 : Int) ≤ (rcA v a0 an pe sp ah))))
          (cnd ((!((((((!(decide ((atErr v a0 an pe sp ah (Go.IntKind.wrap Go.IntKind.i64 (a0 + (Go.IntKind.wrap Go.IntKind.i64 t)))) = (0 : Int)))) || (!(decide ((atErr v a0 an pe sp ah (Go.IntKind.wrap Go.IntKind.i64 ((Go.IntKind.wrap Go.IntKind.i64 (a0 + (Go.IntKind.wrap Go.IntKind.i64 t))) + (Go.IntKind.wrap Go.IntKind.i64 l)))) = (0 : Int))))) || (!(decide ((atErr v a0 an pe sp ah a0) = (0 : Int))))) || (!(decide ((atA v a0 an pe sp ah a0) = an)))) || (!(decide ((rcA v a0 an pe sp ah) = an)))) == Bool.false)) || (decide ((rcA v a0 an pe sp ah) < (46080 : Int))))
            (cnd ((((((!(decide ((atErr v a0 an pe sp ah (Go.IntKind.wrap Go.IntKind.i64 (a0 + (Go.IntKind.wrap Go.IntKind.i64 t)))) = (0 : Int)))) || (!(decide ((atErr v a0 an pe sp ah (Go.IntKind.wrap Go.IntKind.i64 ((Go.IntKind.wrap Go.IntKind.i64 (a0 + (Go.IntKind.wrap Go.IntKind.i64 t))) + (Go.IntKind.wrap Go.IntKind.i64 l)))) = (0 : Int))))) || (!(decide ((atErr v a0 an pe sp ah a0) = (0 : Int))))) || (!(decide ((atA v a0 an pe sp ah a0) = an)))) || (!(decide ((rcA v a0 an pe sp ah) = an)))) || (!(decide ((tmD (rcA v a0 an pe sp ah) (rcB v a0 an pe sp ah)) = ah))))
              (Bool.false = Bool.true)
              (cnd (decide ((0 : Int) ≤ (atA v a0 an pe sp ah (Go.IntKind.wrap Go.IntKind.i64 (a0 + (Go.IntKind.wrap Go.IntKind.i64 t))))))
                (cnd (decide ((atA v a0 an pe sp ah (Go.IntKind.wrap Go.IntKind.i64 (a0 + (Go.IntKind.wrap Go.IntKind.i64 t)))) < (46080 : Int)))
                  (cnd (decide ((0 : Int) ≤ (rcA v a0 an pe sp ah)))
                    (cnd (decide ((rcA v a0 an pe sp ah) < (46080 : Int)))
                      (cnd (decide ((0 : Int) ≤ (atA v a0 an pe sp ah (Go.IntKind.wrap Go.IntKind.i64 ((Go.IntKind.wrap Go.IntKind.i64 (a0 + (Go.IntKind.wrap Go.IntKind.i64 t))) + (Go.IntKind.wrap Go.IntKind.i64 l))))))
                        (cnd (decide ((atA v a0 an pe sp ah (Go.IntKind.wrap Go.IntKind.i64 ((Go.IntKind.wrap Go.IntKind.i64 (a0 + (Go.IntKind.wrap Go.IntKind.i64 t))) + (Go.IntKind.wrap Go.IntKind.i64 l)))) < (46080 : Int)))
                          (cnd (decide ((0 : Int) ≤ (rcA v a0 an pe sp ah)))
                            (cnd (decide ((rcA v a0 an pe sp ah) < (46080 : Int)))
                              (cnd ((!((decide ((tmD (rcA v a0 an pe sp ah) (atA v a0 an pe sp ah (Go.IntKind.wrap Go.IntKind.i64 ((Go.IntKind.wrap Go.IntKind.i64 (a0 + (Go.IntKind.wrap Go.IntKind.i64 t))) + (Go.IntKind.wrap Go.IntKind.i64 l))))) < (tmD (rcA v a0 an pe sp ah) (atA v a0 an pe sp ah (Go.IntKind.wrap Go.IntKind.i64 (a0 + (Go.IntKind.wrap Go.IntKind.i64 t))))))) == Bool.false)) || (decide ((0 : Int) ≤ (atA v a0 an pe sp ah (Go.IntKind.wrap Go.IntKind.i64 ((Go.IntKind.wrap Go.IntKind.i64 (a0 + (Go.IntKind.wrap Go.IntKind.i64 t))) + (Go.IntKind.wrap Go.IntKind.i64 l)))))))
                                (cnd ((!((decide ((tmD (rcA v a0 an pe sp ah) (atA v a0 an pe sp ah (Go.IntKind.wrap Go.IntKind.i64 ((Go.IntKind.wrap Go.IntKind.i64 (a0 + (Go.IntKind.wrap Go.IntKind.i64 t))) + (Go.IntKind.wrap Go.IntKind.i64 l))))) < (tmD (rcA v a0 an pe sp ah) (atA v a0 an pe sp ah (Go.IntKind.wrap Go.IntKind.i64 (a0 + (Go.IntKind.wrap Go.IntKind.i64 t))))))) == Bool.false)) || (decide ((atA v a0 an pe sp ah (Go.IntKind.wrap Go.IntKind.i64 ((Go.IntKind.wrap Go.IntKind.i64 (a0 + (Go.IntKind.wrap Go.IntKind.i64 t))) + (Go.IntKind.wrap Go.IntKind.i64 l)))) < (46080 : Int))))
                                  (cnd ((!((decide ((tmD (rcA v a0 an pe sp ah) (atA v a0 an pe sp ah (Go.IntKind.wrap Go.IntKind.i64 ((Go.IntKind.wrap Go.IntKind.i64 (a0 + (Go.IntKind.wrap Go.IntKind.i64 t))) + (Go.IntKind.wrap Go.IntKind.i64 l))))) < (tmD (rcA v a0 an pe sp ah) (atA v a0 an pe sp ah (Go.IntKind.wrap Go.IntKind.i64 (a0 + (Go.IntKind.wrap Go.IntKind.i64 t))))))) == Bool.false)) || (decide ((0 : Int) ≤ (rcA v a0 an pe sp ah))))
                                    (cnd ((!((decide ((tmD (rcA v a0 an pe sp ah) (atA v a0 an pe sp ah (Go.IntKind.wrap Go.IntKind.i64 ((Go.IntKind.wrap Go.IntKind.i64 (a0 + (Go.IntKind.wrap Go.IntKind.i64 t))) + (Go.IntKind.wrap Go.IntKind.i64 l))))) < (tmD (rcA v a0 an pe sp ah) (atA v a0 an pe sp ah (Go.IntKind.wrap Go.IntKind.i64 (a0 + (Go.IntKind.wrap Go.IntKind.i64 t))))))) == Bool.false)) || (decide ((rcA v a0 an pe sp ah) < (46080 : Int))))
                                      (cnd ((decide ((tmD (rcA v a0 an pe sp ah) (atA v a0 an pe sp ah (Go.IntKind.wrap Go.IntKind.i64 ((Go.IntKind.wrap Go.IntKind.i64 (a0 + (Go.IntKind.wrap Go.IntKind.i64 t))) + (Go.IntKind.wrap Go.IntKind.i64 l))))) < (tmD (rcA v a0 an pe sp ah) (atA v a0 an pe sp ah (Go.IntKind.wrap Go.IntKind.i64 (a0 + (Go.IntKind.wrap Go.IntKind.i64 t))))))) || (decide (ah < (tmD (rcA v a0 an pe sp ah) (atA v a0 an pe sp ah (Go.IntKind.wrap Go.IntKind.i64 ((Go.IntKind.wrap Go.IntKind.i64 (a0 + (Go.IntKind.wrap Go.IntKind.i64 t))) + (Go.IntKind.wrap Go.IntKind.i64 l))))))))
                                        (Bool.false = Bool.true)
                                        (cnd ((!((decide ((Go.IntKind.wrap Go.IntKind.i64 ((Go.IntKind.wrap Go.IntKind.i64 ((Go.IntKind.wrap Go.IntKind.i64 (a0 + (Go.IntKind.wrap Go.IntKind.i64 t))) + (Go.IntKind.wrap Go.IntKind.i64 l))) - a0)) < (Go.IntKind.wrap Go.IntKind.i64 ((Go.IntKind.wrap Go.IntKind.i64 ((3 : Int) * pe)) + (3 : Int))))) == Bool.false)) || (decide ((0 : Int) ≤ (atA v a0 an pe sp ah (Go.IntKind.wrap Go.IntKind.i64 ((Go.IntKind.wrap Go.IntKind.i64 (a0 + (Go.IntKind.wrap Go.IntKind.i64 t))) + (Go.IntKind.wrap Go.IntKind.i64 l)))))))
                                          (cnd ((!((decide ((Go.IntKind.wrap Go.IntKind.i64 ((Go.IntKind.wrap Go.IntKind.i64 ((Go.IntKind.wrap Go.IntKind.i64 (a0 + (Go.IntKind.wrap Go.IntKind.i64 t))) + (Go.IntKind.wrap Go.IntKind.i64 l))) - a0)) < (Go.IntKind.wrap Go.IntKind.i64 ((Go.IntKind.wrap Go.IntKind.i64 ((3 : Int) * pe)) + (3 : Int))))) == Bool.false)) || (decide ((atA v a0 an pe sp ah (Go.IntKind.wrap Go.IntKind.i64 ((Go.IntKind.wrap Go.IntKind.i64 (a0 + (Go.IntKind.wrap Go.IntKind.i64 t))) + (Go.IntKind.wrap Go.IntKind.i64 l)))) < (46080 : Int))))
                                            (cnd ((!((decide ((Go.IntKind.wrap Go.IntKind.i64 ((Go.IntKind.wrap Go.IntKind.i64 ((Go.IntKind.wrap Go.IntKind.i64 (a0 + (Go.IntKind.wrap Go.IntKind.i64 t))) + (Go.IntKind.wrap Go.IntKind.i64 l))) - a0)) < (Go.IntKind.wrap Go.IntKind.i64 ((Go.IntKind.wrap Go.IntKind.i64 ((3 : Int) * pe)) + (3 : Int))))) == Bool.false)) || (decide ((0 : Int) ≤ (rcA v a0 an pe sp ah))))
                                              (cnd ((!((decide ((Go.IntKind.wrap Go.IntKind.i64 ((Go.IntKind.wrap Go.IntKind.i64 ((Go.IntKind.wrap Go.IntKind.i64 (a0 + (Go.IntKind.wrap Go.IntKind.i64 t))) + (Go.IntKind.wrap Go.IntKind.i64 l))) - a0)) < (Go.IntKind.wrap Go.IntKind.i64 ((Go.IntKind.wrap Go.IntKind.i64 ((3 : Int) * pe)) + (3 : Int))))) == Bool.false)) || (decide ((rcA v a0 an pe sp ah) < (46080 : Int))))
                                                (((decide ((Go.IntKind.wrap Go.IntKind.i64 ((Go.IntKind.wrap Go.IntKind.i64 ((Go.IntKind.wrap Go.IntKind.i64 (a0 + (Go.IntKind.wrap Go.IntKind.i64 t))) + (Go.IntKind.wrap Go.IntKind.i64 l))) - a0)) < (Go.IntKind.wrap Go.IntKind.i64 ((Go.IntKind.wrap Go.IntKind.i64 ((3 : Int) * pe)) + (3 : Int))))) || (decide ((tmD (rcA v a0 an pe sp ah) (atA v a0 an pe sp ah (Go.IntKind.wrap Go.IntKind.i64 ((Go.IntKind.wrap Go.IntKind.i64 (a0 + (Go.IntKind.wrap Go.IntKind.i64 t))) + (Go.IntKind.wrap Go.IntKind.i64 l))))) = ah))) = Bool.true)
                                                False)
                                              False)
                                            False)
                                          False))
                                      False)
                                    False)
                                  False)
                                False)
                              False)
                            False)
                          False)
                        False)
                      False)
                    False)
                  False)
                False))
            False)
          False)
        False)
      False))) := by
  have hu := wfU32 p5
  have hu2 := wfU32 p6
  by_cases hz : cErr v a0 an pe sp ah = 0
  · obtain ⟨rfl, hk⟩ := cErr_zero.1 hz
    have hcv : cValid true a0 an pe sp ah = true := by simp [cValid, hk]
    rw [cKnown_iff] at hk
    obtain ⟨⟨k1, k2⟩, k3, k4, k5, k6, k7, k8, k9⟩ := hk
    have hah : 0 ≤ ah ∧ ah ≤ 3 * sp := by omega
    have eA : rcA true a0 an pe sp ah = an := by unfold rcA; rw [if_pos hz]
    have eB : rcB true a0 an pe sp ah = (an + ah) % 46080 := by unfold rcB; rw [if_pos hz]
    rw [w64 (n := t) (by omega) (by omega), w64 (n := l) (by omega) (by omega), w64 (n := a0 + t) (by omega) (by omega), w64 (n := a0 + t + l) (by omega) (by omega), w64 (n := a0 + t + l - a0) (by omega) (by omega), w64 (n := 3 * pe) (by omega) (by omega), w64 (n := 3 * pe + 3) (by omega) (by omega), eA, eB, hcv]
    refine cnd_i (fun h => by cases h) (fun _ => cnd_i (fun _ => rfl) (fun hm => ?_))
    have hm : a0 + t + l ≤ 1099511627776 := by simpa using hm
    have hat : ∀ u, 0 ≤ u → a0 + u ≤ 1099511627776 → atErr true a0 an pe sp ah (a0 + u) = 0 ∧ 0 ≤ u * sp / pe ∧ atA true a0 an pe sp ah (a0 + u) = (an + min ah (u * sp / pe)) % 46080 ∧ tmD an (atA true a0 an pe sp ah (a0 + u)) = min ah (u * sp / pe) := by
      intro u h1 h2
      have h3 : atErr true a0 an pe sp ah (a0 + u) = 0 := by unfold atErr; rw [if_pos hz, if_pos (isT_iff.2 ⟨by omega, h2⟩), if_neg (by omega)]
      have h4 : 0 ≤ u * sp / pe := Int.ediv_nonneg (Int.mul_nonneg h1 (by omega)) (by omega)
      have h5 : atA true a0 an pe sp ah (a0 + u) = (an + min ah (u * sp / pe)) % 46080 := by
        unfold atA
        rw [if_pos h3, show a0 + u - a0 = u by omega]
      refine ⟨h3, h4, h5, ?_⟩
      rw [h5]
      generalize u * sp / pe = x at *
      unfold tmD
      omega
    obtain ⟨f1, f2, f3, f4⟩ := hat t hu.1 (by omega)
    obtain ⟨g1, g2, g3, g4⟩ := hat (t + l) (by omega) (by omega)
    obtain ⟨i1, i2, i3, i4⟩ := hat 0 (by omega) (by omega)
    have e0 : min ah (0 * sp / pe) = 0 := by rw [Int.zero_mul, Int.zero_ediv]; omega
    rw [e0] at i3
    rw [← Int.add_assoc] at g1 g3 g4
    rw [Int.add_zero] at i1 i3
    have hmono : t * sp / pe ≤ (t + l) * sp / pe := Int.ediv_le_ediv (by omega) (Int.mul_le_mul_of_nonneg_right (by omega) (by omega))
    have hlast : 3 * pe + 3 ≤ t + l → ah ≤ (t + l) * sp / pe := by
      intro h
      have h1 : 3 * sp ≤ (t + l) * sp / pe := by
        refine Int.le_ediv_of_mul_le (by omega) ?_
        have h2 : 3 * sp * pe = (3 * pe) * sp := by rw [Int.mul_assoc, Int.mul_comm sp pe, ← Int.mul_assoc]
        rw [h2]
        exact Int.mul_le_mul_of_nonneg_right (by omega) (by omega)
      omega
    have hto : tmD an ((an + ah) % 46080) = ah := by unfold tmD; omega
    have hx : 0 ≤ atA true a0 an pe sp ah (a0 + t) ∧ atA true a0 an pe sp ah (a0 + t) < 46080 := by rw [f3]; omega
    have hy : 0 ≤ atA true a0 an pe sp ah (a0 + t + l) ∧ atA true a0 an pe sp ah (a0 + t + l) < 46080 := by rw [g3]; omega
    have hst : atA true a0 an pe sp ah a0 = an := by rw [i3]; omega
    rw [f1, g1, i1, f4, g4, hto, hst]
    generalize atA true a0 an pe sp ah (a0 + t) = x at *
    generalize atA true a0 an pe sp ah (a0 + t + l) = y at *
    generalize t * sp / pe = m1 at *
    generalize (t + l) * sp / pe = m2 at *
    rw [decide_eq_true (show 0 ≤ (an + ah) % 46080 by omega), decide_eq_true (show (an + ah) % 46080 < 46080 by omega), decide_eq_true k3, decide_eq_true k4, decide_eq_true hx.1, decide_eq_true hx.2, decide_eq_true hy.1, decide_eq_true hy.2]
    rw [decide_eq_false (show ¬ min ah m2 < min ah m1 by omega), decide_eq_false (show ¬ ah < min ah m2 by omega), show a0 + t + l - a0 = t + l by omega]
    simp only [Bool.or_true, cnd, decide_true, Bool.not_true, Bool.or_self, Bool.or_false]
    by_cases hc : t + l < 3 * pe + 3
    · simp [hc]
    · have := hlast (by omega)
      rw [decide_eq_true (show min ah m2 = ah by omega), Bool.or_true]
  · have h1 : ((!(cValid v a0 an pe sp ah)) || (!v)) = true := by
      cases hv : v with
      | false => simp
      | true =>
        subst hv
        cases hc : cValid true a0 an pe sp ah with
        | false => simp
        | true =>
          have : cErr true a0 an pe sp ah = 0 := by unfold cErr; rw [hc]; rfl
          exact absurd this hz
    rw [h1]
    unfold rcA rcB
    rw [if_neg hz, if_neg hz]
    rfl
set_option maxHeartbeats 2000000 in
theorem monotone_ok : SoundEnt Try.prog monotone_e := by
  refine ent_of_ex (Γ := (conOf [awake_e, aat_e, areach_e, avalid_e, ahead_e])) (conOf_sound (scons awake_ok (scons aat_ok (scons areach_ok (scons avalid_ok (scons ahead_ok snil)))))) (by kernel_rfl) Try.func6 (by kernel_rfl) (by kernel_rfl) (fun args rows caps res h ho => ?_)
  change monotone_go args rows caps = some res at h
  unfold monotone_go at h
  split at h
  · simp only [Option.some.injEq] at h
    subst h
    rename_i q0_ q1_ q2_ q3_ q4_ q5_ q6_ q7_
    obtain ⟨p0, p1, p2, p3, p4, p5, p6, _⟩ := ho
    exact EX.of (monotone_tree q0_ q1_ q2_ q3_ q4_ q5_ q6_ q7_) (monotone_holds q0_ q1_ q2_ q3_ q4_ q5_ q6_ q7_ p0 p1 p2 p3 p4 p5 p6)
  · cases h
end Go.Proofs.Ytfkoopimppkkfaa

