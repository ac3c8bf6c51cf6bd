/- Joined motions. -/
import Derived.Test.YtajaaohjdeegeaaM3
namespace Go.Proofs.Ytajaaohjdeegeaa
set_option linter.unusedVariables false
set_option linter.unusedSimpArgs false
open Go.RowKit

def concat_res (l : List (List Int)) (l2 : List (List Int)) : CRes := ⟨[decide ((l.length : Int) ≤ 2000), decide ((l2.length : Int) ≤ 2000)], .one (.cel (.row 2)), [.recs [.int .i64, .int .i64] (l ++ l2)]⟩
def concat_go : List TV → List RowA → List (List CV) → Option CRes := fun args rows caps =>
  match args, rows, caps with
  | [.cel (.bsl 0 2)], [.recs [.int .i64, .int .i64] l, .recs [.int .i64, .int .i64] l2], [[.row 0, .row 1]] => some (concat_res l l2)
  | _, _, _ => none
def concat_e : Ent := ⟨34, [.recs [.int .i64, .int .i64] [], .recs [.int .i64, .int .i64] []], concat_go⟩
set_option maxRecDepth 100000 in
theorem concat_tree (l : List (List Int)) (l2 : List (List Int)) : ((cnd (decide ((Go.IntKind.wrap Go.IntKind.i64 ((0 : Int) + (((List.length l) : Nat) : Int))) < (0 : Int)))
  False
  (cnd (decide ((Go.IntKind.wrap Go.IntKind.i64 ((Go.IntKind.wrap Go.IntKind.i64 ((0 : Int) + (((List.length l) : Nat) : Int))) + (((List.length l2) : Nat) : Int))) < (0 : Int)))
    False
    (cnd (decide ((Go.IntKind.wrap Go.IntKind.i64 ((Go.IntKind.wrap Go.IntKind.i64 ((0 : Int) + (((List.length l) : Nat) : Int))) + (((List.length l2) : Nat) : Int))) < (0 : Int)))
      False
      (cnd (decide ((0 : Int) < (Go.IntKind.wrap Go.IntKind.i64 ((Go.IntKind.wrap Go.IntKind.i64 ((Go.IntKind.wrap Go.IntKind.i64 ((0 : Int) + (((List.length l) : Nat) : Int))) + (((List.length l2) : Nat) : Int))) - (Go.IntKind.wrap Go.IntKind.i64 ((0 : Int) - (0 : Int)))))))
        (cnd (decide ((0 : Int) < (Go.IntKind.wrap Go.IntKind.i64 ((Go.IntKind.wrap Go.IntKind.i64 ((Go.IntKind.wrap Go.IntKind.i64 ((0 : Int) + (((List.length l) : Nat) : Int))) + (((List.length l2) : Nat) : Int))) - (Go.IntKind.wrap Go.IntKind.i64 ((0 : Int) - (0 : Int)))))))
          (cnd (Nat.ble (Int.toNat (Go.IntKind.wrap Go.IntKind.i64 ((Go.IntKind.wrap Go.IntKind.i64 ((Go.IntKind.wrap Go.IntKind.i64 ((0 : Int) + (((List.length l) : Nat) : Int))) + (((List.length l2) : Nat) : Int))) - (Go.IntKind.wrap Go.IntKind.i64 ((0 : Int) - (0 : Int)))))) 4294967296)
            (cnd (decide ((List.length ((List.drop 0 (List.take (Int.toNat (0 : Int)) (List.replicate (Int.toNat (Go.IntKind.wrap Go.IntKind.i64 ((Go.IntKind.wrap Go.IntKind.i64 ((Go.IntKind.wrap Go.IntKind.i64 ((0 : Int) + (((List.length l) : Nat) : Int))) + (((List.length l2) : Nat) : Int))) - (Go.IntKind.wrap Go.IntKind.i64 ((0 : Int) - (0 : Int)))))) (List.replicate (List.length [(CK.int Go.IntKind.i64), (CK.int Go.IntKind.i64)]) (0 : Int))))) ++ l)) ≤ 4294967296))
              (cnd (decide ((List.length (((List.drop 0 (List.take (Int.toNat (0 : Int)) (List.replicate (Int.toNat (Go.IntKind.wrap Go.IntKind.i64 ((Go.IntKind.wrap Go.IntKind.i64 ((Go.IntKind.wrap Go.IntKind.i64 ((0 : Int) + (((List.length l) : Nat) : Int))) + (((List.length l2) : Nat) : Int))) - (Go.IntKind.wrap Go.IntKind.i64 ((0 : Int) - (0 : Int)))))) (List.replicate (List.length [(CK.int Go.IntKind.i64), (CK.int Go.IntKind.i64)]) (0 : Int))))) ++ l) ++ l2)) ≤ 4294967296))
                (True ∧ (((((List.drop 0 (List.take (Int.toNat (0 : Int)) (List.replicate (Int.toNat (Go.IntKind.wrap Go.IntKind.i64 ((Go.IntKind.wrap Go.IntKind.i64 ((Go.IntKind.wrap Go.IntKind.i64 ((0 : Int) + (((List.length l) : Nat) : Int))) + (((List.length l2) : Nat) : Int))) - (Go.IntKind.wrap Go.IntKind.i64 ((0 : Int) - (0 : Int)))))) (List.replicate (List.length [(CK.int Go.IntKind.i64), (CK.int Go.IntKind.i64)]) (0 : Int))))) ++ l) ++ l2) = (l ++ l2)) ∧ True))
                False)
              False)
            False)
          False)
        (cnd (decide ((List.length l) ≤ 4294967296))
          (cnd (decide ((List.length (l ++ l2)) ≤ 4294967296))
            (True ∧ (((l ++ l2) = (l ++ l2)) ∧ True))
            False)
          False)))))) = EXD Try.prog (uniOf (inlOf Try.prog [] [(37, Try.f37)] [])) Try.f34 [.cel (.bsl 0 2)] [.recs [.int .i64, .int .i64] l, .recs [.int .i64, .int .i64] l2] [[.row 0, .row 1]] (concat_res l l2) := by kernel_rfl
theorem concat_holds (l : List (List Int)) (l2 : List (List Int)) (p0 : (decide ((l.length : Int) ≤ 2000)) = true) (p1 : (decide ((l2.length : Int) ≤ 2000)) = true) : (cnd (decide ((Go.IntKind.wrap Go.IntKind.i64 ((0 : Int) + (((List.length l) : Nat) : Int))) < (0 : Int)))
  False
  (cnd (decide ((Go.IntKind.wrap Go.IntKind.i64 ((Go.IntKind.wrap Go.IntKind.i64 ((0 : Int) + (((List.length l) : Nat) : Int))) + (((List.length l2) : Nat) : Int))) < (0 : Int)))
    False
    (cnd (decide ((Go.IntKind.wrap Go.IntKind.i64 ((Go.IntKind.wrap Go.IntKind.i64 ((0 : Int) + (((List.length l) : Nat) : Int))) + (((List.length l2) : Nat) : Int))) < (0 : Int)))
      False
      (cnd (decide ((0 : Int) < (Go.IntKind.wrap Go.IntKind.i64 ((Go.IntKind.wrap Go.IntKind.i64 ((Go.IntKind.wrap Go.IntKind.i64 ((0 : Int) + (((List.length l) : Nat) : Int))) + (((List.length l2) : Nat) : Int))) - (Go.IntKind.wrap Go.IntKind.i64 ((0 : Int) - (0 : Int)))))))
        (cnd (decide ((0 : Int) < (Go.IntKind.wrap Go.IntKind.i64 ((Go.IntKind.wrap Go.IntKind.i64 ((Go.IntKind.wrap Go.IntKind.i64 ((0 : Int) + (((List.length l) : Nat) : Int))) + (((List.length l2) : Nat) : Int))) - (Go.IntKind.wrap Go.IntKind.i64 ((0 : Int) - (0 : Int)))))))
          (cnd (Nat.ble (Int.toNat (Go.IntKind.wrap Go.IntKind.i64 ((Go.IntKind.wrap Go.IntKind.i64 ((Go.IntKind.wrap Go.IntKind.i64 ((0 : Int) + (((List.length l) : Nat) : Int))) + (((List.length l2) : Nat) : Int))) - (Go.IntKind.wrap Go.IntKind.i64 ((0 : Int) - (0 : Int)))))) 4294967296)
            (cnd (decide ((List.length ((List.drop 0 (List.take (Int.toNat (0 : Int)) (List.replicate (Int.toNat (Go.IntKind.wrap Go.IntKind.i64 ((Go.IntKind.wrap Go.IntKind.i64 ((Go.IntKind.wrap Go.IntKind.i64 ((0 : Int) + (((List.length l) : Nat) : Int))) + (((List.length l2) : Nat) : Int))) - (Go.IntKind.wrap Go.IntKind.i64 ((0 : Int) - (0 : Int)))))) (List.replicate (List.length [(CK.int Go.IntKind.i64), (CK.int Go.IntKind.i64)]) (0 : Int))))) ++ l)) ≤ 4294967296))
              (cnd (decide ((List.length (((List.drop 0 (List.take (Int.toNat (0 : Int)) (List.replicate (Int.toNat (Go.IntKind.wrap Go.IntKind.i64 ((Go.IntKind.wrap Go.IntKind.i64 ((Go.IntKind.wrap Go.IntKind.i64 ((0 : Int) + (((List.length l) : Nat) : Int))) + (((List.length l2) : Nat) : Int))) - (Go.IntKind.wrap Go.IntKind.i64 ((0 : Int) - (0 : Int)))))) (List.replicate (List.length [(CK.int Go.IntKind.i64), (CK.int Go.IntKind.i64)]) (0 : Int))))) ++ l) ++ l2)) ≤ 4294967296))
                (True ∧ (((((List.drop 0 (List.take (Int.toNat (0 : Int)) (List.replicate (Int.toNat (Go.IntKind.wrap Go.IntKind.i64 ((Go.IntKind.wrap Go.IntKind.i64 ((Go.IntKind.wrap Go.IntKind.i64 ((0 : Int) + (((List.length l) : Nat) : Int))) + (((List.length l2) : Nat) : Int))) - (Go.IntKind.wrap Go.IntKind.i64 ((0 : Int) - (0 : Int)))))) (List.replicate (List.length [(CK.int Go.IntKind.i64), (CK.int Go.IntKind.i64)]) (0 : Int))))) ++ l) ++ l2) = (l ++ l2)) ∧ True))
                False)
              False)
            False)
          False)
        (cnd (decide ((List.length l) ≤ 4294967296))
          (cnd (decide ((List.length (l ++ l2)) ≤ 4294967296))
            (True ∧ (((l ++ l2) = (l ++ l2)) ∧ True))
            False)
          False))))) := by
  simp only [decide_eq_true_eq] at p0 p1
  have e0 : ∀ (n : Nat) (x : List Int), List.drop 0 (List.take (Int.toNat (0 : Int)) (List.replicate n x)) = ([] : List (List Int)) := fun n x => by simp
  rw [w64 (n := (0 : Int) + (l.length : Int)) (by omega) (by omega), w64 (n := (0 : Int) + (l.length : Int) + (l2.length : Int)) (by omega) (by omega), w64 (n := (0 : Int) - 0) (by omega) (by omega), w64 (n := (0 : Int) + (l.length : Int) + (l2.length : Int) - (0 - 0)) (by omega) (by omega)]
  rw [decide_eq_false (show ¬ (0 : Int) + (l.length : Int) < 0 by omega), decide_eq_false (show ¬ (0 : Int) + (l.length : Int) + (l2.length : Int) < 0 by omega)]
  have hb : Nat.ble ((0 : Int) + (l.length : Int) + (l2.length : Int) - (0 - 0)).toNat 4294967296 = true := Nat.ble_eq_true_of_le (by omega)
  rw [hb, e0, List.nil_append, decide_eq_true (show l.length ≤ 4294967296 by omega), decide_eq_true (show (l ++ l2).length ≤ 4294967296 by rw [List.length_append]; omega)]
  cases decide ((0 : Int) < 0 + (l.length : Int) + (l2.length : Int) - (0 - 0)) <;> simp [cnd]
set_option maxHeartbeats 2000000 in
theorem concat_ok : SoundEnt Try.prog concat_e := by
  refine ent_of_ex (Γ := (uniOf (inlOf Try.prog [] [(37, Try.f37)] []))) (uniOf_sound (inlOf_sound snil (by kernel_rfl) ⟨⟨Try.func37, by kernel_rfl, by kernel_rfl⟩, trivial⟩ spnil)) (by kernel_rfl) Try.func34 (by kernel_rfl) (by kernel_rfl) (fun args rows caps res h ho => ?_)
  change concat_go args rows caps = some res at h
  unfold concat_go at h
  split at h
  · simp only [Option.some.injEq] at h
    subst h
    rename_i q0_ q1_
    obtain ⟨p0, p1, _⟩ := ho
    exact EX.of (concat_tree q0_ q1_) (concat_holds q0_ q1_ p0 p1)
  · cases h
def join_res (s : Int) (l : List (List Int)) (s2 : Int) (l2 : List (List Int)) : CRes := ⟨[], .tup [.agg [.int .i64 (if mValid s l && mValid s2 l2 && mValid s (l ++ l2) then s else 0), .row 2], .cel (.int .i64 (if mValid s l && mValid s2 l2 then (if mValid s (l ++ l2) then 0 else 5) else 1))], [.recs [.int .i64, .int .i64] (if mValid s l && mValid s2 l2 && mValid s (l ++ l2) then l ++ l2 else [])]⟩
def join_go : List TV → List RowA → List (List CV) → Option CRes := fun args rows caps =>
  match args, rows, caps with
  | [.agg [.int .i64 s, .row 0], .agg [.int .i64 s2, .row 1]], [.recs [.int .i64, .int .i64] l, .recs [.int .i64, .int .i64] l2], [] => some (join_res s l s2 l2)
  | _, _, _ => none
def join_e : Ent := ⟨25, [.recs [.int .i64, .int .i64] [], .recs [.int .i64, .int .i64] []], join_go⟩
set_option maxRecDepth 100000 in
theorem join_tree (s : Int) (l : List (List Int)) (s2 : Int) (l2 : List (List Int)) : ((cnd ((!(mValid s l)) || (!(mValid s2 l2)))
  (((((0 : Int) = (if ((((mValid s l) && (mValid s2 l2)) && (mValid s (l ++ l2))) = Bool.true) then s else (0 : Int))) ∧ True) ∧ ((1 : Int) = (if (((mValid s l) && (mValid s2 l2)) = Bool.true) then (if ((mValid s (l ++ l2)) = Bool.true) then (0 : Int) else (5 : Int)) else (1 : Int)))) ∧ (((if ((((mValid s l) && (mValid s2 l2)) && (mValid s (l ++ l2))) = Bool.true) then (l ++ l2) else ([] : List (List Int))) = ([] : List (List Int))) ∧ True))
  ((((cnd (decide ((((List.length l) : Nat) : Int) ≤ (2000 : Int)))
    (cnd (decide ((((List.length l2) : Nat) : Int) ≤ (2000 : Int)))
      (cnd (!(mValid s (l ++ l2)))
        (((((0 : Int) = (if ((((mValid s l) && (mValid s2 l2)) && (mValid s (l ++ l2))) = Bool.true) then s else (0 : Int))) ∧ True) ∧ ((5 : Int) = (if (((mValid s l) && (mValid s2 l2)) = Bool.true) then (if ((mValid s (l ++ l2)) = Bool.true) then (0 : Int) else (5 : Int)) else (1 : Int)))) ∧ (((if ((((mValid s l) && (mValid s2 l2)) && (mValid s (l ++ l2))) = Bool.true) then (l ++ l2) else ([] : List (List Int))) = ([] : List (List Int))) ∧ True))
        ((((s = (if ((((mValid s l) && (mValid s2 l2)) && (mValid s (l ++ l2))) = Bool.true) then s else (0 : Int))) ∧ True) ∧ ((0 : Int) = (if (((mValid s l) && (mValid s2 l2)) = Bool.true) then (if ((mValid s (l ++ l2)) = Bool.true) then (0 : Int) else (5 : Int)) else (1 : Int)))) ∧ (((l ++ l2) = (if ((((mValid s l) && (mValid s2 l2)) && (mValid s (l ++ l2))) = Bool.true) then (l ++ l2) else ([] : List (List Int)))) ∧ True)))
      False)
    False) ∧ (cnd (decide ((((List.length l) : Nat) : Int) ≤ (2000 : Int)))
    (cnd (decide ((((List.length l2) : Nat) : Int) ≤ (2000 : Int)))
      (cnd (!(mValid s (l ++ l2)))
        (((((0 : Int) = (if ((((mValid s l) && (mValid s2 l2)) && (mValid s (l ++ l2))) = Bool.true) then s else (0 : Int))) ∧ True) ∧ ((5 : Int) = (if (((mValid s l) && (mValid s2 l2)) = Bool.true) then (if ((mValid s (l ++ l2)) = Bool.true) then (0 : Int) else (5 : Int)) else (1 : Int)))) ∧ (((if ((((mValid s l) && (mValid s2 l2)) && (mValid s (l ++ l2))) = Bool.true) then (l ++ l2) else ([] : List (List Int))) = ([] : List (List Int))) ∧ True))
        ((((s = (if ((((mValid s l) && (mValid s2 l2)) && (mValid s (l ++ l2))) = Bool.true) then s else (0 : Int))) ∧ True) ∧ ((0 : Int) = (if (((mValid s l) && (mValid s2 l2)) = Bool.true) then (if ((mValid s (l ++ l2)) = Bool.true) then (0 : Int) else (5 : Int)) else (1 : Int)))) ∧ (((l ++ l2) = (if ((((mValid s l) && (mValid s2 l2)) && (mValid s (l ++ l2))) = Bool.true) then (l ++ l2) else ([] : List (List Int)))) ∧ True)))
      False)
    False)) ∧ (cnd (decide ((((List.length l) : Nat) : Int) ≤ (2000 : Int)))
    (cnd (decide ((((List.length l2) : Nat) : Int) ≤ (2000 : Int)))
      (cnd (!(mValid s (l ++ l2)))
        (((((0 : Int) = (if ((((mValid s l) && (mValid s2 l2)) && (mValid s (l ++ l2))) = Bool.true) then s else (0 : Int))) ∧ True) ∧ ((5 : Int) = (if (((mValid s l) && (mValid s2 l2)) = Bool.true) then (if ((mValid s (l ++ l2)) = Bool.true) then (0 : Int) else (5 : Int)) else (1 : Int)))) ∧ (((if ((((mValid s l) && (mValid s2 l2)) && (mValid s (l ++ l2))) = Bool.true) then (l ++ l2) else ([] : List (List Int))) = ([] : List (List Int))) ∧ True))
        ((((s = (if ((((mValid s l) && (mValid s2 l2)) && (mValid s (l ++ l2))) = Bool.true) then s else (0 : Int))) ∧ True) ∧ ((0 : Int) = (if (((mValid s l) && (mValid s2 l2)) = Bool.true) then (if ((mValid s (l ++ l2)) = Bool.true) then (0 : Int) else (5 : Int)) else (1 : Int)))) ∧ (((l ++ l2) = (if ((((mValid s l) && (mValid s2 l2)) && (mValid s (l ++ l2))) = Bool.true) then (l ++ l2) else ([] : List (List Int)))) ∧ True)))
      False)
    False)) ∧ ((((cnd (decide ((((List.length l) : Nat) : Int) ≤ (2000 : Int)))
    (cnd (decide ((((List.length l2) : Nat) : Int) ≤ (2000 : Int)))
      (cnd (!(mValid s (l ++ l2)))
        (((((0 : Int) = (if ((((mValid s l) && (mValid s2 l2)) && (mValid s (l ++ l2))) = Bool.true) then s else (0 : Int))) ∧ True) ∧ ((5 : Int) = (if (((mValid s l) && (mValid s2 l2)) = Bool.true) then (if ((mValid s (l ++ l2)) = Bool.true) then (0 : Int) else (5 : Int)) else (1 : Int)))) ∧ (((if ((((mValid s l) && (mValid s2 l2)) && (mValid s (l ++ l2))) = Bool.true) then (l ++ l2) else ([] : List (List Int))) = ([] : List (List Int))) ∧ True))
        ((((s = (if ((((mValid s l) && (mValid s2 l2)) && (mValid s (l ++ l2))) = Bool.true) then s else (0 : Int))) ∧ True) ∧ ((0 : Int) = (if (((mValid s l) && (mValid s2 l2)) = Bool.true) then (if ((mValid s (l ++ l2)) = Bool.true) then (0 : Int) else (5 : Int)) else (1 : Int)))) ∧ (((l ++ l2) = (if ((((mValid s l) && (mValid s2 l2)) && (mValid s (l ++ l2))) = Bool.true) then (l ++ l2) else ([] : List (List Int)))) ∧ True)))
      False)
    False) ∧ (cnd (decide ((((List.length l) : Nat) : Int) ≤ (2000 : Int)))
    (cnd (decide ((((List.length l2) : Nat) : Int) ≤ (2000 : Int)))
      (cnd (!(mValid s (l ++ l2)))
        (((((0 : Int) = (if ((((mValid s l) && (mValid s2 l2)) && (mValid s (l ++ l2))) = Bool.true) then s else (0 : Int))) ∧ True) ∧ ((5 : Int) = (if (((mValid s l) && (mValid s2 l2)) = Bool.true) then (if ((mValid s (l ++ l2)) = Bool.true) then (0 : Int) else (5 : Int)) else (1 : Int)))) ∧ (((if ((((mValid s l) && (mValid s2 l2)) && (mValid s (l ++ l2))) = Bool.true) then (l ++ l2) else ([] : List (List Int))) = ([] : List (List Int))) ∧ True))
        ((((s = (if ((((mValid s l) && (mValid s2 l2)) && (mValid s (l ++ l2))) = Bool.true) then s else (0 : Int))) ∧ True) ∧ ((0 : Int) = (if (((mValid s l) && (mValid s2 l2)) = Bool.true) then (if ((mValid s (l ++ l2)) = Bool.true) then (0 : Int) else (5 : Int)) else (1 : Int)))) ∧ (((l ++ l2) = (if ((((mValid s l) && (mValid s2 l2)) && (mValid s (l ++ l2))) = Bool.true) then (l ++ l2) else ([] : List (List Int)))) ∧ True)))
      False)
    False)) ∧ ((cnd (decide ((((List.length l) : Nat) : Int) ≤ (2000 : Int)))
    (cnd (decide ((((List.length l2) : Nat) : Int) ≤ (2000 : Int)))
      (cnd (!(mValid s (l ++ l2)))
        (((((0 : Int) = (if ((((mValid s l) && (mValid s2 l2)) && (mValid s (l ++ l2))) = Bool.true) then s else (0 : Int))) ∧ True) ∧ ((5 : Int) = (if (((mValid s l) && (mValid s2 l2)) = Bool.true) then (if ((mValid s (l ++ l2)) = Bool.true) then (0 : Int) else (5 : Int)) else (1 : Int)))) ∧ (((if ((((mValid s l) && (mValid s2 l2)) && (mValid s (l ++ l2))) = Bool.true) then (l ++ l2) else ([] : List (List Int))) = ([] : List (List Int))) ∧ True))
        ((((s = (if ((((mValid s l) && (mValid s2 l2)) && (mValid s (l ++ l2))) = Bool.true) then s else (0 : Int))) ∧ True) ∧ ((0 : Int) = (if (((mValid s l) && (mValid s2 l2)) = Bool.true) then (if ((mValid s (l ++ l2)) = Bool.true) then (0 : Int) else (5 : Int)) else (1 : Int)))) ∧ (((l ++ l2) = (if ((((mValid s l) && (mValid s2 l2)) && (mValid s (l ++ l2))) = Bool.true) then (l ++ l2) else ([] : List (List Int)))) ∧ True)))
      False)
    False) ∧ ((cnd (decide ((((List.length l) : Nat) : Int) ≤ (2000 : Int)))
    (cnd (decide ((((List.length l2) : Nat) : Int) ≤ (2000 : Int)))
      (cnd (!(mValid s (l ++ l2)))
        (((((0 : Int) = (if ((((mValid s l) && (mValid s2 l2)) && (mValid s (l ++ l2))) = Bool.true) then s else (0 : Int))) ∧ True) ∧ ((5 : Int) = (if (((mValid s l) && (mValid s2 l2)) = Bool.true) then (if ((mValid s (l ++ l2)) = Bool.true) then (0 : Int) else (5 : Int)) else (1 : Int)))) ∧ (((if ((((mValid s l) && (mValid s2 l2)) && (mValid s (l ++ l2))) = Bool.true) then (l ++ l2) else ([] : List (List Int))) = ([] : List (List Int))) ∧ True))
        ((((s = (if ((((mValid s l) && (mValid s2 l2)) && (mValid s (l ++ l2))) = Bool.true) then s else (0 : Int))) ∧ True) ∧ ((0 : Int) = (if (((mValid s l) && (mValid s2 l2)) = Bool.true) then (if ((mValid s (l ++ l2)) = Bool.true) then (0 : Int) else (5 : Int)) else (1 : Int)))) ∧ (((l ++ l2) = (if ((((mValid s l) && (mValid s2 l2)) && (mValid s (l ++ l2))) = Bool.true) then (l ++ l2) else ([] : List (List Int)))) ∧ True)))
      False)
    False) ∧ (cnd (decide ((((List.length l) : Nat) : Int) ≤ (2000 : Int)))
    (cnd (decide ((((List.length l2) : Nat) : Int) ≤ (2000 : Int)))
      (cnd (!(mValid s (l ++ l2)))
        (((((0 : Int) = (if ((((mValid s l) && (mValid s2 l2)) && (mValid s (l ++ l2))) = Bool.true) then s else (0 : Int))) ∧ True) ∧ ((5 : Int) = (if (((mValid s l) && (mValid s2 l2)) = Bool.true) then (if ((mValid s (l ++ l2)) = Bool.true) then (0 : Int) else (5 : Int)) else (1 : Int)))) ∧ (((if ((((mValid s l) && (mValid s2 l2)) && (mValid s (l ++ l2))) = Bool.true) then (l ++ l2) else ([] : List (List Int))) = ([] : List (List Int))) ∧ True))
        ((((s = (if ((((mValid s l) && (mValid s2 l2)) && (mValid s (l ++ l2))) = Bool.true) then s else (0 : Int))) ∧ True) ∧ ((0 : Int) = (if (((mValid s l) && (mValid s2 l2)) = Bool.true) then (if ((mValid s (l ++ l2)) = Bool.true) then (0 : Int) else (5 : Int)) else (1 : Int)))) ∧ (((l ++ l2) = (if ((((mValid s l) && (mValid s2 l2)) && (mValid s (l ++ l2))) = Bool.true) then (l ++ l2) else ([] : List (List Int)))) ∧ True)))
      False)
    False)))) ∧ ((cnd (decide ((((List.length l) : Nat) : Int) ≤ (2000 : Int)))
    (cnd (decide ((((List.length l2) : Nat) : Int) ≤ (2000 : Int)))
      (cnd (!(mValid s (l ++ l2)))
        (((((0 : Int) = (if ((((mValid s l) && (mValid s2 l2)) && (mValid s (l ++ l2))) = Bool.true) then s else (0 : Int))) ∧ True) ∧ ((5 : Int) = (if (((mValid s l) && (mValid s2 l2)) = Bool.true) then (if ((mValid s (l ++ l2)) = Bool.true) then (0 : Int) else (5 : Int)) else (1 : Int)))) ∧ (((if ((((mValid s l) && (mValid s2 l2)) && (mValid s (l ++ l2))) = Bool.true) then (l ++ l2) else ([] : List (List Int))) = ([] : List (List Int))) ∧ True))
        ((((s = (if ((((mValid s l) && (mValid s2 l2)) && (mValid s (l ++ l2))) = Bool.true) then s else (0 : Int))) ∧ True) ∧ ((0 : Int) = (if (((mValid s l) && (mValid s2 l2)) = Bool.true) then (if ((mValid s (l ++ l2)) = Bool.true) then (0 : Int) else (5 : Int)) else (1 : Int)))) ∧ (((l ++ l2) = (if ((((mValid s l) && (mValid s2 l2)) && (mValid s (l ++ l2))) = Bool.true) then (l ++ l2) else ([] : List (List Int)))) ∧ True)))
      False)
    False) ∧ ((cnd (decide ((((List.length l) : Nat) : Int) ≤ (2000 : Int)))
    (cnd (decide ((((List.length l2) : Nat) : Int) ≤ (2000 : Int)))
      (cnd (!(mValid s (l ++ l2)))
        (((((0 : Int) = (if ((((mValid s l) && (mValid s2 l2)) && (mValid s (l ++ l2))) = Bool.true) then s else (0 : Int))) ∧ True) ∧ ((5 : Int) = (if (((mValid s l) && (mValid s2 l2)) = Bool.true) then (if ((mValid s (l ++ l2)) = Bool.true) then (0 : Int) else (5 : Int)) else (1 : Int)))) ∧ (((if ((((mValid s l) && (mValid s2 l2)) && (mValid s (l ++ l2))) = Bool.true) then (l ++ l2) else ([] : List (List Int))) = ([] : List (List Int))) ∧ True))
        ((((s = (if ((((mValid s l) && (mValid s2 l2)) && (mValid s (l ++ l2))) = Bool.true) then s else (0 : Int))) ∧ True) ∧ ((0 : Int) = (if (((mValid s l) && (mValid s2 l2)) = Bool.true) then (if ((mValid s (l ++ l2)) = Bool.true) then (0 : Int) else (5 : Int)) else (1 : Int)))) ∧ (((l ++ l2) = (if ((((mValid s l) && (mValid s2 l2)) && (mValid s (l ++ l2))) = Bool.true) then (l ++ l2) else ([] : List (List Int)))) ∧ True)))
      False)
    False) ∧ (cnd (decide ((((List.length l) : Nat) : Int) ≤ (2000 : Int)))
    (cnd (decide ((((List.length l2) : Nat) : Int) ≤ (2000 : Int)))
      (cnd (!(mValid s (l ++ l2)))
        (((((0 : Int) = (if ((((mValid s l) && (mValid s2 l2)) && (mValid s (l ++ l2))) = Bool.true) then s else (0 : Int))) ∧ True) ∧ ((5 : Int) = (if (((mValid s l) && (mValid s2 l2)) = Bool.true) then (if ((mValid s (l ++ l2)) = Bool.true) then (0 : Int) else (5 : Int)) else (1 : Int)))) ∧ (((if ((((mValid s l) && (mValid s2 l2)) && (mValid s (l ++ l2))) = Bool.true) then (l ++ l2) else ([] : List (List Int))) = ([] : List (List Int))) ∧ True))
        ((((s = (if ((((mValid s l) && (mValid s2 l2)) && (mValid s (l ++ l2))) = Bool.true) then s else (0 : Int))) ∧ True) ∧ ((0 : Int) = (if (((mValid s l) && (mValid s2 l2)) = Bool.true) then (if ((mValid s (l ++ l2)) = Bool.true) then (0 : Int) else (5 : Int)) else (1 : Int)))) ∧ (((l ++ l2) = (if ((((mValid s l) && (mValid s2 l2)) && (mValid s (l ++ l2))) = Bool.true) then (l ++ l2) else ([] : List (List Int)))) ∧ True)))
      False)
    False))))))) = EXD Try.prog (conOf [valid_e, concat_e]) Try.f25 [.agg [.int .i64 s, .row 0], .agg [.int .i64 s2, .row 1]] [.recs [.int .i64, .int .i64] l, .recs [.int .i64, .int .i64] l2] [] (join_res s l s2 l2) := by kernel_rfl
theorem join_holds (s : Int) (l : List (List Int)) (s2 : Int) (l2 : List (List Int))  : (cnd ((!(mValid s l)) || (!(mValid s2 l2)))
  (((((0 : Int) = (if ((((mValid s l) && (mValid s2 l2)) && (mValid s (l ++ l2))) = Bool.true) then s else (0 : Int))) ∧ True) ∧ ((1 : Int) = (if (((mValid s l) && (mValid s2 l2)) = Bool.true) then (if ((mValid s (l ++ l2)) = Bool.true) then (0 : Int) else (5 : Int)) else (1 : Int)))) ∧ (((if ((((mValid s l) && (mValid s2 l2)) && (mValid s (l ++ l2))) = Bool.true) then (l ++ l2) else ([] : List (List Int))) = ([] : List (List Int))) ∧ True))
  ((((cnd (decide ((((List.length l) : Nat) : Int) ≤ (2000 : Int)))
    (cnd (decide ((((List.length l2) : Nat) : Int) ≤ (2000 : Int)))
      (cnd (!(mValid s (l ++ l2)))
        (((((0 : Int) = (if ((((mValid s l) && (mValid s2 l2)) && (mValid s (l ++ l2))) = Bool.true) then s else (0 : Int))) ∧ True) ∧ ((5 : Int) = (if (((mValid s l) && (mValid s2 l2)) = Bool.true) then (if ((mValid s (l ++ l2)) = Bool.true) then (0 : Int) else (5 : Int)) else (1 : Int)))) ∧ (((if ((((mValid s l) && (mValid s2 l2)) && (mValid s (l ++ l2))) = Bool.true) then (l ++ l2) else ([] : List (List Int))) = ([] : List (List Int))) ∧ True))
        ((((s = (if ((((mValid s l) && (mValid s2 l2)) && (mValid s (l ++ l2))) = Bool.true) then s else (0 : Int))) ∧ True) ∧ ((0 : Int) = (if (((mValid s l) && (mValid s2 l2)) = Bool.true) then (if ((mValid s (l ++ l2)) = Bool.true) then (0 : Int) else (5 : Int)) else (1 : Int)))) ∧ (((l ++ l2) = (if ((((mValid s l) && (mValid s2 l2)) && (mValid s (l ++ l2))) = Bool.true) then (l ++ l2) else ([] : List (List Int)))) ∧ True)))
      False)
    False) ∧ (cnd (decide ((((List.length l) : Nat) : Int) ≤ (2000 : Int)))
    (cnd (decide ((((List.length l2) : Nat) : Int) ≤ (2000 : Int)))
      (cnd (!(mValid s (l ++ l2)))
        (((((0 : Int) = (if ((((mValid s l) && (mValid s2 l2)) && (mValid s (l ++ l2))) = Bool.true) then s else (0 : Int))) ∧ True) ∧ ((5 : Int) = (if (((mValid s l) && (mValid s2 l2)) = Bool.true) then (if ((mValid s (l ++ l2)) = Bool.true) then (0 : Int) else (5 : Int)) else (1 : Int)))) ∧ (((if ((((mValid s l) && (mValid s2 l2)) && (mValid s (l ++ l2))) = Bool.true) then (l ++ l2) else ([] : List (List Int))) = ([] : List (List Int))) ∧ True))
        ((((s = (if ((((mValid s l) && (mValid s2 l2)) && (mValid s (l ++ l2))) = Bool.true) then s else (0 : Int))) ∧ True) ∧ ((0 : Int) = (if (((mValid s l) && (mValid s2 l2)) = Bool.true) then (if ((mValid s (l ++ l2)) = Bool.true) then (0 : Int) else (5 : Int)) else (1 : Int)))) ∧ (((l ++ l2) = (if ((((mValid s l) && (mValid s2 l2)) && (mValid s (l ++ l2))) = Bool.true) then (l ++ l2) else ([] : List (List Int)))) ∧ True)))
      False)
    False)) ∧ (cnd (decide ((((List.length l) : Nat) : Int) ≤ (2000 : Int)))
    (cnd (decide ((((List.length l2) : Nat) : Int) ≤ (2000 : Int)))
      (cnd (!(mValid s (l ++ l2)))
        (((((0 : Int) = (if ((((mValid s l) && (mValid s2 l2)) && (mValid s (l ++ l2))) = Bool.true) then s else (0 : Int))) ∧ True) ∧ ((5 : Int) = (if (((mValid s l) && (mValid s2 l2)) = Bool.true) then (if ((mValid s (l ++ l2)) = Bool.true) then (0 : Int) else (5 : Int)) else (1 : Int)))) ∧ (((if ((((mValid s l) && (mValid s2 l2)) && (mValid s (l ++ l2))) = Bool.true) then (l ++ l2) else ([] : List (List Int))) = ([] : List (List Int))) ∧ True))
        ((((s = (if ((((mValid s l) && (mValid s2 l2)) && (mValid s (l ++ l2))) = Bool.true) then s else (0 : Int))) ∧ True) ∧ ((0 : Int) = (if (((mValid s l) && (mValid s2 l2)) = Bool.true) then (if ((mValid s (l ++ l2)) = Bool.true) then (0 : Int) else (5 : Int)) else (1 : Int)))) ∧ (((l ++ l2) = (if ((((mValid s l) && (mValid s2 l2)) && (mValid s (l ++ l2))) = Bool.true) then (l ++ l2) else ([] : List (List Int)))) ∧ True)))
      False)
    False)) ∧ ((((cnd (decide ((((List.length l) : Nat) : Int) ≤ (2000 : Int)))
    (cnd (decide ((((List.length l2) : Nat) : Int) ≤ (2000 : Int)))
      (cnd (!(mValid s (l ++ l2)))
        (((((0 : Int) = (if ((((mValid s l) && (mValid s2 l2)) && (mValid s (l ++ l2))) = Bool.true) then s else (0 : Int))) ∧ True) ∧ ((5 : Int) = (if (((mValid s l) && (mValid s2 l2)) = Bool.true) then (if ((mValid s (l ++ l2)) = Bool.true) then (0 : Int) else (5 : Int)) else (1 : Int)))) ∧ (((if ((((mValid s l) && (mValid s2 l2)) && (mValid s (l ++ l2))) = Bool.true) then (l ++ l2) else ([] : List (List Int))) = ([] : List (List Int))) ∧ True))
        ((((s = (if ((((mValid s l) && (mValid s2 l2)) && (mValid s (l ++ l2))) = Bool.true) then s else (0 : Int))) ∧ True) ∧ ((0 : Int) = (if (((mValid s l) && (mValid s2 l2)) = Bool.true) then (if ((mValid s (l ++ l2)) = Bool.true) then (0 : Int) else (5 : Int)) else (1 : Int)))) ∧ (((l ++ l2) = (if ((((mValid s l) && (mValid s2 l2)) && (mValid s (l ++ l2))) = Bool.true) then (l ++ l2) else ([] : List (List Int)))) ∧ True)))
      False)
    False) ∧ (cnd (decide ((((List.length l) : Nat) : Int) ≤ (2000 : Int)))
    (cnd (decide ((((List.length l2) : Nat) : Int) ≤ (2000 : Int)))
      (cnd (!(mValid s (l ++ l2)))
        (((((0 : Int) = (if ((((mValid s l) && (mValid s2 l2)) && (mValid s (l ++ l2))) = Bool.true) then s else (0 : Int))) ∧ True) ∧ ((5 : Int) = (if (((mValid s l) && (mValid s2 l2)) = Bool.true) then (if ((mValid s (l ++ l2)) = Bool.true) then (0 : Int) else (5 : Int)) else (1 : Int)))) ∧ (((if ((((mValid s l) && (mValid s2 l2)) && (mValid s (l ++ l2))) = Bool.true) then (l ++ l2) else ([] : List (List Int))) = ([] : List (List Int))) ∧ True))
        ((((s = (if ((((mValid s l) && (mValid s2 l2)) && (mValid s (l ++ l2))) = Bool.true) then s else (0 : Int))) ∧ True) ∧ ((0 : Int) = (if (((mValid s l) && (mValid s2 l2)) = Bool.true) then (if ((mValid s (l ++ l2)) = Bool.true) then (0 : Int) else (5 : Int)) else (1 : Int)))) ∧ (((l ++ l2) = (if ((((mValid s l) && (mValid s2 l2)) && (mValid s (l ++ l2))) = Bool.true) then (l ++ l2) else ([] : List (List Int)))) ∧ True)))
      False)
    False)) ∧ ((cnd (decide ((((List.length l) : Nat) : Int) ≤ (2000 : Int)))
    (cnd (decide ((((List.length l2) : Nat) : Int) ≤ (2000 : Int)))
      (cnd (!(mValid s (l ++ l2)))
        (((((0 : Int) = (if ((((mValid s l) && (mValid s2 l2)) && (mValid s (l ++ l2))) = Bool.true) then s else (0 : Int))) ∧ True) ∧ ((5 : Int) = (if (((mValid s l) && (mValid s2 l2)) = Bool.true) then (if ((mValid s (l ++ l2)) = Bool.true) then (0 : Int) else (5 : Int)) else (1 : Int)))) ∧ (((if ((((mValid s l) && (mValid s2 l2)) && (mValid s (l ++ l2))) = Bool.true) then (l ++ l2) else ([] : List (List Int))) = ([] : List (List Int))) ∧ True))
        ((((s = (if ((((mValid s l) && (mValid s2 l2)) && (mValid s (l ++ l2))) = Bool.true) then s else (0 : Int))) ∧ True) ∧ ((0 : Int) = (if (((mValid s l) && (mValid s2 l2)) = Bool.true) then (if ((mValid s (l ++ l2)) = Bool.true) then (0 : Int) else (5 : Int)) else (1 : Int)))) ∧ (((l ++ l2) = (if ((((mValid s l) && (mValid s2 l2)) && (mValid s (l ++ l2))) = Bool.true) then (l ++ l2) else ([] : List (List Int)))) ∧ True)))
      False)
    False) ∧ ((cnd (decide ((((List.length l) : Nat) : Int) ≤ (2000 : Int)))
    (cnd (decide ((((List.length l2) : Nat) : Int) ≤ (2000 : Int)))
      (cnd (!(mValid s (l ++ l2)))
        (((((0 : Int) = (if ((((mValid s l) && (mValid s2 l2)) && (mValid s (l ++ l2))) = Bool.true) then s else (0 : Int))) ∧ True) ∧ ((5 : Int) = (if (((mValid s l) && (mValid s2 l2)) = Bool.true) then (if ((mValid s (l ++ l2)) = Bool.true) then (0 : Int) else (5 : Int)) else (1 : Int)))) ∧ (((if ((((mValid s l) && (mValid s2 l2)) && (mValid s (l ++ l2))) = Bool.true) then (l ++ l2) else ([] : List (List Int))) = ([] : List (List Int))) ∧ True))
        ((((s = (if ((((mValid s l) && (mValid s2 l2)) && (mValid s (l ++ l2))) = Bool.true) then s else (0 : Int))) ∧ True) ∧ ((0 : Int) = (if (((mValid s l) && (mValid s2 l2)) = Bool.true) then (if ((mValid s (l ++ l2)) = Bool.true) then (0 : Int) else (5 : Int)) else (1 : Int)))) ∧ (((l ++ l2) = (if ((((mValid s l) && (mValid s2 l2)) && (mValid s (l ++ l2))) = Bool.true) then (l ++ l2) else ([] : List (List Int)))) ∧ True)))
      False)
    False) ∧ (cnd (decide ((((List.length l) : Nat) : Int) ≤ (2000 : Int)))
    (cnd (decide ((((List.length l2) : Nat) : Int) ≤ (2000 : Int)))
      (cnd (!(mValid s (l ++ l2)))
        (((((0 : Int) = (if ((((mValid s l) && (mValid s2 l2)) && (mValid s (l ++ l2))) = Bool.true) then s else (0 : Int))) ∧ True) ∧ ((5 : Int) = (if (((mValid s l) && (mValid s2 l2)) = Bool.true) then (if ((mValid s (l ++ l2)) = Bool.true) then (0 : Int) else (5 : Int)) else (1 : Int)))) ∧ (((if ((((mValid s l) && (mValid s2 l2)) && (mValid s (l ++ l2))) = Bool.true) then (l ++ l2) else ([] : List (List Int))) = ([] : List (List Int))) ∧ True))
        ((((s = (if ((((mValid s l) && (mValid s2 l2)) && (mValid s (l ++ l2))) = Bool.true) then s else (0 : Int))) ∧ True) ∧ ((0 : Int) = (if (((mValid s l) && (mValid s2 l2)) = Bool.true) then (if ((mValid s (l ++ l2)) = Bool.true) then (0 : Int) else (5 : Int)) else (1 : Int)))) ∧ (((l ++ l2) = (if ((((mValid s l) && (mValid s2 l2)) && (mValid s (l ++ l2))) = Bool.true) then (l ++ l2) else ([] : List (List Int)))) ∧ True)))
      False)
    False)))) ∧ ((cnd (decide ((((List.length l) : Nat) : Int) ≤ (2000 : Int)))
    (cnd (decide ((((List.length l2) : Nat) : Int) ≤ (2000 : Int)))
      (cnd (!(mValid s (l ++ l2)))
        (((((0 : Int) = (if ((((mValid s l) && (mValid s2 l2)) && (mValid s (l ++ l2))) = Bool.true) then s else (0 : Int))) ∧ True) ∧ ((5 : Int) = (if (((mValid s l) && (mValid s2 l2)) = Bool.true) then (if ((mValid s (l ++ l2)) = Bool.true) then (0 : Int) else (5 : Int)) else (1 : Int)))) ∧ (((if ((((mValid s l) && (mValid s2 l2)) && (mValid s (l ++ l2))) = Bool.true) then (l ++ l2) else ([] : List (List Int))) = ([] : List (List Int))) ∧ True))
        ((((s = (if ((((mValid s l) && (mValid s2 l2)) && (mValid s (l ++ l2))) = Bool.true) then s else (0 : Int))) ∧ True) ∧ ((0 : Int) = (if (((mValid s l) && (mValid s2 l2)) = Bool.true) then (if ((mValid s (l ++ l2)) = Bool.true) then (0 : Int) else (5 : Int)) else (1 : Int)))) ∧ (((l ++ l2) = (if ((((mValid s l) && (mValid s2 l2)) && (mValid s (l ++ l2))) = Bool.true) then (l ++ l2) else ([] : List (List Int)))) ∧ True)))
      False)
    False) ∧ ((cnd (decide ((((List.length l) : Nat) : Int) ≤ (2000 : Int)))
    (cnd (decide ((((List.length l2) : Nat) : Int) ≤ (2000 : Int)))
      (cnd (!(mValid s (l ++ l2)))
        (((((0 : Int) = (if ((((mValid s l) && (mValid s2 l2)) && (mValid s (l ++ l2))) = Bool.true) then s else (0 : Int))) ∧ True) ∧ ((5 : Int) = (if (((mValid s l) && (mValid s2 l2)) = Bool.true) then (if ((mValid s (l ++ l2)) = Bool.true) then (0 : Int) else (5 : Int)) else (1 : Int)))) ∧ (((if ((((mValid s l) && (mValid s2 l2)) && (mValid s (l ++ l2))) = Bool.true) then (l ++ l2) else ([] : List (List Int))) = ([] : List (List Int))) ∧ True))
        ((((s = (if ((((mValid s l) && (mValid s2 l2)) && (mValid s (l ++ l2))) = Bool.true) then s else (0 : Int))) ∧ True) ∧ ((0 : Int) = (if (((mValid s l) && (mValid s2 l2)) = Bool.true) then (if ((mValid s (l ++ l2)) = Bool.true) then (0 : Int) else (5 : Int)) else (1 : Int)))) ∧ (((l ++ l2) = (if ((((mValid s l) && (mValid s2 l2)) && (mValid s (l ++ l2))) = Bool.true) then (l ++ l2) else ([] : List (List Int)))) ∧ True)))
      False)
    False) ∧ (cnd (decide ((((List.length l) : Nat) : Int) ≤ (2000 : Int)))
    (cnd (decide ((((List.length l2) : Nat) : Int) ≤ (2000 : Int)))
      (cnd (!(mValid s (l ++ l2)))
        (((((0 : Int) = (if ((((mValid s l) && (mValid s2 l2)) && (mValid s (l ++ l2))) = Bool.true) then s else (0 : Int))) ∧ True) ∧ ((5 : Int) = (if (((mValid s l) && (mValid s2 l2)) = Bool.true) then (if ((mValid s (l ++ l2)) = Bool.true) then (0 : Int) else (5 : Int)) else (1 : Int)))) ∧ (((if ((((mValid s l) && (mValid s2 l2)) && (mValid s (l ++ l2))) = Bool.true) then (l ++ l2) else ([] : List (List Int))) = ([] : List (List Int))) ∧ True))
        ((((s = (if ((((mValid s l) && (mValid s2 l2)) && (mValid s (l ++ l2))) = Bool.true) then s else (0 : Int))) ∧ True) ∧ ((0 : Int) = (if (((mValid s l) && (mValid s2 l2)) = Bool.true) then (if ((mValid s (l ++ l2)) = Bool.true) then (0 : Int) else (5 : Int)) else (1 : Int)))) ∧ (((l ++ l2) = (if ((((mValid s l) && (mValid s2 l2)) && (mValid s (l ++ l2))) = Bool.true) then (l ++ l2) else ([] : List (List Int)))) ∧ True)))
      False)
    False)))))) := by
  cases h1 : mValid s l with
  | false => simp [cnd]
  | true =>
    cases h2 : mValid s2 l2 with
    | false => simp [cnd]
    | true =>
      have g1 := (mV_iff.1 h1).2.1
      have g2 := (mV_iff.1 h2).2.1
      cases h3 : mValid s (l ++ l2) <;> simp [cnd, g1, g2]
set_option maxHeartbeats 2000000 in
theorem join_ok : SoundEnt Try.prog join_e := by
  refine ent_of_ex (Γ := (conOf [valid_e, concat_e])) (conOf_sound (scons valid_ok (scons concat_ok snil))) (by kernel_rfl) Try.func25 (by kernel_rfl) (by kernel_rfl) (fun args rows caps res h ho => ?_)
  change join_go args rows caps = some res at h
  unfold join_go at h
  split at h
  · simp only [Option.some.injEq] at h
    subst h
    rename_i q0_ q2_ q1_ q3_
    skip
    exact EX.of (join_tree q0_ q1_ q2_ q3_) (join_holds q0_ q1_ q2_ q3_)
  · cases h
def rjoin_res (s : Int) (l : List (List Int)) (s2 : Int) (l2 : List (List Int)) : CRes := ⟨[], .tup [.agg [.int .i64 (if mValid s l && mValid s2 l2 && mValid s (l ++ l2) then s else 0), .row 2], .cel (.int .i64 (if mValid s l && mValid s2 l2 then (if mValid s (l ++ l2) then 0 else 5) else 1))], [.recs [.int .i64, .int .i64] (if mValid s l && mValid s2 l2 && mValid s (l ++ l2) then l ++ l2 else [])]⟩
def rjoin_go : List TV → List RowA → List (List CV) → Option CRes := fun args rows caps =>
  match args, rows, caps with
  | [.agg [.int .i64 s, .row 0], .agg [.int .i64 s2, .row 1]], [.recs [.int .i64, .int .i64] l, .recs [.int .i64, .int .i64] l2], [] => some (rjoin_res s l s2 l2)
  | _, _, _ => none
def rjoin_e : Ent := ⟨26, [.recs [.int .i64, .int .i64] [], .recs [.int .i64, .int .i64] []], rjoin_go⟩
set_option maxRecDepth 100000 in
theorem rjoin_tree (s : Int) (l : List (List Int)) (s2 : Int) (l2 : List (List Int)) : ((cnd ((!(mValid s l)) || (!(mValid s2 l2)))
  (((((0 : Int) = (if ((((mValid s l) && (mValid s2 l2)) && (mValid s (l ++ l2))) = Bool.true) then s else (0 : Int))) ∧ True) ∧ ((1 : Int) = (if (((mValid s l) && (mValid s2 l2)) = Bool.true) then (if ((mValid s (l ++ l2)) = Bool.true) then (0 : Int) else (5 : Int)) else (1 : Int)))) ∧ (((if ((((mValid s l) && (mValid s2 l2)) && (mValid s (l ++ l2))) = Bool.true) then (l ++ l2) else ([] : List (List Int))) = ([] : List (List Int))) ∧ True))
  (cnd (decide ((List.length l) ≤ 4294967296))
    (cnd (decide ((List.length (l ++ l2)) ≤ 4294967296))
      (cnd (!(mValid s (l ++ l2)))
        (((((0 : Int) = (if ((((mValid s l) && (mValid s2 l2)) && (mValid s (l ++ l2))) = Bool.true) then s else (0 : Int))) ∧ True) ∧ ((5 : Int) = (if (((mValid s l) && (mValid s2 l2)) = Bool.true) then (if ((mValid s (l ++ l2)) = Bool.true) then (0 : Int) else (5 : Int)) else (1 : Int)))) ∧ (((if ((((mValid s l) && (mValid s2 l2)) && (mValid s (l ++ l2))) = Bool.true) then (l ++ l2) else ([] : List (List Int))) = ([] : List (List Int))) ∧ True))
        ((((s = (if ((((mValid s l) && (mValid s2 l2)) && (mValid s (l ++ l2))) = Bool.true) then s else (0 : Int))) ∧ True) ∧ ((0 : Int) = (if (((mValid s l) && (mValid s2 l2)) = Bool.true) then (if ((mValid s (l ++ l2)) = Bool.true) then (0 : Int) else (5 : Int)) else (1 : Int)))) ∧ (((l ++ l2) = (if ((((mValid s l) && (mValid s2 l2)) && (mValid s (l ++ l2))) = Bool.true) then (l ++ l2) else ([] : List (List Int)))) ∧ True)))
      False)
    False))) = EXD Try.prog (conOf [rvalid_e]) Try.f26 [.agg [.int .i64 s, .row 0], .agg [.int .i64 s2, .row 1]] [.recs [.int .i64, .int .i64] l, .recs [.int .i64, .int .i64] l2] [] (rjoin_res s l s2 l2) := by kernel_rfl
theorem rjoin_holds (s : Int) (l : List (List Int)) (s2 : Int) (l2 : List (List Int))  : (cnd ((!(mValid s l)) || (!(mValid s2 l2)))
  (((((0 : Int) = (if ((((mValid s l) && (mValid s2 l2)) && (mValid s (l ++ l2))) = Bool.true) then s else (0 : Int))) ∧ True) ∧ ((1 : Int) = (if (((mValid s l) && (mValid s2 l2)) = Bool.true) then (if ((mValid s (l ++ l2)) = Bool.true) then (0 : Int) else (5 : Int)) else (1 : Int)))) ∧ (((if ((((mValid s l) && (mValid s2 l2)) && (mValid s (l ++ l2))) = Bool.true) then (l ++ l2) else ([] : List (List Int))) = ([] : List (List Int))) ∧ True))
  (cnd (decide ((List.length l) ≤ 4294967296))
    (cnd (decide ((List.length (l ++ l2)) ≤ 4294967296))
      (cnd (!(mValid s (l ++ l2)))
        (((((0 : Int) = (if ((((mValid s l) && (mValid s2 l2)) && (mValid s (l ++ l2))) = Bool.true) then s else (0 : Int))) ∧ True) ∧ ((5 : Int) = (if (((mValid s l) && (mValid s2 l2)) = Bool.true) then (if ((mValid s (l ++ l2)) = Bool.true) then (0 : Int) else (5 : Int)) else (1 : Int)))) ∧ (((if ((((mValid s l) && (mValid s2 l2)) && (mValid s (l ++ l2))) = Bool.true) then (l ++ l2) else ([] : List (List Int))) = ([] : List (List Int))) ∧ True))
        ((((s = (if ((((mValid s l) && (mValid s2 l2)) && (mValid s (l ++ l2))) = Bool.true) then s else (0 : Int))) ∧ True) ∧ ((0 : Int) = (if (((mValid s l) && (mValid s2 l2)) = Bool.true) then (if ((mValid s (l ++ l2)) = Bool.true) then (0 : Int) else (5 : Int)) else (1 : Int)))) ∧ (((l ++ l2) = (if ((((mValid s l) && (mValid s2 l2)) && (mValid s (l ++ l2))) = Bool.true) then (l ++ l2) else ([] : List (List Int)))) ∧ True)))
      False)
    False)) := by
  cases h1 : mValid s l with
  | false => simp [cnd]
  | true =>
    cases h2 : mValid s2 l2 with
    | false => simp [cnd]
    | true =>
      have g1 := (mV_iff.1 h1).2.1
      have g2 := (mV_iff.1 h2).2.1
      rw [decide_eq_true (show l.length ≤ 4294967296 by omega), decide_eq_true (show (l ++ l2).length ≤ 4294967296 by rw [List.length_append]; omega)]
      cases h3 : mValid s (l ++ l2) <;> simp [cnd]
set_option maxHeartbeats 2000000 in
theorem rjoin_ok : SoundEnt Try.prog rjoin_e := by
  refine ent_of_ex (Γ := (conOf [rvalid_e])) (conOf_sound (scons rvalid_ok snil)) (by kernel_rfl) Try.func26 (by kernel_rfl) (by kernel_rfl) (fun args rows caps res h ho => ?_)
  change rjoin_go args rows caps = some res at h
  unfold rjoin_go at h
  split at h
  · simp only [Option.some.injEq] at h
    subst h
    rename_i q0_ q2_ q1_ q3_
    skip
    exact EX.of (rjoin_tree q0_ q1_ q2_ q3_) (rjoin_holds q0_ q1_ q2_ q3_)
  · cases h
def two (r : List Int) : List Int := [r0 r, r1 r]
theorem take_snocR {l : List (List Int)} {i : Int} (h0 : 0 ≤ i) (h1 : i < l.length) : l.take (i + 1).toNat = l.take i.toNat ++ [l.getD i.toNat []] := by
  rw [show (i + 1).toNat = i.toNat + 1 by omega, List.take_add_one, List.getElem?_eq_getElem (by omega), List.getD_eq_getElem?_getD, List.getElem?_eq_getElem (by omega)]; rfl
theorem two_dec (a b : List Int) : ((decide ((List.getD a 0 (0 : Int)) = (List.getD b 0 (0 : Int)))) && ((decide ((List.getD a (0 + 1) (0 : Int)) = (List.getD b (0 + 1) (0 : Int)))) && Bool.true)) = decide (two a = two b) := by
  simp [two, r0, r1]
def rsame_res (s : Int) (l : List (List Int)) (s2 : Int) (l2 : List (List Int)) : CRes := ⟨[decide ((l.length : Int) ≤ 1000000), decide ((l2.length : Int) ≤ 1000000)], .one (.cel (.bool (decide (s = s2) && decide (l.map two = l2.map two)))), []⟩
def rsame_go : List TV → List RowA → List (List CV) → Option CRes := fun args rows caps =>
  match args, rows, caps with
  | [.agg [.int .i64 s, .row 0], .agg [.int .i64 s2, .row 1]], [.recs [.int .i64, .int .i64] l, .recs [.int .i64, .int .i64] l2], [] => some (rsame_res s l s2 l2)
  | _, _, _ => none
def rsame_e : Ent := ⟨27, [.recs [.int .i64, .int .i64] [], .recs [.int .i64, .int .i64] []], rsame_go⟩
def rsame_L1_F (s : Int) (l : List (List Int)) (s2 : Int) (l2 : List (List Int)) (i : Int) : St := ⟨38, [], [(5, (.one (.cel (.int .i64 i)))), (4, (.one (.cel (.bool Bool.false)))), (3, (.one (.cel (.ptr 1 0)))), (2, (.one (.cel (.ptr 0 0))))], [[(.int .i64 s), (.row 0)], [(.int .i64 s2), (.row 1)]], [⟨(.recs [.int .i64, .int .i64] l), none⟩, ⟨(.recs [.int .i64, .int .i64] l2), none⟩], 0⟩
def rsame_L1_I (s : Int) (l : List (List Int)) (s2 : Int) (l2 : List (List Int)) (i : Int) : Prop := (0 ≤ i ∧ i ≤ l.length ∧ l.length = l2.length) ∧ ((l.take i.toNat).map two = (l2.take i.toNat).map two) ∧ (s = s2)
def rsame_L1_m (s : Int) (l : List (List Int)) (s2 : Int) (l2 : List (List Int)) (i : Int) : Nat := (l.length - i).toNat
def rsame_L1_N (s : Int) (l : List (List Int)) (s2 : Int) (l2 : List (List Int)) (i' : Int) (st_ : St) : Prop := getI st_ 5 fun i => rsame_L1_I s l s2 l2 i ∧ rsame_L1_m s l s2 l2 i < rsame_L1_m s l s2 l2 i' ∧ SubA st_ (rsame_L1_F s l s2 l2 i)
def rsame_L1_E (s : Int) (l : List (List Int)) (s2 : Int) (l2 : List (List Int)) (st_ : St) : Prop := getI st_ 5 fun i => rsame_L1_I s l s2 l2 i ∧ SubA st_ (rsame_L1_F s l s2 l2 i)
def rsame_L1_S1 (s : Int) (l : List (List Int)) (s2 : Int) (l2 : List (List Int)) : St := ⟨38, [11], [(5, (.one (.cel (.int .i64 (0 : Int))))), (19, (.one (.cel (.bool ((!(decide (s = s2))) || (!(decide ((((List.length l) : Nat) : Int) = (((List.length l2) : Nat) : Int))))))))), (18, (.spec 11 Bool.false (.cel (.bool (!(decide ((((List.length l) : Nat) : Int) = (((List.length l2) : Nat) : Int)))))))), (17, (.spec 11 Bool.false (.cel (.int .i64 (((List.length l2) : Nat) : Int))))), (16, (.spec 11 Bool.false (.cel (.row 1)))), (15, (.spec 11 Bool.false (.cel (.ptr 1 1)))), (14, (.spec 11 Bool.false (.cel (.int .i64 (((List.length l) : Nat) : Int))))), (13, (.spec 11 Bool.false (.cel (.row 0)))), (12, (.spec 11 Bool.false (.cel (.ptr 0 1)))), (11, (.one (.cel (.bool (!(decide (s = s2))))))), (10, (.one (.cel (.bool (!(decide (s = s2))))))), (9, (.one (.cel (.int .i64 s2)))), (8, (.one (.cel (.ptr 1 0)))), (7, (.one (.cel (.int .i64 s)))), (6, (.one (.cel (.ptr 0 0)))), (4, (.one (.cel (.bool Bool.false)))), (3, (.one (.cel (.ptr 1 0)))), (2, (.one (.cel (.ptr 0 0)))), (0, (.one (.agg [(.int .i64 s), (.row 0)]))), (1, (.one (.agg [(.int .i64 s2), (.row 1)])))], [[(.int .i64 s), (.row 0)], [(.int .i64 s2), (.row 1)]], [⟨(.recs [.int .i64, .int .i64] l), none⟩, ⟨(.recs [.int .i64, .int .i64] l2), none⟩], 0⟩
def rsame_L1_T (s : Int) (l : List (List Int)) (s2 : Int) (l2 : List (List Int)) (i : Int) : Prop := (cnd (decide (i < (((List.length l) : Nat) : Int)))
  (cnd (decide ((0 : Int) ≤ i))
    (cnd (decide (i < (((List.length l) : Nat) : Int)))
      (cnd (decide ((0 : Int) ≤ i))
        (cnd (decide (i < (((List.length l2) : Nat) : Int)))
          (cnd (!((decide ((List.getD (List.getD l (Int.toNat i) ([] : List Int)) 0 (0 : Int)) = (List.getD (List.getD l2 (Int.toNat i) ([] : List Int)) 0 (0 : Int)))) && ((decide ((List.getD (List.getD l (Int.toNat i) ([] : List Int)) (0 + 1) (0 : Int)) = (List.getD (List.getD l2 (Int.toNat i) ([] : List Int)) (0 + 1) (0 : Int)))) && Bool.true)))
            (Bool.false = ((decide (s = s2)) && (decide ((List.map two l) = (List.map two l2)))))
            ((rsame_L1_I s l s2 l2 (Go.IntKind.wrap Go.IntKind.i64 (i + (1 : Int)))) ∧ (((rsame_L1_m s l s2 l2 (Go.IntKind.wrap Go.IntKind.i64 (i + (1 : Int)))) < (rsame_L1_m s l s2 l2 i)) ∧ (((Go.IntKind.wrap Go.IntKind.i64 (i + (1 : Int))) = (Go.IntKind.wrap Go.IntKind.i64 (i + (1 : Int)))) ∧ ((Bool.false = Bool.false) ∧ (True ∧ (True ∧ (((s = s) ∧ True) ∧ (((s2 = s2) ∧ True) ∧ ((l = l) ∧ ((l2 = l2) ∧ True)))))))))))
          False)
        False)
      False)
    False)
  (Bool.true = ((decide (s = s2)) && (decide ((List.map two l) = (List.map two l2))))))
set_option maxRecDepth 100000 in
theorem rsame_L1_tree (s : Int) (l : List (List Int)) (s2 : Int) (l2 : List (List Int)) (i : Int) : rsame_L1_T s l s2 l2 i = ex Try.prog (conOf []) (subC (bodyOf Try.f27) [1, 1, 0, 1, 0, 0]) (nextE (rsame_L1_N s l s2 l2 i) (kont Try.prog (conOf []) (bodyOf Try.f27) [1, 1, 0, 1, 0] (retPost Try.prog Try.f27 2 (rsame_res s l s2 l2)))) (rsame_L1_F s l s2 l2 i) := by kernel_rfl
set_option maxRecDepth 100000 in
theorem rsame_L1_round (s : Int) (l : List (List Int)) (s2 : Int) (l2 : List (List Int)) (i : Int) (p0 : (decide ((l.length : Int) ≤ 1000000)) = true) (p1 : (decide ((l2.length : Int) ≤ 1000000)) = true) (hI_L1 : rsame_L1_I s l s2 l2 i) : rsame_L1_T s l s2 l2 i := by
  obtain ⟨⟨a1, a2, a3⟩, a4, a5⟩ := hI_L1
  simp only [decide_eq_true_eq] at p0 p1
  unfold rsame_L1_T
  rw [w64 (n := i + 1) (by omega) (by omega)]
  by_cases hl : i < l.length
  · have hl2 : i < (l2.length : Int) := by omega
    rw [decide_eq_true hl, decide_eq_true hl2, decide_eq_true a1, two_dec]
    by_cases hx : two (l.getD i.toNat []) = two (l2.getD i.toNat [])
    · rw [decide_eq_true hx]
      refine ⟨⟨⟨by omega, by omega, a3⟩, ?_, a5⟩, ?_, by simp⟩
      · rw [take_snocR a1 hl, take_snocR a1 hl2, List.map_append, List.map_append, a4, List.map_singleton, List.map_singleton, hx]
      · unfold rsame_L1_m
        omega
    · rw [decide_eq_false hx]
      have hne : ¬ l.map two = l2.map two := by
        intro h
        apply hx
        have h2 := congrArg (fun z => z[i.toNat]?) h
        simp only [List.getElem?_map] at h2
        rw [List.getElem?_eq_getElem (by omega), List.getElem?_eq_getElem (by omega)] at h2
        rw [List.getD_eq_getElem?_getD, List.getElem?_eq_getElem (by omega), List.getD_eq_getElem?_getD, List.getElem?_eq_getElem (by omega)]
        simpa using h2
      show false = _
      rw [decide_eq_false hne, Bool.and_false]
  · rw [decide_eq_false hl]
    rw [List.take_of_length_le (by omega), List.take_of_length_le (by omega)] at a4
    show true = _
    rw [decide_eq_true a4, decide_eq_true a5]; rfl
set_option maxRecDepth 100000 in
theorem rsame_L1_entry1 (s : Int) (l : List (List Int)) (s2 : Int) (l2 : List (List Int)) : (((rsame_L1_I s l s2 l2 (0 : Int)) ∧ (((0 : Int) = (0 : Int)) ∧ ((Bool.false = Bool.false) ∧ (True ∧ (True ∧ (((s = s) ∧ True) ∧ (((s2 = s2) ∧ True) ∧ ((l = l) ∧ ((l2 = l2) ∧ True)))))))))) = rsame_L1_E s l s2 l2 (rsame_L1_S1 s l s2 l2) := by kernel_rfl
theorem rsame_L1_1 (s : Int) (l : List (List Int)) (s2 : Int) (l2 : List (List Int)) (p0 : (decide ((l.length : Int) ≤ 1000000)) = true) (p1 : (decide ((l2.length : Int) ≤ 1000000)) = true) (h : ((rsame_L1_I s l s2 l2 (0 : Int)) ∧ (((0 : Int) = (0 : Int)) ∧ ((Bool.false = Bool.false) ∧ (True ∧ (True ∧ (((s = s) ∧ True) ∧ (((s2 = s2) ∧ True) ∧ ((l = l) ∧ ((l2 = l2) ∧ True)))))))))) : LoopP (ex Try.prog (conOf []) (subC (bodyOf Try.f27) [1, 1, 0, 1, 0, 0])) (kont Try.prog (conOf []) (bodyOf Try.f27) [1, 1, 0, 1, 0] (retPost Try.prog Try.f27 2 (rsame_res s l s2 l2))) (rsame_L1_S1 s l s2 l2) := by
  have hE : rsame_L1_E s l s2 l2 (rsame_L1_S1 s l s2 l2) := Eq.mp (rsame_L1_entry1 s l s2 l2) h
  unfold rsame_L1_E at hE
  obtain ⟨i, hE⟩ := getI_of hE
  refine loop_of (α := (Int)) (fun xx_ => rsame_L1_F s l s2 l2 xx_) (fun xx_ => rsame_L1_I s l s2 l2 xx_) (fun xx_ => rsame_L1_m s l s2 l2 xx_) (fun xx_ => rsame_L1_N s l s2 l2 xx_) (fun xx_ => rsame_L1_T s l s2 l2 xx_) (fun xx_ s_ h => ?_) ⟨i, hE⟩ (fun xx_ => rsame_L1_tree s l s2 l2 xx_) (fun xx_ hI => rsame_L1_round s l s2 l2 xx_ p0 p1 hI)
  unfold rsame_L1_N at h
  obtain ⟨i, h⟩ := getI_of h
  exact ⟨i, h⟩
set_option maxRecDepth 100000 in
theorem rsame_tree (s : Int) (l : List (List Int)) (s2 : Int) (l2 : List (List Int)) : ((cnd ((!(decide (s = s2))) || (!(decide ((((List.length l) : Nat) : Int) = (((List.length l2) : Nat) : Int)))))
  (Bool.false = ((decide (s = s2)) && (decide ((List.map two l) = (List.map two l2)))))
  (LoopP (ex Try.prog (conOf []) (subC (bodyOf Try.f27) [1, 1, 0, 1, 0, 0])) (kont Try.prog (conOf []) (bodyOf Try.f27) [1, 1, 0, 1, 0] (retPost Try.prog Try.f27 2 (rsame_res s l s2 l2))) (rsame_L1_S1 s l s2 l2)))) = EXD Try.prog (conOf []) Try.f27 [.agg [.int .i64 s, .row 0], .agg [.int .i64 s2, .row 1]] [.recs [.int .i64, .int .i64] l, .recs [.int .i64, .int .i64] l2] [] (rsame_res s l s2 l2) := by kernel_rfl
theorem rsame_holds (s : Int) (l : List (List Int)) (s2 : Int) (l2 : List (List Int)) (p0 : (decide ((l.length : Int) ≤ 1000000)) = true) (p1 : (decide ((l2.length : Int) ≤ 1000000)) = true) : (cnd ((!(decide (s = s2))) || (!(decide ((((List.length l) : Nat) : Int) = (((List.length l2) : Nat) : Int)))))
  (Bool.false = ((decide (s = s2)) && (decide ((List.map two l) = (List.map two l2)))))
  (LoopP (ex Try.prog (conOf []) (subC (bodyOf Try.f27) [1, 1, 0, 1, 0, 0])) (kont Try.prog (conOf []) (bodyOf Try.f27) [1, 1, 0, 1, 0] (retPost Try.prog Try.f27 2 (rsame_res s l s2 l2))) (rsame_L1_S1 s l s2 l2))) := by
  by_cases h : l.length = l2.length
  · by_cases hs : s = s2
    · have j : (!decide (s = s2) || !decide ((l.length : Int) = (l2.length : Int))) = false := by simp [h, hs]
      rw [j]
      exact rsame_L1_1 s l s2 l2 p0 p1 ⟨⟨⟨by omega, by omega, h⟩, by simp, hs⟩, by simp⟩
    · rw [decide_eq_false hs]; rfl
  · have h2 : ¬ (l.length : Int) = (l2.length : Int) := by omega
    have h3 : ¬ l.map two = l2.map two := fun e => h (by have := congrArg List.length e; simpa using this)
    rw [decide_eq_false h2, decide_eq_false h3]
    simp [cnd]
set_option maxHeartbeats 2000000 in
theorem rsame_ok : SoundEnt Try.prog rsame_e := by
  refine ent_of_ex (Γ := (conOf [])) (conOf_sound snil) (by kernel_rfl) Try.func27 (by kernel_rfl) (by kernel_rfl) (fun args rows caps res h ho => ?_)
  change rsame_go args rows caps = some res at h
  unfold rsame_go at h
  split at h
  · simp only [Option.some.injEq] at h
    subst h
    rename_i q0_ q2_ q1_ q3_
    obtain ⟨p0, p1, _⟩ := ho
    exact EX.of (rsame_tree q0_ q1_ q2_ q3_) (rsame_holds q0_ q1_ q2_ q3_ p0 p1)
  · cases h
def stdB (k : Int) : List (List Int) → Bool
  | [] => true
  | [a] => !decide (r1 a = 0)
  | a :: b :: l => !decide (r1 a = 0) && !decide ((k + 1) * min (r1 a) (r1 b) < k * max (r1 a) (r1 b)) && stdB k (b :: l)
theorem stdB_head {k : Int} {a : List Int} {l : List (List Int)} (h : r1 a = 0) : stdB k (a :: l) = false := by
  cases l <;> simp [stdB, h]
theorem vL_bd : ∀ (l : List (List Int)) (e : Int) (j : Nat), vL e l = true → j < l.length → 0 ≤ r1 (l.getD j []) ∧ r1 (l.getD j []) ≤ 524288
  | [], _, _, _, h => by simp at h
  | r :: l, e, 0, hv, _ => by
    obtain ⟨⟨a1, a2, a3, a4⟩, _, _⟩ := vL_cons hv
    exact ⟨a3, a4⟩
  | r :: l, e, j + 1, hv, h => by
    obtain ⟨_, _, a6⟩ := vL_cons hv
    have := vL_bd l _ j a6 (by simpa using h)
    simpa using this
def stdOk (s : Int) (l : List (List Int)) (k : Int) : Bool := mValid s l && decide (1 ≤ k) && decide (k ≤ 1000) && stdB k l
def steady_res (s : Int) (l : List (List Int)) (k : Int) : CRes := ⟨[], .one (.cel (.bool (stdOk s l k))), []⟩
def steady_go : List TV → List RowA → List (List CV) → Option CRes := fun args rows caps =>
  match args, rows, caps with
  | [.agg [.int .i64 s, .row 0], .cel (.int .i64 k)], [.recs [.int .i64, .int .i64] l], [] => some (steady_res s l k)
  | _, _, _ => none
def steady_e : Ent := ⟨28, [.recs [.int .i64, .int .i64] []], steady_go⟩
def steady_L1_F (s : Int) (l : List (List Int)) (k : Int) (i : Int) : St := ⟨54, [], [(22, (.one (.cel (.int .i64 i)))), (21, (.one (.cel (.int .i64 (((List.length l) : Nat) : Int))))), (20, (.one (.cel (.row 0)))), (4, (.one (.cel (.bool Bool.false)))), (2, (.one (.cel (.ptr 0 0)))), (1, (.one (.cel (.int .i64 k))))], [[(.int .i64 s), (.row 0)]], [⟨(.recs [.int .i64, .int .i64] l), none⟩], 0⟩
def steady_L1_I (s : Int) (l : List (List Int)) (k : Int) (i : Int) : Prop := (0 ≤ i ∧ i ≤ l.length) ∧ (mValid s l = true ∧ 1 ≤ k ∧ k ≤ 1000) ∧ (i = 0 ∨ ¬ r1 (l.getD (i - 1).toNat []) = 0) ∧ (stdB k l = stdB k (l.drop (i - 1).toNat))
def steady_L1_m (s : Int) (l : List (List Int)) (k : Int) (i : Int) : Nat := (l.length - i).toNat
def steady_L1_N (s : Int) (l : List (List Int)) (k : Int) (i' : Int) (st_ : St) : Prop := getI st_ 22 fun i => steady_L1_I s l k i ∧ steady_L1_m s l k i < steady_L1_m s l k i' ∧ SubA st_ (steady_L1_F s l k i)
def steady_L1_E (s : Int) (l : List (List Int)) (k : Int) (st_ : St) : Prop := getI st_ 22 fun i => steady_L1_I s l k i ∧ SubA st_ (steady_L1_F s l k i)
def steady_L1_S1 (s : Int) (l : List (List Int)) (k : Int) : St := ⟨54, [15, 11], [(22, (.one (.cel (.int .i64 (0 : Int))))), (21, (.one (.cel (.int .i64 (((List.length l) : Nat) : Int))))), (20, (.one (.cel (.row 0)))), (19, (.one (.cel (.ptr 0 1)))), (18, (.one (.cel (.bool (((!(mValid s l)) || (decide (k < (1 : Int)))) || (decide ((1000 : Int) < k))))))), (17, (.spec 15 Bool.false (.cel (.bool (decide ((1000 : Int) < k)))))), (16, (.spec 15 Bool.false (.cel (.int .i64 k)))), (15, (.one (.cel (.bool ((!(mValid s l)) || (decide (k < (1 : Int)))))))), (14, (.one (.cel (.bool ((!(mValid s l)) || (decide (k < (1 : Int)))))))), (13, (.spec 11 Bool.false (.cel (.bool (decide (k < (1 : Int))))))), (12, (.spec 11 Bool.false (.cel (.int .i64 k)))), (11, (.one (.cel (.bool (!(mValid s l)))))), (10, (.one (.cel (.bool (!(mValid s l)))))), (9, (.one (.cel (.bool (mValid s l))))), (8, (.one (.agg [(.int .i64 s), (.row 0)]))), (4, (.one (.cel (.bool Bool.false)))), (2, (.one (.cel (.ptr 0 0)))), (0, (.one (.agg [(.int .i64 s), (.row 0)]))), (1, (.one (.cel (.int .i64 k))))], [[(.int .i64 s), (.row 0)]], [⟨(.recs [.int .i64, .int .i64] l), none⟩], 0⟩
def steady_L1_T (s : Int) (l : List (List Int)) (k : Int) (i : Int) : Prop := (cnd (decide (i < (((List.length l) : Nat) : Int)))
  (cnd (decide ((0 : Int) ≤ i))
    (cnd (decide (i < (((List.length l) : Nat) : Int)))
      (cnd (decide ((List.getD (List.getD l (Int.toNat i) ([] : List Int)) (0 + 1) (0 : Int)) = (0 : Int)))
        (Bool.false = (stdOk s l k))
        (cnd (decide (i = (0 : Int)))
          ((steady_L1_I s l k (Go.IntKind.wrap Go.IntKind.i64 (i + (1 : Int)))) ∧ (((steady_L1_m s l k (Go.IntKind.wrap Go.IntKind.i64 (i + (1 : Int)))) < (steady_L1_m s l k i)) ∧ (((Go.IntKind.wrap Go.IntKind.i64 (i + (1 : Int))) = (Go.IntKind.wrap Go.IntKind.i64 (i + (1 : Int)))) ∧ (((((List.length l) : Nat) : Int) = (((List.length l) : Nat) : Int)) ∧ (True ∧ ((Bool.false = Bool.false) ∧ (True ∧ ((k = k) ∧ (((s = s) ∧ True) ∧ ((l = l) ∧ True))))))))))
          (cnd (decide ((0 : Int) ≤ (Go.IntKind.wrap Go.IntKind.i64 (i - (1 : Int)))))
            (cnd (decide ((Go.IntKind.wrap Go.IntKind.i64 (i - (1 : Int))) < (((List.length l) : Nat) : Int)))
              (cnd (decide ((Go.IntKind.wrap Go.IntKind.i64 ((Go.IntKind.wrap Go.IntKind.i64 (k + (1 : Int))) * (gmin (List.getD (List.getD l (Int.toNat (Go.IntKind.wrap Go.IntKind.i64 (i - (1 : Int)))) ([] : List Int)) (0 + 1) (0 : Int)) (List.getD (List.getD l (Int.toNat i) ([] : List Int)) (0 + 1) (0 : Int))))) < (Go.IntKind.wrap Go.IntKind.i64 (k * (gmax (List.getD (List.getD l (Int.toNat (Go.IntKind.wrap Go.IntKind.i64 (i - (1 : Int)))) ([] : List Int)) (0 + 1) (0 : Int)) (List.getD (List.getD l (Int.toNat i) ([] : List Int)) (0 + 1) (0 : Int)))))))
                (Bool.false = (stdOk s l k))
                ((steady_L1_I s l k (Go.IntKind.wrap Go.IntKind.i64 (i + (1 : Int)))) ∧ (((steady_L1_m s l k (Go.IntKind.wrap Go.IntKind.i64 (i + (1 : Int)))) < (steady_L1_m s l k i)) ∧ (((Go.IntKind.wrap Go.IntKind.i64 (i + (1 : Int))) = (Go.IntKind.wrap Go.IntKind.i64 (i + (1 : Int)))) ∧ (((((List.length l) : Nat) : Int) = (((List.length l) : Nat) : Int)) ∧ (True ∧ ((Bool.false = Bool.false) ∧ (True ∧ ((k = k) ∧ (((s = s) ∧ True) ∧ ((l = l) ∧ True)))))))))))
              False)
            False)))
      False)
    False)
  (Bool.true = (stdOk s l k)))
set_option maxRecDepth 100000 in
theorem steady_L1_tree (s : Int) (l : List (List Int)) (k : Int) (i : Int) : steady_L1_T s l k i = ex Try.prog (conOf [valid_e]) (subC (bodyOf Try.f28) [1, 1, 0, 1, 0, 0]) (nextE (steady_L1_N s l k i) (kont Try.prog (conOf [valid_e]) (bodyOf Try.f28) [1, 1, 0, 1, 0] (retPost Try.prog Try.f28 1 (steady_res s l k)))) (steady_L1_F s l k i) := by kernel_rfl
set_option maxRecDepth 100000 in
theorem steady_L1_round (s : Int) (l : List (List Int)) (k : Int) (i : Int)  (hI_L1 : steady_L1_I s l k i) : steady_L1_T s l k i := by
  obtain ⟨⟨a1, a2⟩, ⟨a3, a4, a5⟩, a6, a7⟩ := hI_L1
  obtain ⟨_, v1, v2⟩ := mV_iff.1 a3
  have hok : stdOk s l k = stdB k l := by unfold stdOk; rw [a3, decide_eq_true a4, decide_eq_true a5]; rfl
  unfold steady_L1_T
  simp only [r1e]
  rw [hok]
  by_cases hi : i < l.length
  · have hF : (¬ r1 (l.getD i.toNat []) = 0) → stdB k l = stdB k (l.drop i.toNat) → steady_L1_I s l k (i + 1) := fun h1 h2 => ⟨⟨by omega, by omega⟩, ⟨a3, a4, a5⟩, .inr (by rw [show i + 1 - 1 = i by omega]; exact h1), by rw [show i + 1 - 1 = i by omega]; exact h2⟩
    have hμ : steady_L1_m s l k (i + 1) < steady_L1_m s l k i := by unfold steady_L1_m; omega
    have hd := drop_consR (l := l) (i := i) a1 hi
    have hb := vL_bd l 0 i.toNat v2 (by omega)
    rw [decide_eq_true hi, decide_eq_true a1, w64 (n := i + 1) (by omega) (by omega), w64 (n := i - 1) (by omega) (by omega), w64 (n := k + 1) (by omega) (by omega)]
    by_cases h0 : i = 0
    · subst h0
      have e0 : ((0 : Int) - 1).toNat = (0 : Int).toNat := rfl
      rw [e0] at a7
      by_cases hz : r1 (l.getD (0 : Int).toNat []) = 0
      · rw [decide_eq_true hz, a7, hd, stdB_head hz]
        simp [cnd]
      · rw [decide_eq_false hz]
        simp [cnd, hF hz a7, hμ]
        try exact ⟨hF hz a7, hμ⟩
    · have hd2 := drop_consR (l := l) (i := i - 1) (by omega) (by omega)
      rw [show (i - 1).toNat + 1 = i.toNat by omega] at hd2
      have hb2 := vL_bd l 0 (i - 1).toNat v2 (by omega)
      have ha : ¬ r1 (l.getD (i - 1).toNat []) = 0 := by rcases a6 with h | h; exact absurd h h0; exact h
      rw [hd2, hd] at a7
      have hstep : stdB k l = (!decide ((k + 1) * min (r1 (l.getD (i - 1).toNat [])) (r1 (l.getD i.toNat [])) < k * max (r1 (l.getD (i - 1).toNat [])) (r1 (l.getD i.toNat []))) && stdB k (l.drop i.toNat)) := by
        rw [a7, stdB, decide_eq_false ha, ← hd]; rfl
      rw [decide_eq_true (show 0 ≤ i - 1 by omega), decide_eq_true (show i - 1 < (l.length : Int) by omega)]
      by_cases hz : r1 (l.getD i.toNat []) = 0
      · rw [decide_eq_true hz, hstep, hd, stdB_head hz, Bool.and_false]
        simp [cnd]
      · rw [decide_eq_false hz]
        generalize r1 (l.getD i.toNat []) = y at *
        generalize r1 (l.getD (i - 1).toNat []) = x at *
        have eM : gmax x y = max x y := by unfold gmax; omega
        have em : gmin x y = min x y := by unfold gmin; omega
        have b1 : 0 ≤ k * max x y ∧ k * max x y ≤ 1000 * 524288 := ⟨Int.mul_nonneg (by omega) (by omega), Int.mul_le_mul (by omega) (by omega) (by omega) (by omega)⟩
        have b2 : 0 ≤ (k + 1) * min x y ∧ (k + 1) * min x y ≤ 1001 * 524288 := ⟨Int.mul_nonneg (by omega) (by omega), Int.mul_le_mul (by omega) (by omega) (by omega) (by omega)⟩
        rw [eM, em, w64 (n := k * max x y) (by omega) (by omega), w64 (n := (k + 1) * min x y) (by omega) (by omega)]
        cases hc : decide ((k + 1) * min x y < k * max x y) with
        | true =>
          rw [hc] at hstep
          rw [hstep]
          simp [cnd, h0]
          try omega
        | false =>
          rw [hc] at hstep
          have hFF := hF hz hstep
          simp [cnd, h0, hFF, hμ]
          try exact ⟨hFF, hμ⟩
  · rw [decide_eq_false hi]
    have : stdB k l = true := by
      rw [a7]
      by_cases h0 : i = 0
      · have : l = [] := List.eq_nil_of_length_eq_zero (by omega)
        rw [this]; simp [stdB]
      · have ha : ¬ r1 (l.getD (i - 1).toNat []) = 0 := by rcases a6 with h | h; exact absurd h h0; exact h
        rw [drop_consR (l := l) (i := i - 1) (by omega) (by omega), List.drop_eq_nil_of_le (show l.length ≤ (i - 1).toNat + 1 by omega), stdB, decide_eq_false ha]; rfl
    rw [this]
    simp only [cnd]
set_option maxRecDepth 100000 in
theorem steady_L1_entry1 (s : Int) (l : List (List Int)) (k : Int) : (((steady_L1_I s l k (0 : Int)) ∧ (((0 : Int) = (0 : Int)) ∧ (((((List.length l) : Nat) : Int) = (((List.length l) : Nat) : Int)) ∧ (True ∧ ((Bool.false = Bool.false) ∧ (True ∧ ((k = k) ∧ (((s = s) ∧ True) ∧ ((l = l) ∧ True)))))))))) = steady_L1_E s l k (steady_L1_S1 s l k) := by kernel_rfl
theorem steady_L1_1 (s : Int) (l : List (List Int)) (k : Int)  (h : ((steady_L1_I s l k (0 : Int)) ∧ (((0 : Int) = (0 : Int)) ∧ (((((List.length l) : Nat) : Int) = (((List.length l) : Nat) : Int)) ∧ (True ∧ ((Bool.false = Bool.false) ∧ (True ∧ ((k = k) ∧ (((s = s) ∧ True) ∧ ((l = l) ∧ True)))))))))) : LoopP (ex Try.prog (conOf [valid_e]) (subC (bodyOf Try.f28) [1, 1, 0, 1, 0, 0])) (kont Try.prog (conOf [valid_e]) (bodyOf Try.f28) [1, 1, 0, 1, 0] (retPost Try.prog Try.f28 1 (steady_res s l k))) (steady_L1_S1 s l k) := by
  have hE : steady_L1_E s l k (steady_L1_S1 s l k) := Eq.mp (steady_L1_entry1 s l k) h
  unfold steady_L1_E at hE
  obtain ⟨i, hE⟩ := getI_of hE
  refine loop_of (α := (Int)) (fun xx_ => steady_L1_F s l k xx_) (fun xx_ => steady_L1_I s l k xx_) (fun xx_ => steady_L1_m s l k xx_) (fun xx_ => steady_L1_N s l k xx_) (fun xx_ => steady_L1_T s l k xx_) (fun xx_ s_ h => ?_) ⟨i, hE⟩ (fun xx_ => steady_L1_tree s l k xx_) (fun xx_ hI => steady_L1_round s l k xx_  hI)
  unfold steady_L1_N at h
  obtain ⟨i, h⟩ := getI_of h
  exact ⟨i, h⟩
set_option maxRecDepth 100000 in
theorem steady_tree (s : Int) (l : List (List Int)) (k : Int) : ((cnd (((!(mValid s l)) || (decide (k < (1 : Int)))) || (decide ((1000 : Int) < k)))
  (Bool.false = (stdOk s l k))
  (LoopP (ex Try.prog (conOf [valid_e]) (subC (bodyOf Try.f28) [1, 1, 0, 1, 0, 0])) (kont Try.prog (conOf [valid_e]) (bodyOf Try.f28) [1, 1, 0, 1, 0] (retPost Try.prog Try.f28 1 (steady_res s l k))) (steady_L1_S1 s l k)))) = EXD Try.prog (conOf [valid_e]) Try.f28 [.agg [.int .i64 s, .row 0], .cel (.int .i64 k)] [.recs [.int .i64, .int .i64] l] [] (steady_res s l k) := by kernel_rfl
theorem steady_holds (s : Int) (l : List (List Int)) (k : Int)  : (cnd (((!(mValid s l)) || (decide (k < (1 : Int)))) || (decide ((1000 : Int) < k)))
  (Bool.false = (stdOk s l k))
  (LoopP (ex Try.prog (conOf [valid_e]) (subC (bodyOf Try.f28) [1, 1, 0, 1, 0, 0])) (kont Try.prog (conOf [valid_e]) (bodyOf Try.f28) [1, 1, 0, 1, 0] (retPost Try.prog Try.f28 1 (steady_res s l k))) (steady_L1_S1 s l k))) := by
  refine cnd_i (fun h => ?_) (fun h => ?_)
  · show false = stdOk s l k
    unfold stdOk
    cases hm : mValid s l with
    | false => rfl
    | true =>
      rw [hm] at h
      simp only [Bool.not_true, Bool.false_or, Bool.or_eq_true, decide_eq_true_eq] at h
      rcases h with h | h
      · rw [decide_eq_false (show ¬ 1 ≤ k by omega)]; rfl
      · rw [decide_eq_false (show ¬ k ≤ 1000 by omega)]; simp
  · simp only [Bool.or_eq_false_iff, Bool.not_eq_false', decide_eq_false_iff_not] at h
    exact steady_L1_1 s l k ⟨⟨⟨by omega, by omega⟩, ⟨h.1.1, by omega, by omega⟩, .inl rfl, by simp⟩, by simp⟩
set_option maxHeartbeats 2000000 in
theorem steady_ok : SoundEnt Try.prog steady_e := by
  refine ent_of_ex (Γ := (conOf [valid_e])) (conOf_sound (scons valid_ok snil)) (by kernel_rfl) Try.func28 (by kernel_rfl) (by kernel_rfl) (fun args rows caps res h ho => ?_)
  change steady_go args rows caps = some res at h
  unfold steady_go at h
  split at h
  · simp only [Option.some.injEq] at h
    subst h
    rename_i q0_ q2_ q1_
    skip
    exact EX.of (steady_tree q0_ q1_ q2_) (steady_holds q0_ q1_ q2_)
  · cases h
def rsteady_res (s : Int) (l : List (List Int)) (k : Int) : CRes := ⟨[], .one (.cel (.bool (stdOk s l k))), []⟩
def rsteady_go : List TV → List RowA → List (List CV) → Option CRes := fun args rows caps =>
  match args, rows, caps with
  | [.agg [.int .i64 s, .row 0], .cel (.int .i64 k)], [.recs [.int .i64, .int .i64] l], [] => some (rsteady_res s l k)
  | _, _, _ => none
def rsteady_e : Ent := ⟨29, [.recs [.int .i64, .int .i64] []], rsteady_go⟩
def rsteady_L1_F (s : Int) (l : List (List Int)) (k : Int) (i : Int) : St := ⟨60, [], [(5, (.one (.cel (.int .i64 i)))), (4, (.one (.cel (.bool Bool.false)))), (2, (.one (.cel (.ptr 0 0)))), (1, (.one (.cel (.int .i64 k))))], [[(.int .i64 s), (.row 0)]], [⟨(.recs [.int .i64, .int .i64] l), none⟩], 0⟩
def rsteady_L1_I (s : Int) (l : List (List Int)) (k : Int) (i : Int) : Prop := (0 ≤ i ∧ i ≤ l.length) ∧ (mValid s l = true ∧ 1 ≤ k ∧ k ≤ 1000) ∧ (i = 0 ∨ ¬ r1 (l.getD (i - 1).toNat []) = 0) ∧ (stdB k l = stdB k (l.drop (i - 1).toNat))
def rsteady_L1_m (s : Int) (l : List (List Int)) (k : Int) (i : Int) : Nat := (l.length - i).toNat
def rsteady_L1_N (s : Int) (l : List (List Int)) (k : Int) (i' : Int) (st_ : St) : Prop := getI st_ 5 fun i => rsteady_L1_I s l k i ∧ rsteady_L1_m s l k i < rsteady_L1_m s l k i' ∧ SubA st_ (rsteady_L1_F s l k i)
def rsteady_L1_E (s : Int) (l : List (List Int)) (k : Int) (st_ : St) : Prop := getI st_ 5 fun i => rsteady_L1_I s l k i ∧ SubA st_ (rsteady_L1_F s l k i)
def rsteady_L1_S1 (s : Int) (l : List (List Int)) (k : Int) : St := ⟨60, [15, 11], [(5, (.one (.cel (.int .i64 (0 : Int))))), (18, (.one (.cel (.bool (((!(mValid s l)) || (decide (k < (1 : Int)))) || (decide ((1000 : Int) < k))))))), (17, (.spec 15 Bool.false (.cel (.bool (decide ((1000 : Int) < k)))))), (16, (.spec 15 Bool.false (.cel (.int .i64 k)))), (15, (.one (.cel (.bool ((!(mValid s l)) || (decide (k < (1 : Int)))))))), (14, (.one (.cel (.bool ((!(mValid s l)) || (decide (k < (1 : Int)))))))), (13, (.spec 11 Bool.false (.cel (.bool (decide (k < (1 : Int))))))), (12, (.spec 11 Bool.false (.cel (.int .i64 k)))), (11, (.one (.cel (.bool (!(mValid s l)))))), (10, (.one (.cel (.bool (!(mValid s l)))))), (9, (.one (.cel (.bool (mValid s l))))), (8, (.one (.agg [(.int .i64 s), (.row 0)]))), (4, (.one (.cel (.bool Bool.false)))), (2, (.one (.cel (.ptr 0 0)))), (0, (.one (.agg [(.int .i64 s), (.row 0)]))), (1, (.one (.cel (.int .i64 k))))], [[(.int .i64 s), (.row 0)]], [⟨(.recs [.int .i64, .int .i64] l), none⟩], 0⟩
def rsteady_L1_T (s : Int) (l : List (List Int)) (k : Int) (i : Int) : Prop := (cnd (decide (i < (((List.length l) : Nat) : Int)))
  (cnd (decide ((0 : Int) ≤ i))
    (cnd (decide (i < (((List.length l) : Nat) : Int)))
      (cnd (decide ((List.getD (List.getD l (Int.toNat i) ([] : List Int)) (0 + 1) (0 : Int)) = (0 : Int)))
        (Bool.false = (stdOk s l k))
        (cnd (decide ((0 : Int) < i))
          (cnd (decide ((0 : Int) ≤ (Go.IntKind.wrap Go.IntKind.i64 (i - (1 : Int)))))
            (cnd (decide ((Go.IntKind.wrap Go.IntKind.i64 (i - (1 : Int))) < (((List.length l) : Nat) : Int)))
              (cnd (decide ((0 : Int) ≤ i))
                (cnd (decide (i < (((List.length l) : Nat) : Int)))
                  (cnd (decide ((Go.IntKind.wrap Go.IntKind.i64 ((Go.IntKind.wrap Go.IntKind.i64 (k + (1 : Int))) * (gmin (List.getD (List.getD l (Int.toNat (Go.IntKind.wrap Go.IntKind.i64 (i - (1 : Int)))) ([] : List Int)) (0 + 1) (0 : Int)) (List.getD (List.getD l (Int.toNat i) ([] : List Int)) (0 + 1) (0 : Int))))) < (Go.IntKind.wrap Go.IntKind.i64 (k * (gmax (List.getD (List.getD l (Int.toNat (Go.IntKind.wrap Go.IntKind.i64 (i - (1 : Int)))) ([] : List Int)) (0 + 1) (0 : Int)) (List.getD (List.getD l (Int.toNat i) ([] : List Int)) (0 + 1) (0 : Int)))))))
                    (Bool.false = (stdOk s l k))
                    ((rsteady_L1_I s l k (Go.IntKind.wrap Go.IntKind.i64 (i + (1 : Int)))) ∧ (((rsteady_L1_m s l k (Go.IntKind.wrap Go.IntKind.i64 (i + (1 : Int)))) < (rsteady_L1_m s l k i)) ∧ (((Go.IntKind.wrap Go.IntKind.i64 (i + (1 : Int))) = (Go.IntKind.wrap Go.IntKind.i64 (i + (1 : Int)))) ∧ ((Bool.false = Bool.false) ∧ (True ∧ ((k = k) ∧ (((s = s) ∧ True) ∧ ((l = l) ∧ True)))))))))
                  False)
                False)
              False)
            False)
          ((rsteady_L1_I s l k (Go.IntKind.wrap Go.IntKind.i64 (i + (1 : Int)))) ∧ (((rsteady_L1_m s l k (Go.IntKind.wrap Go.IntKind.i64 (i + (1 : Int)))) < (rsteady_L1_m s l k i)) ∧ (((Go.IntKind.wrap Go.IntKind.i64 (i + (1 : Int))) = (Go.IntKind.wrap Go.IntKind.i64 (i + (1 : Int)))) ∧ ((Bool.false = Bool.false) ∧ (True ∧ ((k = k) ∧ (((s = s) ∧ True) ∧ ((l = l) ∧ True))))))))))
      False)
    False)
  (Bool.true = (stdOk s l k)))
set_option maxRecDepth 100000 in
theorem rsteady_L1_tree (s : Int) (l : List (List Int)) (k : Int) (i : Int) : rsteady_L1_T s l k i = ex Try.prog (conOf [rvalid_e]) (subC (bodyOf Try.f29) [1, 1, 0, 1, 0, 0]) (nextE (rsteady_L1_N s l k i) (kont Try.prog (conOf [rvalid_e]) (bodyOf Try.f29) [1, 1, 0, 1, 0] (retPost Try.prog Try.f29 1 (rsteady_res s l k)))) (rsteady_L1_F s l k i) := by kernel_rfl
set_option maxRecDepth 100000 in
theorem rsteady_L1_round (s : Int) (l : List (List Int)) (k : Int) (i : Int)  (hI_L1 : rsteady_L1_I s l k i) : rsteady_L1_T s l k i := by
  obtain ⟨⟨a1, a2⟩, ⟨a3, a4, a5⟩, a6, a7⟩ := hI_L1
  obtain ⟨_, v1, v2⟩ := mV_iff.1 a3
  have hok : stdOk s l k = stdB k l := by unfold stdOk; rw [a3, decide_eq_true a4, decide_eq_true a5]; rfl
  unfold rsteady_L1_T
  simp only [r1e]
  rw [hok]
  by_cases hi : i < l.length
  · have hF : (¬ r1 (l.getD i.toNat []) = 0) → stdB k l = stdB k (l.drop i.toNat) → rsteady_L1_I s l k (i + 1) := fun h1 h2 => ⟨⟨by omega, by omega⟩, ⟨a3, a4, a5⟩, .inr (by rw [show i + 1 - 1 = i by omega]; exact h1), by rw [show i + 1 - 1 = i by omega]; exact h2⟩
    have hμ : rsteady_L1_m s l k (i + 1) < rsteady_L1_m s l k i := by unfold rsteady_L1_m; omega
    have hd := drop_consR (l := l) (i := i) a1 hi
    have hb := vL_bd l 0 i.toNat v2 (by omega)
    rw [decide_eq_true hi, decide_eq_true a1, w64 (n := i + 1) (by omega) (by omega), w64 (n := i - 1) (by omega) (by omega), w64 (n := k + 1) (by omega) (by omega)]
    by_cases h0 : i = 0
    · subst h0
      have e0 : ((0 : Int) - 1).toNat = (0 : Int).toNat := rfl
      rw [e0] at a7
      by_cases hz : r1 (l.getD (0 : Int).toNat []) = 0
      · rw [decide_eq_true hz, a7, hd, stdB_head hz]
        simp [cnd]
      · rw [decide_eq_false hz]
        simp [cnd, hF hz a7, hμ]
        try exact ⟨hF hz a7, hμ⟩
    · have hd2 := drop_consR (l := l) (i := i - 1) (by omega) (by omega)
      rw [show (i - 1).toNat + 1 = i.toNat by omega] at hd2
      have hb2 := vL_bd l 0 (i - 1).toNat v2 (by omega)
      have ha : ¬ r1 (l.getD (i - 1).toNat []) = 0 := by rcases a6 with h | h; exact absurd h h0; exact h
      rw [hd2, hd] at a7
      have hpos : 0 < i := by omega
      have hstep : stdB k l = (!decide ((k + 1) * min (r1 (l.getD (i - 1).toNat [])) (r1 (l.getD i.toNat [])) < k * max (r1 (l.getD (i - 1).toNat [])) (r1 (l.getD i.toNat []))) && stdB k (l.drop i.toNat)) := by
        rw [a7, stdB, decide_eq_false ha, ← hd]; rfl
      rw [decide_eq_true (show 0 ≤ i - 1 by omega), decide_eq_true (show i - 1 < (l.length : Int) by omega)]
      by_cases hz : r1 (l.getD i.toNat []) = 0
      · rw [decide_eq_true hz, hstep, hd, stdB_head hz, Bool.and_false]
        simp [cnd]
      · rw [decide_eq_false hz]
        generalize r1 (l.getD i.toNat []) = y at *
        generalize r1 (l.getD (i - 1).toNat []) = x at *
        have eM : gmax x y = max x y := by unfold gmax; omega
        have em : gmin x y = min x y := by unfold gmin; omega
        have b1 : 0 ≤ k * max x y ∧ k * max x y ≤ 1000 * 524288 := ⟨Int.mul_nonneg (by omega) (by omega), Int.mul_le_mul (by omega) (by omega) (by omega) (by omega)⟩
        have b2 : 0 ≤ (k + 1) * min x y ∧ (k + 1) * min x y ≤ 1001 * 524288 := ⟨Int.mul_nonneg (by omega) (by omega), Int.mul_le_mul (by omega) (by omega) (by omega) (by omega)⟩
        rw [eM, em, w64 (n := k * max x y) (by omega) (by omega), w64 (n := (k + 1) * min x y) (by omega) (by omega)]
        cases hc : decide ((k + 1) * min x y < k * max x y) with
        | true =>
          rw [hc] at hstep
          rw [hstep]
          simp [cnd, h0, hpos]
          try omega
        | false =>
          rw [hc] at hstep
          have hFF := hF hz hstep
          simp [cnd, h0, hpos, hFF, hμ]
          try exact ⟨hFF, hμ⟩
  · rw [decide_eq_false hi]
    have : stdB k l = true := by
      rw [a7]
      by_cases h0 : i = 0
      · have : l = [] := List.eq_nil_of_length_eq_zero (by omega)
        rw [this]; simp [stdB]
      · have ha : ¬ r1 (l.getD (i - 1).toNat []) = 0 := by rcases a6 with h | h; exact absurd h h0; exact h
        rw [drop_consR (l := l) (i := i - 1) (by omega) (by omega), List.drop_eq_nil_of_le (show l.length ≤ (i - 1).toNat + 1 by omega), stdB, decide_eq_false ha]; rfl
    rw [this]
    simp only [cnd]
set_option maxRecDepth 100000 in
theorem rsteady_L1_entry1 (s : Int) (l : List (List Int)) (k : Int) : (((rsteady_L1_I s l k (0 : Int)) ∧ (((0 : Int) = (0 : Int)) ∧ ((Bool.false = Bool.false) ∧ (True ∧ ((k = k) ∧ (((s = s) ∧ True) ∧ ((l = l) ∧ True)))))))) = rsteady_L1_E s l k (rsteady_L1_S1 s l k) := by kernel_rfl
theorem rsteady_L1_1 (s : Int) (l : List (List Int)) (k : Int)  (h : ((rsteady_L1_I s l k (0 : Int)) ∧ (((0 : Int) = (0 : Int)) ∧ ((Bool.false = Bool.false) ∧ (True ∧ ((k = k) ∧ (((s = s) ∧ True) ∧ ((l = l) ∧ True)))))))) : LoopP (ex Try.prog (conOf [rvalid_e]) (subC (bodyOf Try.f29) [1, 1, 0, 1, 0, 0])) (kont Try.prog (conOf [rvalid_e]) (bodyOf Try.f29) [1, 1, 0, 1, 0] (retPost Try.prog Try.f29 1 (rsteady_res s l k))) (rsteady_L1_S1 s l k) := by
  have hE : rsteady_L1_E s l k (rsteady_L1_S1 s l k) := Eq.mp (rsteady_L1_entry1 s l k) h
  unfold rsteady_L1_E at hE
  obtain ⟨i, hE⟩ := getI_of hE
  refine loop_of (α := (Int)) (fun xx_ => rsteady_L1_F s l k xx_) (fun xx_ => rsteady_L1_I s l k xx_) (fun xx_ => rsteady_L1_m s l k xx_) (fun xx_ => rsteady_L1_N s l k xx_) (fun xx_ => rsteady_L1_T s l k xx_) (fun xx_ s_ h => ?_) ⟨i, hE⟩ (fun xx_ => rsteady_L1_tree s l k xx_) (fun xx_ hI => rsteady_L1_round s l k xx_  hI)
  unfold rsteady_L1_N at h
  obtain ⟨i, h⟩ := getI_of h
  exact ⟨i, h⟩
set_option maxRecDepth 100000 in
theorem rsteady_tree (s : Int) (l : List (List Int)) (k : Int) : ((cnd (((!(mValid s l)) || (decide (k < (1 : Int)))) || (decide ((1000 : Int) < k)))
  (Bool.false = (stdOk s l k))
  (LoopP (ex Try.prog (conOf [rvalid_e]) (subC (bodyOf Try.f29) [1, 1, 0, 1, 0, 0])) (kont Try.prog (conOf [rvalid_e]) (bodyOf Try.f29) [1, 1, 0, 1, 0] (retPost Try.prog Try.f29 1 (rsteady_res s l k))) (rsteady_L1_S1 s l k)))) = EXD Try.prog (conOf [rvalid_e]) Try.f29 [.agg [.int .i64 s, .row 0], .cel (.int .i64 k)] [.recs [.int .i64, .int .i64] l] [] (rsteady_res s l k) := by kernel_rfl
theorem rsteady_holds (s : Int) (l : List (List Int)) (k : Int)  : (cnd (((!(mValid s l)) || (decide (k < (1 : Int)))) || (decide ((1000 : Int) < k)))
  (Bool.false = (stdOk s l k))
  (LoopP (ex Try.prog (conOf [rvalid_e]) (subC (bodyOf Try.f29) [1, 1, 0, 1, 0, 0])) (kont Try.prog (conOf [rvalid_e]) (bodyOf Try.f29) [1, 1, 0, 1, 0] (retPost Try.prog Try.f29 1 (rsteady_res s l k))) (rsteady_L1_S1 s l k))) := by
  refine cnd_i (fun h => ?_) (fun h => ?_)
  · show false = stdOk s l k
    unfold stdOk
    cases hm : mValid s l with
    | false => rfl
    | true =>
      rw [hm] at h
      simp only [Bool.not_true, Bool.false_or, Bool.or_eq_true, decide_eq_true_eq] at h
      rcases h with h | h
      · rw [decide_eq_false (show ¬ 1 ≤ k by omega)]; rfl
      · rw [decide_eq_false (show ¬ k ≤ 1000 by omega)]; simp
  · simp only [Bool.or_eq_false_iff, Bool.not_eq_false', decide_eq_false_iff_not] at h
    exact rsteady_L1_1 s l k ⟨⟨⟨by omega, by omega⟩, ⟨h.1.1, by omega, by omega⟩, .inl rfl, by simp⟩, by simp⟩
set_option maxHeartbeats 2000000 in
theorem rsteady_ok : SoundEnt Try.prog rsteady_e := by
  refine ent_of_ex (Γ := (conOf [rvalid_e])) (conOf_sound (scons rvalid_ok snil)) (by kernel_rfl) Try.func29 (by kernel_rfl) (by kernel_rfl) (fun args rows caps res h ho => ?_)
  change rsteady_go args rows caps = some res at h
  unfold rsteady_go at h
  split at h
  · simp only [Option.some.injEq] at h
    subst h
    rename_i q0_ q2_ q1_
    skip
    exact EX.of (rsteady_tree q0_ q1_ q2_) (rsteady_holds q0_ q1_ q2_)
  · cases h
end Go.Proofs.Ytajaaohjdeegeaa

