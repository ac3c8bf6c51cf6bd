/- slices.Index and slices.Contains of a list of numbers. -/
import Derived.Test.YthfliohfkhnpiaaAd
namespace Go.Proofs.Ythfliohfkhnpiaa
set_option linter.unusedVariables false
set_option linter.unusedSimpArgs false
open Go.RowKit

def ixOf (v : Int) : List Int → Int
  | [] => -1
  | x :: l => if x = v then 0 else (if ixOf v l = -1 then -1 else ixOf v l + 1)
theorem ixOf_bd (v : Int) : ∀ l : List Int, -1 ≤ ixOf v l ∧ ixOf v l < l.length ∧ (0 ≤ ixOf v l → l.getD (ixOf v l).toNat 0 = v)
  | [] => by simp [ixOf]
  | x :: l => by
    obtain ⟨h1, h2, h3⟩ := ixOf_bd v l
    simp only [ixOf, List.length_cons]
    by_cases hx : x = v
    · rw [if_pos hx]; refine ⟨by omega, by omega, fun _ => ?_⟩; simpa using hx
    · rw [if_neg hx]
      by_cases hi : ixOf v l = -1
      · rw [if_pos hi]; exact ⟨by omega, by omega, fun h => by omega⟩
      · rw [if_neg hi]
        refine ⟨by omega, by omega, fun _ => ?_⟩
        have e : (ixOf v l + 1).toNat = (ixOf v l).toNat + 1 := by omega
        rw [e, List.getD_cons_succ]
        exact h3 (by omega)
theorem drop_consI {l : List Int} {i : Int} (h0 : 0 ≤ i) (h1 : i < l.length) : l.drop i.toNat = l.getD i.toNat 0 :: l.drop (i.toNat + 1) := by
  have h : i.toNat < l.length := by omega
  rw [List.drop_eq_getElem_cons h, List.getD_eq_getElem?_getD, List.getElem?_eq_getElem h]
  rfl
def hasV (v : Int) (l : List Int) : Bool := decide (0 ≤ ixOf v l)
def sindex_res (l : List Int) (v : Int) : CRes := ⟨[decide ((l.length : Int) ≤ 1000000)], .one (.cel (.int .i64 (ixOf v l))), []⟩
def sindex_go : List TV → List RowA → List (List CV) → Option CRes := fun args rows caps =>
  match args, rows, caps with
  | [.cel (.row 0), .cel (.int .i64 v)], [.ints .i64 l], [] => some (sindex_res l v)
  | _, _, _ => none
def sindex_e : Ent := ⟨91, [.ints .i64 []], sindex_go⟩
def sindex_L1_F (l : List Int) (v : Int) (i : Int) : St := ⟨19, [], [(8, (.one (.cel (.int .i64 i)))), (7, (.one (.cel (.int .i64 (((List.length l) : Nat) : Int))))), (4, (.one (.cel (.int .i64 (0 : Int))))), (0, (.one (.cel (.row 0)))), (1, (.one (.cel (.int .i64 v))))], [], [⟨(.ints .i64 l), none⟩], 0⟩
def sindex_L1_I (l : List Int) (v : Int) (i : Int) : Prop := (0 ≤ i ∧ i ≤ l.length ∧ (l.length : Int) ≤ 1000000 ∧ (ixOf v (l.drop i.toNat) = -1 → ixOf v l = -1) ∧ (0 ≤ ixOf v (l.drop i.toNat) → ixOf v l = ixOf v (l.drop i.toNat) + i))
def sindex_L1_m (l : List Int) (v : Int) (i : Int) : Nat := (l.length - i).toNat
def sindex_L1_N (l : List Int) (v : Int) (i' : Int) (st_ : St) : Prop := getI st_ 8 fun i => sindex_L1_I l v i ∧ sindex_L1_m l v i < sindex_L1_m l v i' ∧ SubA st_ (sindex_L1_F l v i)
def sindex_L1_E (l : List Int) (v : Int) (st_ : St) : Prop := getI st_ 8 fun i => sindex_L1_I l v i ∧ SubA st_ (sindex_L1_F l v i)
def sindex_L1_S1 (l : List Int) (v : Int) : St := ⟨19, [], [(8, (.one (.cel (.int .i64 (0 : Int))))), (7, (.one (.cel (.int .i64 (((List.length l) : Nat) : Int))))), (6, (.one (.cel (.row 0)))), (4, (.one (.cel (.int .i64 (0 : Int))))), (0, (.one (.cel (.row 0)))), (1, (.one (.cel (.int .i64 v))))], [], [⟨(.ints .i64 l), none⟩], 0⟩
def sindex_L1_T (l : List Int) (v : Int) (i : Int) : Prop := (cnd (decide (i < (((List.length l) : Nat) : Int)))
  (cnd (decide ((0 : Int) ≤ i))
    (cnd (decide (i < (((List.length l) : Nat) : Int)))
      (cnd (decide (v = (List.getD l (Int.toNat i) (0 : Int))))
        (i = (ixOf v l))
        ((sindex_L1_I l v (Go.IntKind.wrap Go.IntKind.i64 (i + (1 : Int)))) ∧ (((sindex_L1_m l v (Go.IntKind.wrap Go.IntKind.i64 (i + (1 : Int)))) < (sindex_L1_m l v i)) ∧ (((Go.IntKind.wrap Go.IntKind.i64 (i + (1 : Int))) = (Go.IntKind.wrap Go.IntKind.i64 (i + (1 : Int)))) ∧ (((((List.length l) : Nat) : Int) = (((List.length l) : Nat) : Int)) ∧ (((0 : Int) = (0 : Int)) ∧ (True ∧ ((v = v) ∧ ((l = l) ∧ True)))))))))
      False)
    False)
  ((-(1 : Int)) = (ixOf v l)))
set_option maxRecDepth 100000 in
theorem sindex_L1_tree (l : List Int) (v : Int) (i : Int) : sindex_L1_T l v i = ex Try.prog (conOf []) (subC (bodyOf Try.f91) [1, 0, 1, 0, 0]) (nextE (sindex_L1_N l v i) (kont Try.prog (conOf []) (bodyOf Try.f91) [1, 0, 1, 0] (retPost Try.prog Try.f91 1 (sindex_res l v)))) (sindex_L1_F l v i) := by kernel_rfl
set_option maxRecDepth 100000 in
theorem sindex_L1_round (l : List Int) (v : Int) (i : Int) (p0 : (decide ((l.length : Int) ≤ 1000000)) = true) (hI_L1 : sindex_L1_I l v i) : sindex_L1_T l v i := by
  obtain ⟨i0, i1, i2, hx, hx2⟩ := hI_L1
  unfold sindex_L1_T
  by_cases hi : i < l.length
  · have hd := drop_consI (l := l) (i := i) i0 hi
    obtain ⟨hb1, hb2, _⟩ := ixOf_bd v (l.drop (i.toNat + 1))
    have hc : ixOf v (l.drop i.toNat) = if l.getD i.toNat 0 = v then 0 else (if ixOf v (l.drop (i.toNat + 1)) = -1 then -1 else ixOf v (l.drop (i.toNat + 1)) + 1) := by rw [hd]; rfl
    rw [hc] at hx hx2
    simp only [hi, i0, decide_true, cnd]
    rw [w64 (n := i + 1) (by omega) (by omega)]
    have e1 : (i + 1).toNat = i.toNat + 1 := by omega
    generalize l.getD i.toNat 0 = y at *
    generalize hm : ixOf v (l.drop (i.toNat + 1)) = m at *
    by_cases hy : y = v
    · rw [if_pos hy] at hx2
      have j1 : decide (v = y) = true := by simp [hy]
      have j2 : decide (y = v) = true := by simp [hy]
      first | rw [j1] | rw [j2]
      have := hx2 (by omega)
      show i = ixOf v l
      omega
    · rw [if_neg hy] at hx hx2
      have j1 : decide (v = y) = false := by simp; exact fun e => hy e.symm
      have j2 : decide (y = v) = false := by simpa using hy
      first | rw [j1] | rw [j2]
      refine ⟨⟨by omega, by omega, i2, ?_, ?_⟩, by unfold sindex_L1_m; omega, by simp⟩
      · rw [e1, hm]; intro h; rw [if_pos h] at hx; exact hx rfl
      · rw [e1, hm]; intro h; rw [if_neg (by omega)] at hx2; have := hx2 (by omega); omega
  · simp only [hi, decide_false, cnd]
    have e : l.drop i.toNat = [] := List.drop_eq_nil_of_le (by omega)
    rw [e] at hx
    exact (hx rfl).symm
set_option maxRecDepth 100000 in
theorem sindex_L1_entry1 (l : List Int) (v : Int) : (((sindex_L1_I l v (0 : Int)) ∧ (((0 : Int) = (0 : Int)) ∧ (((((List.length l) : Nat) : Int) = (((List.length l) : Nat) : Int)) ∧ (((0 : Int) = (0 : Int)) ∧ (True ∧ ((v = v) ∧ ((l = l) ∧ True)))))))) = sindex_L1_E l v (sindex_L1_S1 l v) := by kernel_rfl
theorem sindex_L1_1 (l : List Int) (v : Int) (p0 : (decide ((l.length : Int) ≤ 1000000)) = true) (h : ((sindex_L1_I l v (0 : Int)) ∧ (((0 : Int) = (0 : Int)) ∧ (((((List.length l) : Nat) : Int) = (((List.length l) : Nat) : Int)) ∧ (((0 : Int) = (0 : Int)) ∧ (True ∧ ((v = v) ∧ ((l = l) ∧ True)))))))) : LoopP (ex Try.prog (conOf []) (subC (bodyOf Try.f91) [1, 0, 1, 0, 0])) (kont Try.prog (conOf []) (bodyOf Try.f91) [1, 0, 1, 0] (retPost Try.prog Try.f91 1 (sindex_res l v))) (sindex_L1_S1 l v) := by
  have hE : sindex_L1_E l v (sindex_L1_S1 l v) := Eq.mp (sindex_L1_entry1 l v) h
  unfold sindex_L1_E at hE
  obtain ⟨i, hE⟩ := getI_of hE
  refine loop_of (α := (Int)) (fun xx_ => sindex_L1_F l v xx_) (fun xx_ => sindex_L1_I l v xx_) (fun xx_ => sindex_L1_m l v xx_) (fun xx_ => sindex_L1_N l v xx_) (fun xx_ => sindex_L1_T l v xx_) (fun xx_ s_ h => ?_) ⟨i, hE⟩ (fun xx_ => sindex_L1_tree l v xx_) (fun xx_ hI => sindex_L1_round l v xx_ p0 hI)
  unfold sindex_L1_N at h
  obtain ⟨i, h⟩ := getI_of h
  exact ⟨i, h⟩
set_option maxRecDepth 100000 in
theorem sindex_tree (l : List Int) (v : Int) : ((LoopP (ex Try.prog (conOf []) (subC (bodyOf Try.f91) [1, 0, 1, 0, 0])) (kont Try.prog (conOf []) (bodyOf Try.f91) [1, 0, 1, 0] (retPost Try.prog Try.f91 1 (sindex_res l v))) (sindex_L1_S1 l v))) = EXD Try.prog (conOf []) Try.f91 [.cel (.row 0), .cel (.int .i64 v)] [.ints .i64 l] [] (sindex_res l v) := by kernel_rfl
theorem sindex_holds (l : List Int) (v : Int) (p0 : (decide ((l.length : Int) ≤ 1000000)) = true) : (LoopP (ex Try.prog (conOf []) (subC (bodyOf Try.f91) [1, 0, 1, 0, 0])) (kont Try.prog (conOf []) (bodyOf Try.f91) [1, 0, 1, 0] (retPost Try.prog Try.f91 1 (sindex_res l v))) (sindex_L1_S1 l v)) := by
  have q0 := p0
  simp only [decide_eq_true_eq] at p0
  exact sindex_L1_1 l v q0 ⟨⟨by omega, by omega, p0, by simp, by simp⟩, by simp⟩
set_option maxHeartbeats 2000000 in
theorem sindex_ok : SoundEnt Try.prog sindex_e := by
  refine ent_of_ex (Γ := (conOf [])) (conOf_sound snil) (by kernel_rfl) Try.func91 (by kernel_rfl) (by kernel_rfl) (fun args rows caps res h ho => ?_)
  change sindex_go args rows caps = some res at h
  unfold sindex_go at h
  split at h
  · simp only [Option.some.injEq] at h
    subst h
    rename_i q1_ q0_
    obtain ⟨p0, _⟩ := ho
    exact EX.of (sindex_tree q0_ q1_) (sindex_holds q0_ q1_ p0)
  · cases h
def scontains_res (l : List Int) (v : Int) : CRes := ⟨[decide ((l.length : Int) ≤ 1000000)], .one (.cel (.bool (hasV v l))), []⟩
def scontains_go : List TV → List RowA → List (List CV) → Option CRes := fun args rows caps =>
  match args, rows, caps with
  | [.cel (.row 0), .cel (.int .i64 v)], [.ints .i64 l], [] => some (scontains_res l v)
  | _, _, _ => none
def scontains_e : Ent := ⟨38, [.ints .i64 []], scontains_go⟩
set_option maxRecDepth 100000 in
theorem scontains_tree (l : List Int) (v : Int) : ((cnd (decide ((((List.length l) : Nat) : Int) ≤ (1000000 : Int)))
  ((decide ((0 : Int) ≤ (ixOf v l))) = (hasV v l))
  False)) = EXD Try.prog (conOf [sindex_e]) Try.f38 [.cel (.row 0), .cel (.int .i64 v)] [.ints .i64 l] [] (scontains_res l v) := by kernel_rfl
theorem scontains_holds (l : List Int) (v : Int) (p0 : (decide ((l.length : Int) ≤ 1000000)) = true) : (cnd (decide ((((List.length l) : Nat) : Int) ≤ (1000000 : Int)))
  ((decide ((0 : Int) ≤ (ixOf v l))) = (hasV v l))
  False) := by
  simp [p0, cnd, hasV]
set_option maxHeartbeats 2000000 in
theorem scontains_ok : SoundEnt Try.prog scontains_e := by
  refine ent_of_ex (Γ := (conOf [sindex_e])) (conOf_sound (scons sindex_ok snil)) (by kernel_rfl) Try.func38 (by kernel_rfl) (by kernel_rfl) (fun args rows caps res h ho => ?_)
  change scontains_go args rows caps = some res at h
  unfold scontains_go at h
  split at h
  · simp only [Option.some.injEq] at h
    subst h
    rename_i q1_ q0_
    obtain ⟨p0, _⟩ := ho
    exact EX.of (scontains_tree q0_ q1_) (scontains_holds q0_ q1_ p0)
  · cases h
theorem hasV_of {v : Int} : ∀ {l : List Int}, v ∈ l → hasV v l = true
  | x :: l, h => by
    unfold hasV ixOf
    by_cases hx : x = v
    · rw [if_pos hx]; rfl
    · rw [if_neg hx]
      have hm : v ∈ l := by
        rcases List.mem_cons.1 h with h | h
        · exact absurd h.symm hx
        · exact h
      have := hasV_of hm
      unfold hasV at this
      simp only [decide_eq_true_eq] at this
      rw [if_neg (by omega)]
      simp only [decide_eq_true_eq]
      omega
theorem mem_of_hasV {v : Int} {l : List Int} (h : hasV v l = true) : v ∈ l := by
  unfold hasV at h
  simp only [decide_eq_true_eq] at h
  obtain ⟨h1, h2, h3⟩ := ixOf_bd v l
  have := h3 h
  rw [← this, List.getD_eq_getElem?_getD, List.getElem?_eq_getElem (by omega)]
  exact List.getElem_mem (by omega)
end Go.Proofs.Ythfliohfkhnpiaa

