/- Cams: their edges between two positions. -/
import Derived.Test.YthfliohfkhnpiaaJc
namespace Go.Proofs.Ythfliohfkhnpiaa
set_option linter.unusedVariables false
set_option linter.unusedSimpArgs false
open Go.RowKit

theorem camE_iff {x : Int} : camE x = true ↔ 0 ≤ x ∧ x < 46080 ∧ 1920 ≤ x % 23040 ∧ x % 23040 ≤ 21120 := by simp [camE, and_assoc]
theorem camG_spec : ∀ {c : List Int}, camG c = true → (∀ x ∈ c, camE x = true) ∧ c.Pairwise (fun x y => x + 1920 ≤ y)
  | [], _ => by simp
  | [a], h => by simpa [camG] using h
  | a :: b :: l, h => by
    simp only [camG, Bool.and_eq_true, decide_eq_true_eq] at h
    obtain ⟨⟨h1, h2⟩, h3⟩ := h
    obtain ⟨i1, i2⟩ := camG_spec h3
    refine ⟨fun x hx => ?_, List.pairwise_cons.2 ⟨fun y hy => ?_, i2⟩⟩
    · rcases List.mem_cons.1 hx with rfl | hx
      · exact h1
      · exact i1 x hx
    · rcases List.mem_cons.1 hy with rfl | hy
      · exact h2
      · have := (List.pairwise_cons.1 i2).1 y hy
        omega
theorem cv_iff {c : List Int} (h : cValid c = true) : 1 ≤ c.length ∧ c.length ≤ 8 ∧ camG c = true := by
  simp only [cValid, Bool.and_eq_true, decide_eq_true_eq] at h
  exact ⟨h.1.1.1, h.1.1.2, h.1.2⟩
theorem pw_two {d : Int} : ∀ {c : List Int} {x y : Int}, c.Pairwise (fun x y => x + d ≤ y) → x ∈ c → y ∈ c → x = y ∨ x + d ≤ y ∨ y + d ≤ x
  | [], _, _, _, h, _ => by simp at h
  | a :: l, x, y, hp, hx, hy => by
    obtain ⟨h1, h2⟩ := List.pairwise_cons.1 hp
    rcases List.mem_cons.1 hx with e | hx'
    · rcases List.mem_cons.1 hy with e' | hy'
      · exact .inl (e.trans e'.symm)
      · exact .inr (.inl (by rw [e]; exact h1 y hy'))
    · rcases List.mem_cons.1 hy with e' | hy'
      · exact .inr (.inr (by rw [e']; exact h1 x hx'))
      · exact pw_two h2 hx' hy'
def cxF (c : List Int) (b p : Int) : Option Int := c.find? (fun x => decide (p < b + x))
def cxA (c : List Int) (p : Int) : Int := match cxF c (p - p % 46080) p with
  | some x => p - p % 46080 + x
  | none => p - p % 46080 + 46080 + c.getD 0 0
def isC (c : List Int) (p : Int) : Prop := 0 ≤ p ∧ p % 46080 ∈ c
theorem cx_head {c : List Int} (h : cValid c = true) : c.getD 0 0 ∈ c ∧ 1920 ≤ c.getD 0 0 ∧ c.getD 0 0 < 46080 := by
  obtain ⟨h1, h2, h3⟩ := cv_iff h
  obtain ⟨g1, g2⟩ := camG_spec h3
  match c, h1 with
  | a :: l, _ =>
    have := camE_iff.1 (g1 a (by simp))
    simp only [List.getD_cons_zero, List.mem_cons, true_or, true_and]
    omega
theorem cx_bd {c : List Int} {p : Int} (h : cValid c = true) (hp : 0 ≤ p) : p + 1 ≤ cxA c p ∧ cxA c p ≤ p + 92160 ∧ isC c (cxA c p) ∧ (isC c p → p + 1920 ≤ cxA c p) := by
  obtain ⟨h1, h2, h3⟩ := cv_iff h
  obtain ⟨g1, g2⟩ := camG_spec h3
  obtain ⟨m1, m2, m3⟩ := cx_head h
  unfold cxA
  split
  · rename_i x hx
    have hx1 := List.find?_some hx
    have hx2 := List.mem_of_find?_eq_some hx
    simp only [decide_eq_true_eq] at hx1
    have hb := camE_iff.1 (g1 x hx2)
    have he : (p - p % 46080 + x) % 46080 = x := by omega
    refine ⟨by omega, by omega, ⟨by omega, by rw [he]; exact hx2⟩, fun hc => ?_⟩
    rcases pw_two g2 hc.2 hx2 with q | q | q <;> omega
  · have he : (p - p % 46080 + 46080 + c.getD 0 0) % 46080 = c.getD 0 0 := by omega
    refine ⟨by omega, by omega, ⟨by omega, by rw [he]; exact m1⟩, fun hc => ?_⟩
    have := camE_iff.1 (g1 _ hc.2)
    omega
/-- The edges behind p, up to b. -/
def cedg (c : List Int) : Nat → Int → Int → List Int
  | 0, _, _ => []
  | n + 1, p, b => if p ≤ b then p :: cedg c n (cxA c p) b else []
def cL (c : List Int) (a b : Int) : List Int := cedg c 1000 (cxA c a) b
theorem cedg_mem {c : List Int} (hw : cValid c = true) : ∀ (n : Nat) (p b : Int), isC c p → ∀ x ∈ cedg c n p b, p ≤ x ∧ x ≤ b ∧ isC c x
  | 0, _, _, _, x, hx => by simp [cedg] at hx
  | n + 1, p, b, hp, x, hx => by
    rw [cedg] at hx
    split at hx
    · rename_i h
      rcases List.mem_cons.1 hx with rfl | hx
      · exact ⟨by omega, h, hp⟩
      · obtain ⟨n1, n2, n3, _⟩ := cx_bd hw hp.1
        obtain ⟨h1, h2, h3⟩ := cedg_mem hw n _ b n3 x hx
        exact ⟨by omega, h2, h3⟩
    · simp at hx
theorem cedg_len {c : List Int} (hw : cValid c = true) : ∀ (n : Nat) (p b : Int), isC c p → p ≤ b + 1920 → 1920 * ((cedg c n p b).length : Int) ≤ b + 1920 - p
  | 0, p, b, _, h => by simp [cedg]; omega
  | n + 1, p, b, hp, h => by
    rw [cedg]
    split
    · obtain ⟨n1, n2, n3, n4⟩ := cx_bd hw hp.1
      have h4 := n4 hp
      by_cases h5 : cxA c p ≤ b + 1920
      · have := cedg_len hw n _ b n3 h5
        simp only [List.length_cons]
        push_cast
        omega
      · have : cedg c n (cxA c p) b = [] := by
          cases n with
          | zero => rfl
          | succ n => rw [cedg, if_neg (by omega)]
        rw [this]
        simp
        omega
    · simp; omega
theorem cL_spec {c : List Int} {a b : Int} (hw : cValid c = true) (ha : 0 ≤ a) : (∀ x ∈ cL c a b, a + 1 ≤ x ∧ x ≤ b ∧ isC c x) ∧ (a ≤ b → 1920 * ((cL c a b).length : Int) ≤ b + 1920 - a) := by
  obtain ⟨n1, n2, n3, n4⟩ := cx_bd hw ha
  refine ⟨fun x hx => ?_, fun hab => ?_⟩
  · obtain ⟨h1, h2, h3⟩ := cedg_mem hw 1000 _ b n3 x hx
    exact ⟨by omega, h2, h3⟩
  · unfold cL
    by_cases h : cxA c a ≤ b + 1920
    · have := cedg_len hw 1000 _ b n3 h
      omega
    · have : cedg c 1000 (cxA c a) b = [] := by rw [cedg, if_neg (by omega)]
      rw [this]; simp; omega
theorem cxF_cons {x : Int} {c : List Int} {b p : Int} : cxF (x :: c) b p = if p < b + x then some x else cxF c b p := by
  unfold cxF
  rw [List.find?_cons]
  by_cases h : p < b + x <;> simp [h]
theorem cx_get {c : List Int} {i : Int} (h : cValid c = true) (h0 : 0 ≤ i) (h1 : i < c.length) : 0 ≤ c.getD i.toNat 0 ∧ c.getD i.toNat 0 < 46080 := by
  obtain ⟨g1, g2⟩ := camG_spec (cv_iff h).2.2
  have hx : c.getD i.toNat 0 ∈ c := by
    rw [List.getD_eq_getElem?_getD, List.getElem?_eq_getElem (by omega)]
    exact List.getElem_mem (by omega)
  have := camE_iff.1 (g1 _ hx)
  omega
def camb1_res (p : Int) (c : List Int) : CRes := ⟨[cValid c, isT p], .one (.cel (.int .i64 (cxA c p))), []⟩
def camb1_go : List TV → List RowA → List (List CV) → Option CRes := fun args rows caps =>
  match args, rows, caps with
  | [.cel (.int .i64 p), .cel (.ptr 0 0)], [.ints .i64 c], [[.row 0]] => some (camb1_res p c)
  | _, _, _ => none
def camb1_e : Ent := ⟨113, [.ints .i64 []], camb1_go⟩
def camb1_L1_F (p : Int) (c : List Int) (i : Int) : St := ⟨34, [], [(14, (.one (.cel (.int .i64 i)))), (13, (.one (.cel (.int .i64 (((List.length c) : Nat) : Int))))), (12, (.one (.cel (.row 0)))), (4, (.one (.cel (.int .i64 (Go.IntKind.wrap Go.IntKind.i64 (p - (p % (46080 : Int)))))))), (3, (.one (.cel (.int .i64 (0 : Int))))), (0, (.one (.cel (.int .i64 p)))), (1, (.one (.cel (.ptr 0 0))))], [[(.row 0)]], [⟨(.ints .i64 c), none⟩], 1⟩
def camb1_L1_I (p : Int) (c : List Int) (i : Int) : Prop := (0 ≤ i ∧ i ≤ c.length) ∧ (cxF c (p - p % 46080) p = cxF (c.drop i.toNat) (p - p % 46080) p)
def camb1_L1_m (p : Int) (c : List Int) (i : Int) : Nat := (c.length - i).toNat
def camb1_L1_N (p : Int) (c : List Int) (i' : Int) (st_ : St) : Prop := getI st_ 14 fun i => camb1_L1_I p c i ∧ camb1_L1_m p c i < camb1_L1_m p c i' ∧ SubA st_ (camb1_L1_F p c i)
def camb1_L1_E (p : Int) (c : List Int) (st_ : St) : Prop := getI st_ 14 fun i => camb1_L1_I p c i ∧ SubA st_ (camb1_L1_F p c i)
def camb1_L1_S1 (p : Int) (c : List Int) : St := ⟨34, [], [(14, (.one (.cel (.int .i64 (0 : Int))))), (13, (.one (.cel (.int .i64 (((List.length c) : Nat) : Int))))), (12, (.one (.cel (.row 0)))), (11, (.one (.cel (.ptr 0 0)))), (4, (.one (.cel (.int .i64 (Go.IntKind.wrap Go.IntKind.i64 (p - (p % (46080 : Int)))))))), (10, (.one (.cel (.int .i64 (Go.IntKind.wrap Go.IntKind.i64 (p - (p % (46080 : Int)))))))), (9, (.one (.cel (.int .i64 (p % (46080 : Int)))))), (8, (.one (.cel (.int .i64 p)))), (7, (.one (.cel (.int .i64 p)))), (3, (.one (.cel (.int .i64 (0 : Int))))), (0, (.one (.cel (.int .i64 p)))), (1, (.one (.cel (.ptr 0 0))))], [[(.row 0)]], [⟨(.ints .i64 c), none⟩], 1⟩
def camb1_L1_T (p : Int) (c : List Int) (i : Int) : Prop := (cnd (decide (i < (((List.length c) : Nat) : Int)))
  (cnd (decide ((0 : Int) ≤ i))
    (cnd (decide (i < (((List.length c) : Nat) : Int)))
      (cnd (decide (p < (Go.IntKind.wrap Go.IntKind.i64 ((Go.IntKind.wrap Go.IntKind.i64 (p - (p % (46080 : Int)))) + (List.getD c (Int.toNat i) (0 : Int))))))
        ((Go.IntKind.wrap Go.IntKind.i64 ((Go.IntKind.wrap Go.IntKind.i64 (p - (p % (46080 : Int)))) + (List.getD c (Int.toNat i) (0 : Int)))) = (cxA c p))
        ((camb1_L1_I p c (Go.IntKind.wrap Go.IntKind.i64 (i + (1 : Int)))) ∧ (((camb1_L1_m p c (Go.IntKind.wrap Go.IntKind.i64 (i + (1 : Int)))) < (camb1_L1_m p c i)) ∧ (((Go.IntKind.wrap Go.IntKind.i64 (i + (1 : Int))) = (Go.IntKind.wrap Go.IntKind.i64 (i + (1 : Int)))) ∧ (((((List.length c) : Nat) : Int) = (((List.length c) : Nat) : Int)) ∧ (True ∧ (((Go.IntKind.wrap Go.IntKind.i64 (p - (p % (46080 : Int)))) = (Go.IntKind.wrap Go.IntKind.i64 (p - (p % (46080 : Int))))) ∧ (((0 : Int) = (0 : Int)) ∧ ((p = p) ∧ (True ∧ (True ∧ ((c = c) ∧ True))))))))))))
      False)
    False)
  (cnd (decide ((0 : Int) < (((List.length c) : Nat) : Int)))
    ((Go.IntKind.wrap Go.IntKind.i64 ((Go.IntKind.wrap Go.IntKind.i64 ((Go.IntKind.wrap Go.IntKind.i64 (p - (p % (46080 : Int)))) + (46080 : Int))) + (List.getD c (Int.toNat (0 : Int)) (0 : Int)))) = (cxA c p))
    False))
set_option maxRecDepth 100000 in
theorem camb1_L1_tree (p : Int) (c : List Int) (i : Int) : camb1_L1_T p c i = ex Try.prog (conOf [mod_e]) (subC (bodyOf Try.f113) [1, 1, 0, 1, 0, 0]) (nextE (camb1_L1_N p c i) (kont Try.prog (conOf [mod_e]) (bodyOf Try.f113) [1, 1, 0, 1, 0] (retPost Try.prog Try.f113 1 (camb1_res p c)))) (camb1_L1_F p c i) := by kernel_rfl
set_option maxRecDepth 100000 in
theorem camb1_L1_round (p : Int) (c : List Int) (i : Int) (p0 : (cValid c) = true) (p1 : (isT p) = true) (hI_L1 : camb1_L1_I p c i) : camb1_L1_T p c i := by
  obtain ⟨⟨a1, a2⟩, a3⟩ := hI_L1
  have hp := isT_iff.1 p1
  obtain ⟨v1, v2, _⟩ := cv_iff p0
  have hF : ∀ j : Int, 0 ≤ j ∧ j ≤ (c.length : Int) → cxF c (p - p % 46080) p = cxF (c.drop j.toNat) (p - p % 46080) p → camb1_L1_I p c j := fun j h1 h2 => ⟨h1, h2⟩
  have hμ : i < (c.length : Int) → camb1_L1_m p c (i + 1) < camb1_L1_m p c i := fun h => by unfold camb1_L1_m; omega
  obtain ⟨m1, m2, m3⟩ := cx_head p0
  unfold camb1_L1_T
  rw [w64 (n := p - p % 46080) (by omega) (by omega)]
  by_cases hi : i < (c.length : Int)
  · obtain ⟨g1, g2⟩ := cx_get p0 a1 hi
    rw [drop_consI a1 hi, cxF_cons] at a3
    rw [decide_eq_true hi, decide_eq_true a1, w64 (n := p - p % 46080 + c.getD i.toNat 0) (by omega) (by omega), w64 (n := i + 1) (by omega) (by omega)]
    by_cases hc : p < p - p % 46080 + c.getD i.toNat 0
    · rw [if_pos hc] at a3
      rw [decide_eq_true hc]
      unfold cxA
      rw [a3]
      rfl
    · rw [if_neg hc] at a3
      rw [decide_eq_false hc]
      refine ⟨hF _ ⟨by omega, by omega⟩ ?_, hμ hi, by simp⟩
      rw [a3, show (i + 1).toNat = i.toNat + 1 by omega]
  · rw [List.drop_eq_nil_of_le (by omega)] at a3
    rw [decide_eq_false hi, decide_eq_true (show (0 : Int) < c.length by omega), w64 (n := p - p % 46080 + 46080) (by omega) (by omega), show ((0 : Int)).toNat = 0 from rfl, w64 (n := p - p % 46080 + 46080 + c.getD 0 0) (by omega) (by omega)]
    unfold cxA
    rw [a3]
    rfl
set_option maxRecDepth 100000 in
theorem camb1_L1_entry1 (p : Int) (c : List Int) : (((camb1_L1_I p c (0 : Int)) ∧ (((0 : Int) = (0 : Int)) ∧ (((((List.length c) : Nat) : Int) = (((List.length c) : Nat) : Int)) ∧ (True ∧ (((Go.IntKind.wrap Go.IntKind.i64 (p - (p % (46080 : Int)))) = (Go.IntKind.wrap Go.IntKind.i64 (p - (p % (46080 : Int))))) ∧ (((0 : Int) = (0 : Int)) ∧ ((p = p) ∧ (True ∧ (True ∧ ((c = c) ∧ True))))))))))) = camb1_L1_E p c (camb1_L1_S1 p c) := by kernel_rfl
theorem camb1_L1_1 (p : Int) (c : List Int) (p0 : (cValid c) = true) (p1 : (isT p) = true) (h : ((camb1_L1_I p c (0 : Int)) ∧ (((0 : Int) = (0 : Int)) ∧ (((((List.length c) : Nat) : Int) = (((List.length c) : Nat) : Int)) ∧ (True ∧ (((Go.IntKind.wrap Go.IntKind.i64 (p - (p % (46080 : Int)))) = (Go.IntKind.wrap Go.IntKind.i64 (p - (p % (46080 : Int))))) ∧ (((0 : Int) = (0 : Int)) ∧ ((p = p) ∧ (True ∧ (True ∧ ((c = c) ∧ True))))))))))) : LoopP (ex Try.prog (conOf [mod_e]) (subC (bodyOf Try.f113) [1, 1, 0, 1, 0, 0])) (kont Try.prog (conOf [mod_e]) (bodyOf Try.f113) [1, 1, 0, 1, 0] (retPost Try.prog Try.f113 1 (camb1_res p c))) (camb1_L1_S1 p c) := by
  have hE : camb1_L1_E p c (camb1_L1_S1 p c) := Eq.mp (camb1_L1_entry1 p c) h
  unfold camb1_L1_E at hE
  obtain ⟨i, hE⟩ := getI_of hE
  refine loop_of (α := (Int)) (fun xx_ => camb1_L1_F p c xx_) (fun xx_ => camb1_L1_I p c xx_) (fun xx_ => camb1_L1_m p c xx_) (fun xx_ => camb1_L1_N p c xx_) (fun xx_ => camb1_L1_T p c xx_) (fun xx_ s_ h => ?_) ⟨i, hE⟩ (fun xx_ => camb1_L1_tree p c xx_) (fun xx_ hI => camb1_L1_round p c xx_ p0 p1 hI)
  unfold camb1_L1_N at h
  obtain ⟨i, h⟩ := getI_of h
  exact ⟨i, h⟩
set_option maxRecDepth 100000 in
theorem camb1_tree (p : Int) (c : List Int) : ((cnd (in64 p)
  (LoopP (ex Try.prog (conOf [mod_e]) (subC (bodyOf Try.f113) [1, 1, 0, 1, 0, 0])) (kont Try.prog (conOf [mod_e]) (bodyOf Try.f113) [1, 1, 0, 1, 0] (retPost Try.prog Try.f113 1 (camb1_res p c))) (camb1_L1_S1 p c))
  False)) = EXD Try.prog (conOf [mod_e]) Try.f113 [.cel (.int .i64 p), .cel (.ptr 0 0)] [.ints .i64 c] [[.row 0]] (camb1_res p c) := by kernel_rfl
theorem camb1_holds (p : Int) (c : List Int) (p0 : (cValid c) = true) (p1 : (isT p) = true) : (cnd (in64 p)
  (LoopP (ex Try.prog (conOf [mod_e]) (subC (bodyOf Try.f113) [1, 1, 0, 1, 0, 0])) (kont Try.prog (conOf [mod_e]) (bodyOf Try.f113) [1, 1, 0, 1, 0] (retPost Try.prog Try.f113 1 (camb1_res p c))) (camb1_L1_S1 p c))
  False) := by
  have hp := isT_iff.1 p1
  rw [in64_iff.2 (show -9223372036854775808 ≤ p ∧ p ≤ 9223372036854775807 by omega)]
  exact camb1_L1_1 p c p0 p1 ⟨⟨⟨by omega, by omega⟩, by simp⟩, by simp⟩
set_option maxHeartbeats 2000000 in
theorem camb1_ok : SoundEnt Try.prog camb1_e := by
  refine ent_of_ex (Γ := (conOf [mod_e])) (conOf_sound (scons mod_ok snil)) (by kernel_rfl) Try.func113 (by kernel_rfl) (by kernel_rfl) (fun args rows caps res h ho => ?_)
  change camb1_go args rows caps = some res at h
  unfold camb1_go at h
  split at h
  · simp only [Option.some.injEq] at h
    subst h
    rename_i q0_ q1_
    obtain ⟨p0, p1, _⟩ := ho
    exact EX.of (camb1_tree q0_ q1_) (camb1_holds q0_ q1_ p0 p1)
  · cases h
def collectC_res (a : Int) (b : Int) (c : List Int) : CRes := ⟨[cValid c, isT a && isT b, decide (a ≤ b), decide (b ≤ a + 115200)], .tup [.cel (.row 1), .cel (.int .i64 (0))], [.ints .i64 (cL c a b)]⟩
def collectC_go : List TV → List RowA → List (List CV) → Option CRes := fun args rows caps =>
  match args, rows, caps with
  | [.cel (.int .i64 a), .cel (.int .i64 b), .cel (.clo 113 [0])], [.ints .i64 c], [[.row 0]] => some (collectC_res a b c)
  | _, _, _ => none
def collectC_e : Ent := ⟨67, [.ints .i64 []], collectC_go⟩
def collectC_L1_F (a : Int) (b : Int) (c : List Int) (p : Int) (l : List Int) : St := ⟨40, [], [(9, (.one (.cel (.int .i64 p)))), (8, (.one (.cel (.row 1)))), (7, (.one (.cel (.int .i64 (0 : Int))))), (6, (.one (.cel .nilS))), (1, (.one (.cel (.int .i64 b)))), (2, (.one (.cel (.clo 113 [0]))))], [[(.row 0)]], [⟨(.ints .i64 c), none⟩, ⟨(.ints .i64 l), some 3⟩], 1⟩
def collectC_L1_I (a : Int) (b : Int) (c : List Int) (p : Int) (l : List Int) : Prop := (isC c p ∧ a + 1 + 1920 * (l.length : Int) ≤ p ∧ 0 ≤ a) ∧ (l.length ≤ 1000) ∧ (l ++ cedg c (1000 - l.length) p b = cL c a b)
def collectC_L1_m (a : Int) (b : Int) (c : List Int) (p : Int) (l : List Int) : Nat := (b + 1 - p).toNat
def collectC_L1_N (a : Int) (b : Int) (c : List Int) (p' : Int) (l' : List Int) (st_ : St) : Prop := getI st_ 9 fun p => getR st_ 8 fun l => collectC_L1_I a b c p l ∧ collectC_L1_m a b c p l < collectC_L1_m a b c p' l' ∧ SubA st_ (collectC_L1_F a b c p l)
def collectC_L1_E (a : Int) (b : Int) (c : List Int) (st_ : St) : Prop := getI st_ 9 fun p => getR st_ 8 fun l => collectC_L1_I a b c p l ∧ SubA st_ (collectC_L1_F a b c p l)
def collectC_L1_S1 (a : Int) (b : Int) (c : List Int) : St := ⟨40, [18, 13], [(9, (.one (.cel (.int .i64 (cxA c a))))), (25, (.one (.cel (.int .i64 (cxA c a))))), (24, (.one (.cel (.int .i64 a)))), (23, (.one (.cel (.clo 113 [0])))), (8, (.one (.cel .nilS))), (22, (.one (.cel (.bool (((!(isT a)) || (!(isT b))) || (decide (b < a))))))), (21, (.spec 18 Bool.false (.cel (.bool (decide (b < a)))))), (20, (.spec 18 Bool.false (.cel (.int .i64 b)))), (19, (.spec 18 Bool.false (.cel (.int .i64 a)))), (18, (.one (.cel (.bool ((!(isT a)) || (!(isT b))))))), (17, (.one (.cel (.bool ((!(isT a)) || (!(isT b))))))), (16, (.spec 13 Bool.false (.cel (.bool (!(isT b)))))), (15, (.spec 13 Bool.false (.cel (.bool (isT b))))), (14, (.spec 13 Bool.false (.cel (.int .i64 b)))), (13, (.one (.cel (.bool (!(isT a)))))), (12, (.one (.cel (.bool (!(isT a)))))), (11, (.one (.cel (.bool (isT a))))), (10, (.one (.cel (.int .i64 a)))), (7, (.one (.cel (.int .i64 (0 : Int))))), (6, (.one (.cel .nilS))), (0, (.one (.cel (.int .i64 a)))), (1, (.one (.cel (.int .i64 b)))), (2, (.one (.cel (.clo 113 [0]))))], [[(.row 0)]], [⟨(.ints .i64 c), none⟩], 1⟩
def collectC_L1_T (a : Int) (b : Int) (c : List Int) (p : Int) (l : List Int) : Prop := (cnd (decide (p ≤ b))
  (cnd (decide ((((List.length l) : Nat) : Int) = (1000 : Int)))
    ((True ∧ ((5 : Int) = (0 : Int))) ∧ (((cL c a b) = ([] : List Int)) ∧ True))
    (cnd (decide ((List.length (l ++ [p])) ≤ 4294967296))
      (cnd (cValid c)
        (cnd (isT p)
          ((collectC_L1_I a b c (cxA c p) (l ++ [p])) ∧ (((collectC_L1_m a b c (cxA c p) (l ++ [p])) < (collectC_L1_m a b c p l)) ∧ (((cxA c p) = (cxA c p)) ∧ (True ∧ (((0 : Int) = (0 : Int)) ∧ (True ∧ ((b = b) ∧ (True ∧ (True ∧ ((c = c) ∧ (((l ++ [p]) = (l ++ [p])) ∧ True)))))))))))
          False)
        False)
      False))
  ((True ∧ ((0 : Int) = (0 : Int))) ∧ ((l = (cL c a b)) ∧ True)))
set_option maxRecDepth 100000 in
theorem collectC_L1_tree (a : Int) (b : Int) (c : List Int) (p : Int) (l : List Int) : collectC_L1_T a b c p l = ex Try.prog (conOf [wposition_e, camb1_e]) (subC (bodyOf Try.f67) [1, 1, 1, 0, 1, 0, 0]) (nextE (collectC_L1_N a b c p l) (kont Try.prog (conOf [wposition_e, camb1_e]) (bodyOf Try.f67) [1, 1, 1, 0, 1, 0] (retPost Try.prog Try.f67 1 (collectC_res a b c)))) (collectC_L1_F a b c p l) := by kernel_rfl
set_option maxRecDepth 100000 in
theorem collectC_L1_round (a : Int) (b : Int) (c : List Int) (p : Int) (l : List Int) (p0 : (cValid c) = true) (p1 : (isT a && isT b) = true) (p2 : (decide (a ≤ b)) = true) (p3 : (decide (b ≤ a + 115200)) = true) (hI_L1 : collectC_L1_I a b c p l) : collectC_L1_T a b c p l := by
  obtain ⟨⟨⟨a1, a1'⟩, a2, a0⟩, a4, a3⟩ := hI_L1
  simp only [Bool.and_eq_true, isT_iff, decide_eq_true_eq] at p1 p2 p3
  unfold collectC_L1_T
  by_cases hp : p ≤ b
  · have hl : ((l.length : Nat) : Int) ≤ 600 := by omega
    have hlen : (l ++ [p]).length = l.length + 1 := by simp
    obtain ⟨n1, n2, n3, n4⟩ := cx_bd (c := c) p0 a1
    have hpT : isT p = true := isT_iff.2 (by omega)
    rw [decide_eq_true hp, decide_eq_false (show ¬ (l.length : Int) = 1000 by omega), decide_eq_true (show (l ++ [p]).length ≤ 4294967296 by omega), p0, hpT]
    refine ⟨⟨⟨n3, ?_, a0⟩, by omega, ?_⟩, ?_, by simp⟩
    · have := n4 ⟨a1, a1'⟩
      rw [hlen]; push_cast; omega
    · rw [← a3, hlen, show 1000 - l.length = (1000 - (l.length + 1)) + 1 by omega, cedg, if_pos hp, List.append_assoc]
      rfl
    · unfold collectC_L1_m; omega
  · rw [decide_eq_false hp]
    have : cedg c (1000 - l.length) p b = [] := by
      cases 1000 - l.length with
      | zero => rfl
      | succ n => rw [cedg, if_neg hp]
    rw [this, List.append_nil] at a3
    exact ⟨⟨trivial, rfl⟩, a3, trivial⟩
set_option maxRecDepth 100000 in
theorem collectC_L1_entry1 (a : Int) (b : Int) (c : List Int) : (((collectC_L1_I a b c (cxA c a) ([] : List Int)) ∧ (((cxA c a) = (cxA c a)) ∧ (True ∧ (((0 : Int) = (0 : Int)) ∧ (True ∧ ((b = b) ∧ (True ∧ (True ∧ ((c = c) ∧ ((([] : List Int) = ([] : List Int)) ∧ True))))))))))) = collectC_L1_E a b c (collectC_L1_S1 a b c) := by kernel_rfl
theorem collectC_L1_1 (a : Int) (b : Int) (c : List Int) (p0 : (cValid c) = true) (p1 : (isT a && isT b) = true) (p2 : (decide (a ≤ b)) = true) (p3 : (decide (b ≤ a + 115200)) = true) (h : ((collectC_L1_I a b c (cxA c a) ([] : List Int)) ∧ (((cxA c a) = (cxA c a)) ∧ (True ∧ (((0 : Int) = (0 : Int)) ∧ (True ∧ ((b = b) ∧ (True ∧ (True ∧ ((c = c) ∧ ((([] : List Int) = ([] : List Int)) ∧ True))))))))))) : LoopP (ex Try.prog (conOf [wposition_e, camb1_e]) (subC (bodyOf Try.f67) [1, 1, 1, 0, 1, 0, 0])) (kont Try.prog (conOf [wposition_e, camb1_e]) (bodyOf Try.f67) [1, 1, 1, 0, 1, 0] (retPost Try.prog Try.f67 1 (collectC_res a b c))) (collectC_L1_S1 a b c) := by
  have hE : collectC_L1_E a b c (collectC_L1_S1 a b c) := Eq.mp (collectC_L1_entry1 a b c) h
  unfold collectC_L1_E at hE
  obtain ⟨p, hE⟩ := getI_of hE
  obtain ⟨l, hE⟩ := getR_of hE
  refine loop_of (α := (Int) × (List Int)) (fun xx_ => collectC_L1_F a b c xx_.1 xx_.2) (fun xx_ => collectC_L1_I a b c xx_.1 xx_.2) (fun xx_ => collectC_L1_m a b c xx_.1 xx_.2) (fun xx_ => collectC_L1_N a b c xx_.1 xx_.2) (fun xx_ => collectC_L1_T a b c xx_.1 xx_.2) (fun xx_ s_ h => ?_) ⟨⟨p, l⟩, hE⟩ (fun xx_ => collectC_L1_tree a b c xx_.1 xx_.2) (fun xx_ hI => collectC_L1_round a b c xx_.1 xx_.2 p0 p1 p2 p3 hI)
  unfold collectC_L1_N at h
  obtain ⟨p, h⟩ := getI_of h
  obtain ⟨l, h⟩ := getR_of h
  exact ⟨⟨p, l⟩, h⟩
set_option maxRecDepth 100000 in
theorem collectC_tree (a : Int) (b : Int) (c : List Int) : ((cnd (((!(isT a)) || (!(isT b))) || (decide (b < a)))
  ((True ∧ ((2 : Int) = (0 : Int))) ∧ (((cL c a b) = ([] : List Int)) ∧ True))
  (cnd (cValid c)
    (cnd (isT a)
      (LoopP (ex Try.prog (conOf [wposition_e, camb1_e]) (subC (bodyOf Try.f67) [1, 1, 1, 0, 1, 0, 0])) (kont Try.prog (conOf [wposition_e, camb1_e]) (bodyOf Try.f67) [1, 1, 1, 0, 1, 0] (retPost Try.prog Try.f67 1 (collectC_res a b c))) (collectC_L1_S1 a b c))
      False)
    False))) = EXD Try.prog (conOf [wposition_e, camb1_e]) Try.f67 [.cel (.int .i64 a), .cel (.int .i64 b), .cel (.clo 113 [0])] [.ints .i64 c] [[.row 0]] (collectC_res a b c) := by kernel_rfl
theorem collectC_holds (a : Int) (b : Int) (c : List Int) (p0 : (cValid c) = true) (p1 : (isT a && isT b) = true) (p2 : (decide (a ≤ b)) = true) (p3 : (decide (b ≤ a + 115200)) = true) : (cnd (((!(isT a)) || (!(isT b))) || (decide (b < a)))
  ((True ∧ ((2 : Int) = (0 : Int))) ∧ (((cL c a b) = ([] : List Int)) ∧ True))
  (cnd (cValid c)
    (cnd (isT a)
      (LoopP (ex Try.prog (conOf [wposition_e, camb1_e]) (subC (bodyOf Try.f67) [1, 1, 1, 0, 1, 0, 0])) (kont Try.prog (conOf [wposition_e, camb1_e]) (bodyOf Try.f67) [1, 1, 1, 0, 1, 0] (retPost Try.prog Try.f67 1 (collectC_res a b c))) (collectC_L1_S1 a b c))
      False)
    False)) := by
  have q1 := p1; have q2 := p2; have q3 := p3
  simp only [Bool.and_eq_true, decide_eq_true_eq] at p1 p2 p3
  have h1 := isT_iff.1 p1.1
  rw [p1.1, p1.2, decide_eq_false (show ¬ b < a by omega), p0]
  obtain ⟨n1, n2, n3, n4⟩ := cx_bd (c := c) p0 h1.1
  exact collectC_L1_1 a b c p0 q1 q2 q3 ⟨⟨⟨n3, by simp; omega, h1.1⟩, by simp, by simp [cL]⟩, by simp⟩
set_option maxHeartbeats 2000000 in
theorem collectC_ok : SoundEnt Try.prog collectC_e := by
  refine ent_of_ex (Γ := (conOf [wposition_e, camb1_e])) (conOf_sound (scons wposition_ok (scons camb1_ok snil))) (by kernel_rfl) Try.func67 (by kernel_rfl) (by kernel_rfl) (fun args rows caps res h ho => ?_)
  change collectC_go args rows caps = some res at h
  unfold collectC_go at h
  split at h
  · simp only [Option.some.injEq] at h
    subst h
    rename_i q0_ q1_ q2_
    obtain ⟨p0, p1, p2, p3, _⟩ := ho
    exact EX.of (collectC_tree q0_ q1_ q2_) (collectC_holds q0_ q1_ q2_ p0 p1 p2 p3)
  · cases h
def cambet_res (c : List Int) (a : Int) (b : Int) : CRes := ⟨[isT a && isT b, decide (a ≤ b), decide (b ≤ a + 115200)], .tup [.cel (.row 1), .cel (.int .i64 (if cValid c then 0 else 1))], [.ints .i64 (if cValid c then cL c a b else [])]⟩
def cambet_go : List TV → List RowA → List (List CV) → Option CRes := fun args rows caps =>
  match args, rows, caps with
  | [.agg [.row 0], .cel (.int .i64 a), .cel (.int .i64 b)], [.ints .i64 c], [] => some (cambet_res c a b)
  | _, _, _ => none
def cambet_e : Ent := ⟨77, [.ints .i64 []], cambet_go⟩
set_option maxRecDepth 100000 in
theorem cambet_tree (c : List Int) (a : Int) (b : Int) : ((cnd (!(cValid c))
  ((True ∧ ((1 : Int) = (if ((cValid c) = Bool.true) then (0 : Int) else (1 : Int)))) ∧ (((if ((cValid c) = Bool.true) then (cL c a b) else ([] : List Int)) = ([] : List Int)) ∧ True))
  (cnd (cValid c)
    (cnd ((isT a) && (isT b))
      (cnd (decide (a ≤ b))
        (cnd (decide (b ≤ (a + (115200 : Int))))
          ((True ∧ ((0 : Int) = (if ((cValid c) = Bool.true) then (0 : Int) else (1 : Int)))) ∧ (((cL c a b) = (if ((cValid c) = Bool.true) then (cL c a b) else ([] : List Int))) ∧ True))
          False)
        False)
      False)
    False))) = EXD Try.prog (conOf [vcam_e, collectC_e]) Try.f77 [.agg [.row 0], .cel (.int .i64 a), .cel (.int .i64 b)] [.ints .i64 c] [] (cambet_res c a b) := by kernel_rfl
theorem cambet_holds (c : List Int) (a : Int) (b : Int) (p0 : (isT a && isT b) = true) (p1 : (decide (a ≤ b)) = true) (p2 : (decide (b ≤ a + 115200)) = true) : (cnd (!(cValid c))
  ((True ∧ ((1 : Int) = (if ((cValid c) = Bool.true) then (0 : Int) else (1 : Int)))) ∧ (((if ((cValid c) = Bool.true) then (cL c a b) else ([] : List Int)) = ([] : List Int)) ∧ True))
  (cnd (cValid c)
    (cnd ((isT a) && (isT b))
      (cnd (decide (a ≤ b))
        (cnd (decide (b ≤ (a + (115200 : Int))))
          ((True ∧ ((0 : Int) = (if ((cValid c) = Bool.true) then (0 : Int) else (1 : Int)))) ∧ (((cL c a b) = (if ((cValid c) = Bool.true) then (cL c a b) else ([] : List Int))) ∧ True))
          False)
        False)
      False)
    False)) := by
  rw [p0, p1, p2]
  cases hw : cValid c <;> simp [cnd]
set_option maxHeartbeats 2000000 in
theorem cambet_ok : SoundEnt Try.prog cambet_e := by
  refine ent_of_ex (Γ := (conOf [vcam_e, collectC_e])) (conOf_sound (scons vcam_ok (scons collectC_ok snil))) (by kernel_rfl) Try.func77 (by kernel_rfl) (by kernel_rfl) (fun args rows caps res h ho => ?_)
  change cambet_go args rows caps = some res at h
  unfold cambet_go at h
  split at h
  · simp only [Option.some.injEq] at h
    subst h
    rename_i q1_ q2_ q0_
    obtain ⟨p0, p1, p2, _⟩ := ho
    exact EX.of (cambet_tree q0_ q1_ q2_) (cambet_holds q0_ q1_ q2_ p0 p1 p2)
  · cases h
def came1_res (a : Int) (b : Int) (c : List Int) : CRes := ⟨[isT a && isT b, decide (a ≤ b), decide (b ≤ a + 115200)], .tup [.cel (.row 1), .cel (.int .i64 (if cValid c then 0 else 1))], [.ints .i64 (if cValid c then cL c a b else [])]⟩
def came1_go : List TV → List RowA → List (List CV) → Option CRes := fun args rows caps =>
  match args, rows, caps with
  | [.cel (.int .i64 a), .cel (.int .i64 b), .cel (.ptr 0 0)], [.ints .i64 c], [[.row 0]] => some (came1_res a b c)
  | _, _, _ => none
def came1_e : Ent := ⟨76, [.ints .i64 []], came1_go⟩
set_option maxRecDepth 100000 in
theorem came1_tree (a : Int) (b : Int) (c : List Int) : ((cnd ((isT a) && (isT b))
  (cnd (decide (a ≤ b))
    (cnd (decide (b ≤ (a + (115200 : Int))))
      ((True ∧ ((if ((cValid c) = Bool.true) then (0 : Int) else (1 : Int)) = (if ((cValid c) = Bool.true) then (0 : Int) else (1 : Int)))) ∧ (((if ((cValid c) = Bool.true) then (cL c a b) else ([] : List Int)) = (if ((cValid c) = Bool.true) then (cL c a b) else ([] : List Int))) ∧ True))
      False)
    False)
  False)) = EXD Try.prog (conOf [cambet_e]) Try.f76 [.cel (.int .i64 a), .cel (.int .i64 b), .cel (.ptr 0 0)] [.ints .i64 c] [[.row 0]] (came1_res a b c) := by kernel_rfl
theorem came1_holds (a : Int) (b : Int) (c : List Int) (p0 : (isT a && isT b) = true) (p1 : (decide (a ≤ b)) = true) (p2 : (decide (b ≤ a + 115200)) = true) : (cnd ((isT a) && (isT b))
  (cnd (decide (a ≤ b))
    (cnd (decide (b ≤ (a + (115200 : Int))))
      ((True ∧ ((if ((cValid c) = Bool.true) then (0 : Int) else (1 : Int)) = (if ((cValid c) = Bool.true) then (0 : Int) else (1 : Int)))) ∧ (((if ((cValid c) = Bool.true) then (cL c a b) else ([] : List Int)) = (if ((cValid c) = Bool.true) then (cL c a b) else ([] : List Int))) ∧ True))
      False)
    False)
  False) := by
  rw [p0, p1, p2]
  simp [cnd]
set_option maxHeartbeats 2000000 in
theorem came1_ok : SoundEnt Try.prog came1_e := by
  refine ent_of_ex (Γ := (conOf [cambet_e])) (conOf_sound (scons cambet_ok snil)) (by kernel_rfl) Try.func76 (by kernel_rfl) (by kernel_rfl) (fun args rows caps res h ho => ?_)
  change came1_go args rows caps = some res at h
  unfold came1_go at h
  split at h
  · simp only [Option.some.injEq] at h
    subst h
    rename_i q0_ q1_ q2_
    obtain ⟨p0, p1, p2, _⟩ := ho
    exact EX.of (came1_tree q0_ q1_ q2_) (came1_holds q0_ q1_ q2_ p0 p1 p2)
  · cases h
def caP (c : List Int) (s : Int) (l : List (List Int)) (e : Int) : List Int := if crE (cValid c) s l e = 0 then cL c s (posOf s l e) else []
def caT (c : List Int) (s : Int) (l : List (List Int)) (e : Int) : List Int := (caP c s l e).map fun p => (tmOf s l p).1
/-- What is known of the cam's positions. -/
theorem ca_facts {c : List Int} {s : Int} {l : List (List Int)} {e : Int} (h : crE (cValid c) s l e = 0) (hf : fewB s l e = true) :
    cValid c = true ∧ mValid s l = true ∧ (0 ≤ e ∧ e ≤ 1099511627776) ∧ (0 ≤ s ∧ s < 46080) ∧ mErr s l e = 0 ∧ posOf s l e = s + way e l / 65536 ∧ s ≤ posOf s l e ∧ posOf s l e ≤ s + 92160 ∧
    ∀ x ∈ cL c s (posOf s l e), s + 1 ≤ x ∧ x ≤ posOf s l e ∧ (tmOf s l x).2 = 0 ∧ 0 ≤ (tmOf s l x).1 ∧ (tmOf s l x).1 ≤ e := by
  obtain ⟨h1, h2, h3⟩ := crE_zero.1 h
  have hm : mErr s l e = 0 := mErr_zero.2 ⟨h2, h3⟩
  have hp : posOf s l e = s + way e l / 65536 := by unfold posOf; rw [if_pos hm]
  have hs := (mV_iff.1 h2).1
  have hw := way_bd l 0 e (mV_iff.1 h2).2.2 h3.1
  have hf2 : posOf s l e - s ≤ 92160 := by
    unfold fewB at hf
    rw [hm] at hf
    simpa using hf
  refine ⟨h1, h2, h3, hs, hm, hp, by omega, by omega, fun x hx => ?_⟩
  obtain ⟨g1, g2, g3⟩ := (cL_spec (b := posOf s l e) h1 hs.1).1 x hx
  obtain ⟨k1, k2, k3, k4⟩ := tm_key (p := x) h2
  have hmono := way_more l 0 e (1099511627776 - e) (mV_iff.1 h2).2.2 h3.1 (by omega)
  rw [show e + (1099511627776 - e) = 1099511627776 by omega] at hmono
  have h0 : (tmOf s l x).2 = 0 := k3.2 (by omega)
  obtain ⟨m1, m2, m3⟩ := k4 h0
  exact ⟨g1, g2, h0, m1, (m3 e h3.1).1 (by omega)⟩
def edgesK_res (v : Bool) (s : Int) (l : List (List Int)) (e : Int) (c : List Int) : CRes := ⟨[v == cValid c, fewB s l e], .tup [.cel (.row 2), .cel (.row 3), .cel (.int .i64 (crE (cValid c) s l e))], [.ints .i64 (caT c s l e), .ints .i64 (caP c s l e)]⟩
def edgesK_go : List TV → List RowA → List (List CV) → Option CRes := fun args rows caps =>
  match args, rows, caps with
  | [.cel (.bool v), .agg [.int .i64 s, .row 0], .cel (.int .i64 e), .cel (.clo 76 [0])], [.recs [.int .i64, .int .i64] l, .ints .i64 c], [[.row 1]] => some (edgesK_res v s l e c)
  | _, _, _ => none
def edgesK_e : Ent := ⟨74, [.recs [.int .i64, .int .i64] [], .ints .i64 []], edgesK_go⟩
def edgesK_L1_F (v : Bool) (s : Int) (l : List (List Int)) (e : Int) (c : List Int) (i : Int) (tl : List Int) : St := ⟨74, [], [(54, (.one (.cel (.int .i64 i)))), (53, (.one (.cel (.int .i64 (((List.length (if ((cValid c) = Bool.true) then (cL c s (gmin (posOf s l e) (1099511627776 : Int))) else ([] : List Int))) : Nat) : Int))))), (52, (.one (.cel (.row 2)))), (14, (.one (.cel (.row 3)))), (13, (.one (.cel (.row 2)))), (10, (.one (.cel (.int .i64 (0 : Int))))), (9, (.one (.cel .nilS))), (8, (.one (.cel .nilS))), (5, (.one (.cel (.ptr 1 0))))], [[(.row 1)], [(.int .i64 s), (.row 0)]], [⟨(.recs [.int .i64, .int .i64] l), none⟩, ⟨(.ints .i64 c), none⟩, ⟨(.ints .i64 (if ((cValid c) = Bool.true) then (cL c s (gmin (posOf s l e) (1099511627776 : Int))) else ([] : List Int))), none⟩, ⟨(.ints .i64 tl), some 3⟩], 1⟩
def edgesK_L1_I (v : Bool) (s : Int) (l : List (List Int)) (e : Int) (c : List Int) (i : Int) (tl : List Int) : Prop := (crE (cValid c) s l e = 0) ∧ (0 ≤ i ∧ i ≤ (cL c s (posOf s l e)).length) ∧ (tl = ((cL c s (posOf s l e)).take i.toNat).map fun p => (tmOf s l p).1)
def edgesK_L1_m (v : Bool) (s : Int) (l : List (List Int)) (e : Int) (c : List Int) (i : Int) (tl : List Int) : Nat := ((cL c s (posOf s l e)).length - i).toNat
def edgesK_L1_N (v : Bool) (s : Int) (l : List (List Int)) (e : Int) (c : List Int) (i' : Int) (tl' : List Int) (st_ : St) : Prop := getI st_ 54 fun i => getR st_ 14 fun tl => edgesK_L1_I v s l e c i tl ∧ edgesK_L1_m v s l e c i tl < edgesK_L1_m v s l e c i' tl' ∧ SubA st_ (edgesK_L1_F v s l e c i tl)
def edgesK_L1_E (v : Bool) (s : Int) (l : List (List Int)) (e : Int) (c : List Int) (st_ : St) : Prop := getI st_ 54 fun i => getR st_ 14 fun tl => edgesK_L1_I v s l e c i tl ∧ SubA st_ (edgesK_L1_F v s l e c i tl)
def edgesK_L1_S1 (v : Bool) (s : Int) (l : List (List Int)) (e : Int) (c : List Int) : St := ⟨74, [22], [(54, (.one (.cel (.int .i64 (0 : Int))))), (53, (.one (.cel (.int .i64 (((List.length (if ((cValid c) = Bool.true) then (cL c s (gmin (posOf s l e) (1099511627776 : Int))) else ([] : List Int))) : Nat) : Int))))), (52, (.one (.cel (.row 2)))), (14, (.one (.cel .nilS))), (50, (.one (.cel (.bool (!(decide ((if ((cValid c) = Bool.true) then (0 : Int) else (1 : Int)) = (0 : Int)))))))), (49, (.one (.cel (.int .i64 (if ((cValid c) = Bool.true) then (0 : Int) else (1 : Int)))))), (12, (.one (.cel (.int .i64 (if ((cValid c) = Bool.true) then (0 : Int) else (1 : Int)))))), (13, (.one (.cel (.row 2)))), (48, (.one (.cel (.int .i64 (if ((cValid c) = Bool.true) then (0 : Int) else (1 : Int)))))), (47, (.one (.cel (.row 2)))), (40, (.tup [(.cel (.row 2)), (.cel (.int .i64 (if ((cValid c) = Bool.true) then (0 : Int) else (1 : Int))))])), (46, (.tup [(.cel (.row 2)), (.cel (.int .i64 (if ((cValid c) = Bool.true) then (0 : Int) else (1 : Int))))])), (45, (.one (.cel (.int .i64 (gmin (posOf s l e) (1099511627776 : Int)))))), (44, (.one (.cel (.int .i64 (posOf s l e))))), (43, (.one (.cel (.int .i64 s)))), (42, (.one (.cel (.ptr 1 0)))), (41, (.one (.cel (.clo 76 [0])))), (38, (.one (.cel (.bool (!(decide ((mErr s l e) = (0 : Int)))))))), (37, (.one (.cel (.int .i64 (mErr s l e))))), (12, (.one (.cel (.int .i64 (mErr s l e))))), (11, (.one (.cel (.int .i64 (posOf s l e))))), (36, (.one (.cel (.int .i64 (mErr s l e))))), (35, (.one (.cel (.int .i64 (posOf s l e))))), (31, (.tup [(.cel (.int .i64 (posOf s l e))), (.cel (.int .i64 (mErr s l e)))])), (34, (.tup [(.cel (.int .i64 (posOf s l e))), (.cel (.int .i64 (mErr s l e)))])), (33, (.one (.cel (.int .i64 e)))), (32, (.one (.agg [(.int .i64 s), (.row 0)]))), (27, (.one (.cel (.bool (!(isT e)))))), (30, (.one (.cel (.bool (!(isT e)))))), (29, (.one (.cel (.bool (isT e))))), (28, (.one (.cel (.int .i64 e)))), (19, (.one (.cel (.bool ((!v) || (!(mValid s l))))))), (26, (.one (.cel (.bool ((!v) || (!(mValid s l))))))), (25, (.spec 22 Bool.false (.cel (.bool (!(mValid s l)))))), (24, (.spec 22 Bool.false (.cel (.bool (mValid s l))))), (23, (.spec 22 Bool.false (.agg [(.int .i64 s), (.row 0)]))), (22, (.one (.cel (.bool (!v))))), (21, (.one (.cel (.bool (!v))))), (20, (.one (.cel (.bool v)))), (10, (.one (.cel (.int .i64 (0 : Int))))), (9, (.one (.cel .nilS))), (8, (.one (.cel .nilS))), (5, (.one (.cel (.ptr 1 0)))), (0, (.one (.cel (.bool v)))), (1, (.one (.agg [(.int .i64 s), (.row 0)]))), (2, (.one (.cel (.int .i64 e)))), (3, (.one (.cel (.clo 76 [0]))))], [[(.row 1)], [(.int .i64 s), (.row 0)]], [⟨(.recs [.int .i64, .int .i64] l), none⟩, ⟨(.ints .i64 c), none⟩, ⟨(.ints .i64 (if ((cValid c) = Bool.true) then (cL c s (gmin (posOf s l e) (1099511627776 : Int))) else ([] : List Int))), none⟩], 1⟩
def edgesK_L1_T (v : Bool) (s : Int) (l : List (List Int)) (e : Int) (c : List Int) (i : Int) (tl : List Int) : Prop := (cnd (decide (i < (((List.length (if ((cValid c) = Bool.true) then (cL c s (gmin (posOf s l e) (1099511627776 : Int))) else ([] : List Int))) : Nat) : Int)))
  (cnd (decide ((0 : Int) ≤ i))
    (cnd (decide (i < (((List.length (if ((cValid c) = Bool.true) then (cL c s (gmin (posOf s l e) (1099511627776 : Int))) else ([] : List Int))) : Nat) : Int)))
      (cnd (wfI Go.IntKind.i64 (List.getD (if ((cValid c) = Bool.true) then (cL c s (gmin (posOf s l e) (1099511627776 : Int))) else ([] : List Int)) (Int.toNat i) (0 : Int)))
        (cnd (!(decide ((Prod.snd (tmOf s l (List.getD (if ((cValid c) = Bool.true) then (cL c s (gmin (posOf s l e) (1099511627776 : Int))) else ([] : List Int)) (Int.toNat i) (0 : Int)))) = (0 : Int))))
          ((True ∧ (True ∧ ((Prod.snd (tmOf s l (List.getD (if ((cValid c) = Bool.true) then (cL c s (gmin (posOf s l e) (1099511627776 : Int))) else ([] : List Int)) (Int.toNat i) (0 : Int)))) = (crE (cValid c) s l e)))) ∧ (((caT c s l e) = ([] : List Int)) ∧ (((caP c s l e) = ([] : List Int)) ∧ True)))
          (cnd (decide ((List.length (tl ++ [(Prod.fst (tmOf s l (List.getD (if ((cValid c) = Bool.true) then (cL c s (gmin (posOf s l e) (1099511627776 : Int))) else ([] : List Int)) (Int.toNat i) (0 : Int))))])) ≤ 4294967296))
            ((edgesK_L1_I v s l e c (Go.IntKind.wrap Go.IntKind.i64 (i + (1 : Int))) (tl ++ [(Prod.fst (tmOf s l (List.getD (if ((cValid c) = Bool.true) then (cL c s (gmin (posOf s l e) (1099511627776 : Int))) else ([] : List Int)) (Int.toNat i) (0 : Int))))])) ∧ (((edgesK_L1_m v s l e c (Go.IntKind.wrap Go.IntKind.i64 (i + (1 : Int))) (tl ++ [(Prod.fst (tmOf s l (List.getD (if ((cValid c) = Bool.true) then (cL c s (gmin (posOf s l e) (1099511627776 : Int))) else ([] : List Int)) (Int.toNat i) (0 : Int))))])) < (edgesK_L1_m v s l e c i tl)) ∧ (((Go.IntKind.wrap Go.IntKind.i64 (i + (1 : Int))) = (Go.IntKind.wrap Go.IntKind.i64 (i + (1 : Int)))) ∧ (((((List.length (if ((cValid c) = Bool.true) then (cL c s (gmin (posOf s l e) (1099511627776 : Int))) else ([] : List Int))) : Nat) : Int) = (((List.length (if ((cValid c) = Bool.true) then (cL c s (gmin (posOf s l e) (1099511627776 : Int))) else ([] : List Int))) : Nat) : Int)) ∧ (True ∧ (True ∧ (True ∧ (((0 : Int) = (0 : Int)) ∧ (True ∧ (True ∧ (True ∧ (True ∧ (((s = s) ∧ True) ∧ ((l = l) ∧ ((c = c) ∧ (((if ((cValid c) = Bool.true) then (cL c s (gmin (posOf s l e) (1099511627776 : Int))) else ([] : List Int)) = (if ((cValid c) = Bool.true) then (cL c s (gmin (posOf s l e) (1099511627776 : Int))) else ([] : List Int))) ∧ (((tl ++ [(Prod.fst (tmOf s l (List.getD (if ((cValid c) = Bool.true) then (cL c s (gmin (posOf s l e) (1099511627776 : Int))) else ([] : List Int)) (Int.toNat i) (0 : Int))))]) = (tl ++ [(Prod.fst (tmOf s l (List.getD (if ((cValid c) = Bool.true) then (cL c s (gmin (posOf s l e) (1099511627776 : Int))) else ([] : List Int)) (Int.toNat i) (0 : Int))))])) ∧ True)))))))))))))))))
            False))
        False)
      False)
    False)
  ((True ∧ (True ∧ ((0 : Int) = (crE (cValid c) s l e)))) ∧ ((tl = (caT c s l e)) ∧ (((if ((cValid c) = Bool.true) then (cL c s (gmin (posOf s l e) (1099511627776 : Int))) else ([] : List Int)) = (caP c s l e)) ∧ True))))
set_option maxRecDepth 100000 in
theorem edgesK_L1_tree (v : Bool) (s : Int) (l : List (List Int)) (e : Int) (c : List Int) (i : Int) (tl : List Int) : edgesK_L1_T v s l e c i tl = ex Try.prog (conOf [valid_e, stime_e, position_e, mtime_e, came1_e]) (subC (bodyOf Try.f74) [1, 1, 1, 1, 1, 1, 1, 0, 1, 0, 0]) (nextE (edgesK_L1_N v s l e c i tl) (kont Try.prog (conOf [valid_e, stime_e, position_e, mtime_e, came1_e]) (bodyOf Try.f74) [1, 1, 1, 1, 1, 1, 1, 0, 1, 0] (retPost Try.prog Try.f74 2 (edgesK_res v s l e c)))) (edgesK_L1_F v s l e c i tl) := by kernel_rfl
set_option maxRecDepth 100000 in
theorem edgesK_L1_round (v : Bool) (s : Int) (l : List (List Int)) (e : Int) (c : List Int) (i : Int) (tl : List Int) (p0 : (v == cValid c) = true) (p1 : (fewB s l e) = true) (hI_L1 : edgesK_L1_I v s l e c i tl) : edgesK_L1_T v s l e c i tl := by
  obtain ⟨a0, ⟨a1, a2⟩, a3⟩ := hI_L1
  obtain ⟨f1, f2, f3, f4, f5, f6, f7, f8, f9⟩ := ca_facts a0 p1
  obtain ⟨_, e3⟩ := cL_spec (b := posOf s l e) f1 f4.1
  have e3 := e3 f7
  unfold edgesK_L1_T
  have hgm : gmin (posOf s l e) 1099511627776 = posOf s l e := by unfold gmin; rw [if_neg (by omega)]
  simp only [hgm, f1, if_true]
  have hP : caP c s l e = cL c s (posOf s l e) := by unfold caP; rw [if_pos a0]
  have hT : caT c s l e = (cL c s (posOf s l e)).map fun p => (tmOf s l p).1 := by unfold caT; rw [hP]
  have hF : ∀ (i' : Int) (tl' : List Int), 0 ≤ i' ∧ i' ≤ (cL c s (posOf s l e)).length → tl' = ((cL c s (posOf s l e)).take i'.toNat).map (fun p => (tmOf s l p).1) → edgesK_L1_I v s l e c i' tl' := fun i' tl' h1 h2 => ⟨a0, h1, h2⟩
  have hμ : ∀ tl', i < (cL c s (posOf s l e)).length → edgesK_L1_m v s l e c (i + 1) tl' < edgesK_L1_m v s l e c i tl := fun tl' h => by unfold edgesK_L1_m; omega
  rw [f1] at a0
  rw [hP, hT, a0]
  have hlt : tl.length = i.toNat := by rw [a3, List.length_map, List.length_take]; omega
  generalize cL c s (posOf s l e) = P at *
  by_cases hi : i < P.length
  · have hx : P.getD i.toNat 0 ∈ P := by
      rw [List.getD_eq_getElem?_getD, List.getElem?_eq_getElem (by omega)]
      exact List.getElem_mem (by omega)
    obtain ⟨g1, g2, g3, g4, g5⟩ := f9 _ hx
    have hwf : wfI .i64 (P.getD i.toNat 0) = true := wfI64.2 (by omega)
    have hlen : ∀ r : Int, (tl ++ [r]).length = tl.length + 1 := fun r => by simp
    rw [decide_eq_true hi, decide_eq_true a1, hwf, g3, decide_eq_true (show (tl ++ [(tmOf s l (P.getD i.toNat 0)).1]).length ≤ 4294967296 by rw [hlen]; omega), w64 (n := i + 1) (by omega) (by omega)]
    refine ⟨hF _ _ ⟨by omega, by omega⟩ ?_, hμ _ hi, by simp⟩
    · rw [show (i + 1).toNat = i.toNat + 1 by omega, List.take_add_one, List.getElem?_eq_getElem (by omega), List.map_append, ← a3, List.getD_eq_getElem?_getD, List.getElem?_eq_getElem (by omega)]
      rfl
  · rw [decide_eq_false hi]
    rw [List.take_of_length_le (by omega)] at a3
    exact ⟨⟨trivial, trivial, rfl⟩, a3, rfl, trivial⟩
set_option maxRecDepth 100000 in
theorem edgesK_L1_entry1 (v : Bool) (s : Int) (l : List (List Int)) (e : Int) (c : List Int) : (((edgesK_L1_I v s l e c (0 : Int) ([] : List Int)) ∧ (((0 : Int) = (0 : Int)) ∧ (((((List.length (if ((cValid c) = Bool.true) then (cL c s (gmin (posOf s l e) (1099511627776 : Int))) else ([] : List Int))) : Nat) : Int) = (((List.length (if ((cValid c) = Bool.true) then (cL c s (gmin (posOf s l e) (1099511627776 : Int))) else ([] : List Int))) : Nat) : Int)) ∧ (True ∧ (True ∧ (True ∧ (((0 : Int) = (0 : Int)) ∧ (True ∧ (True ∧ (True ∧ (True ∧ (((s = s) ∧ True) ∧ ((l = l) ∧ ((c = c) ∧ (((if ((cValid c) = Bool.true) then (cL c s (gmin (posOf s l e) (1099511627776 : Int))) else ([] : List Int)) = (if ((cValid c) = Bool.true) then (cL c s (gmin (posOf s l e) (1099511627776 : Int))) else ([] : List Int))) ∧ ((([] : List Int) = ([] : List Int)) ∧ True))))))))))))))))) = edgesK_L1_E v s l e c (edgesK_L1_S1 v s l e c) := by kernel_rfl
theorem edgesK_L1_1 (v : Bool) (s : Int) (l : List (List Int)) (e : Int) (c : List Int) (p0 : (v == cValid c) = true) (p1 : (fewB s l e) = true) (h : ((edgesK_L1_I v s l e c (0 : Int) ([] : List Int)) ∧ (((0 : Int) = (0 : Int)) ∧ (((((List.length (if ((cValid c) = Bool.true) then (cL c s (gmin (posOf s l e) (1099511627776 : Int))) else ([] : List Int))) : Nat) : Int) = (((List.length (if ((cValid c) = Bool.true) then (cL c s (gmin (posOf s l e) (1099511627776 : Int))) else ([] : List Int))) : Nat) : Int)) ∧ (True ∧ (True ∧ (True ∧ (((0 : Int) = (0 : Int)) ∧ (True ∧ (True ∧ (True ∧ (True ∧ (((s = s) ∧ True) ∧ ((l = l) ∧ ((c = c) ∧ (((if ((cValid c) = Bool.true) then (cL c s (gmin (posOf s l e) (1099511627776 : Int))) else ([] : List Int)) = (if ((cValid c) = Bool.true) then (cL c s (gmin (posOf s l e) (1099511627776 : Int))) else ([] : List Int))) ∧ ((([] : List Int) = ([] : List Int)) ∧ True))))))))))))))))) : LoopP (ex Try.prog (conOf [valid_e, stime_e, position_e, mtime_e, came1_e]) (subC (bodyOf Try.f74) [1, 1, 1, 1, 1, 1, 1, 0, 1, 0, 0])) (kont Try.prog (conOf [valid_e, stime_e, position_e, mtime_e, came1_e]) (bodyOf Try.f74) [1, 1, 1, 1, 1, 1, 1, 0, 1, 0] (retPost Try.prog Try.f74 2 (edgesK_res v s l e c))) (edgesK_L1_S1 v s l e c) := by
  have hE : edgesK_L1_E v s l e c (edgesK_L1_S1 v s l e c) := Eq.mp (edgesK_L1_entry1 v s l e c) h
  unfold edgesK_L1_E at hE
  obtain ⟨i, hE⟩ := getI_of hE
  obtain ⟨tl, hE⟩ := getR_of hE
  refine loop_of (α := (Int) × (List Int)) (fun xx_ => edgesK_L1_F v s l e c xx_.1 xx_.2) (fun xx_ => edgesK_L1_I v s l e c xx_.1 xx_.2) (fun xx_ => edgesK_L1_m v s l e c xx_.1 xx_.2) (fun xx_ => edgesK_L1_N v s l e c xx_.1 xx_.2) (fun xx_ => edgesK_L1_T v s l e c xx_.1 xx_.2) (fun xx_ s_ h => ?_) ⟨⟨i, tl⟩, hE⟩ (fun xx_ => edgesK_L1_tree v s l e c xx_.1 xx_.2) (fun xx_ hI => edgesK_L1_round v s l e c xx_.1 xx_.2 p0 p1 hI)
  unfold edgesK_L1_N at h
  obtain ⟨i, h⟩ := getI_of h
  obtain ⟨tl, h⟩ := getR_of h
  exact ⟨⟨i, tl⟩, h⟩
set_option maxRecDepth 100000 in
theorem edgesK_tree (v : Bool) (s : Int) (l : List (List Int)) (e : Int) (c : List Int) : ((cnd ((!v) || (!(mValid s l)))
  ((True ∧ (True ∧ ((1 : Int) = (crE (cValid c) s l e)))) ∧ (((caT c s l e) = ([] : List Int)) ∧ (((caP c s l e) = ([] : List Int)) ∧ True)))
  (cnd (!(isT e))
    ((True ∧ (True ∧ ((2 : Int) = (crE (cValid c) s l e)))) ∧ (((caT c s l e) = ([] : List Int)) ∧ (((caP c s l e) = ([] : List Int)) ∧ True)))
    (cnd (!(decide ((mErr s l e) = (0 : Int))))
      ((True ∧ (True ∧ ((mErr s l e) = (crE (cValid c) s l e)))) ∧ (((caT c s l e) = ([] : List Int)) ∧ (((caP c s l e) = ([] : List Int)) ∧ True)))
      (cnd ((isT s) && (isT (gmin (posOf s l e) (1099511627776 : Int))))
        (cnd (decide (s ≤ (gmin (posOf s l e) (1099511627776 : Int))))
          (cnd (decide ((gmin (posOf s l e) (1099511627776 : Int)) ≤ (s + (115200 : Int))))
            (cnd (!(decide ((if ((cValid c) = Bool.true) then (0 : Int) else (1 : Int)) = (0 : Int))))
              ((True ∧ (True ∧ ((if ((cValid c) = Bool.true) then (0 : Int) else (1 : Int)) = (crE (cValid c) s l e)))) ∧ (((caT c s l e) = ([] : List Int)) ∧ (((caP c s l e) = ([] : List Int)) ∧ True)))
              (LoopP (ex Try.prog (conOf [valid_e, stime_e, position_e, mtime_e, came1_e]) (subC (bodyOf Try.f74) [1, 1, 1, 1, 1, 1, 1, 0, 1, 0, 0])) (kont Try.prog (conOf [valid_e, stime_e, position_e, mtime_e, came1_e]) (bodyOf Try.f74) [1, 1, 1, 1, 1, 1, 1, 0, 1, 0] (retPost Try.prog Try.f74 2 (edgesK_res v s l e c))) (edgesK_L1_S1 v s l e c)))
            False)
          False)
        False))))) = EXD Try.prog (conOf [valid_e, stime_e, position_e, mtime_e, came1_e]) Try.f74 [.cel (.bool v), .agg [.int .i64 s, .row 0], .cel (.int .i64 e), .cel (.clo 76 [0])] [.recs [.int .i64, .int .i64] l, .ints .i64 c] [[.row 1]] (edgesK_res v s l e c) := by kernel_rfl
theorem edgesK_holds (v : Bool) (s : Int) (l : List (List Int)) (e : Int) (c : List Int) (p0 : (v == cValid c) = true) (p1 : (fewB s l e) = true) : (cnd ((!v) || (!(mValid s l)))
  ((True ∧ (True ∧ ((1 : Int) = (crE (cValid c) s l e)))) ∧ (((caT c s l e) = ([] : List Int)) ∧ (((caP c s l e) = ([] : List Int)) ∧ True)))
  (cnd (!(isT e))
    ((True ∧ (True ∧ ((2 : Int) = (crE (cValid c) s l e)))) ∧ (((caT c s l e) = ([] : List Int)) ∧ (((caP c s l e) = ([] : List Int)) ∧ True)))
    (cnd (!(decide ((mErr s l e) = (0 : Int))))
      ((True ∧ (True ∧ ((mErr s l e) = (crE (cValid c) s l e)))) ∧ (((caT c s l e) = ([] : List Int)) ∧ (((caP c s l e) = ([] : List Int)) ∧ True)))
      (cnd ((isT s) && (isT (gmin (posOf s l e) (1099511627776 : Int))))
        (cnd (decide (s ≤ (gmin (posOf s l e) (1099511627776 : Int))))
          (cnd (decide ((gmin (posOf s l e) (1099511627776 : Int)) ≤ (s + (115200 : Int))))
            (cnd (!(decide ((if ((cValid c) = Bool.true) then (0 : Int) else (1 : Int)) = (0 : Int))))
              ((True ∧ (True ∧ ((if ((cValid c) = Bool.true) then (0 : Int) else (1 : Int)) = (crE (cValid c) s l e)))) ∧ (((caT c s l e) = ([] : List Int)) ∧ (((caP c s l e) = ([] : List Int)) ∧ True)))
              (LoopP (ex Try.prog (conOf [valid_e, stime_e, position_e, mtime_e, came1_e]) (subC (bodyOf Try.f74) [1, 1, 1, 1, 1, 1, 1, 0, 1, 0, 0])) (kont Try.prog (conOf [valid_e, stime_e, position_e, mtime_e, came1_e]) (bodyOf Try.f74) [1, 1, 1, 1, 1, 1, 1, 0, 1, 0] (retPost Try.prog Try.f74 2 (edgesK_res v s l e c))) (edgesK_L1_S1 v s l e c)))
            False)
          False)
        False)))) := by
  have hv : v = cValid c := by simpa using p0
  cases hz : decide (crE (cValid c) s l e = 0) with
  | true =>
    have hz : crE (cValid c) s l e = 0 := by simpa using hz
    obtain ⟨f1, f2, f3, f4, f5, f6, f7, f8, f9⟩ := ca_facts hz p1
    have hgm : gmin (posOf s l e) 1099511627776 = posOf s l e := by unfold gmin; rw [if_neg (by omega)]
    have hT1 : (isT s && isT (gmin (posOf s l e) 1099511627776)) = true := by
      rw [hgm, isT_iff.2 (show 0 ≤ s ∧ s ≤ 1099511627776 by omega), isT_iff.2 (show 0 ≤ posOf s l e ∧ posOf s l e ≤ 1099511627776 by omega)]; rfl
    refine cnd_i (fun h => by rw [hv, f1, f2] at h; cases h) (fun _ => ?_)
    refine cnd_i (fun h => by rw [isT_iff.2 f3] at h; cases h) (fun _ => ?_)
    refine cnd_i (fun h => by rw [f5] at h; simp at h) (fun _ => ?_)
    refine cnd_i (fun _ => ?_) (fun h => by rw [hT1] at h; cases h)
    refine cnd_i (fun _ => ?_) (fun h => by rw [hgm, decide_eq_true f7] at h; cases h)
    refine cnd_i (fun _ => ?_) (fun h => by rw [hgm, decide_eq_true (show posOf s l e ≤ s + 115200 by omega)] at h; cases h)
    refine cnd_i (fun h => by simp [f1] at h) (fun _ => ?_)
    exact edgesK_L1_1 v s l e c p0 p1 ⟨⟨hz, ⟨by omega, by omega⟩, by simp⟩, by simp⟩
  | false =>
    have hz : ¬ crE (cValid c) s l e = 0 := by simpa using hz
    have hP : caP c s l e = [] := by unfold caP; rw [if_neg hz]
    have hT : caT c s l e = [] := by unfold caT; rw [hP]; rfl
    rw [hP, hT, hv]
    unfold crE at hz ⊢
    cases h1 : cValid c with
    | false => simp [cnd]
    | true =>
      cases h2 : mValid s l with
      | false => simp [cnd]
      | true =>
        cases h3 : isT e with
        | false => simp [cnd]
        | true => simp [h1, h2, h3] at hz
set_option maxHeartbeats 2000000 in
theorem edgesK_ok : SoundEnt Try.prog edgesK_e := by
  refine ent_of_ex (Γ := (conOf [valid_e, stime_e, position_e, mtime_e, came1_e])) (conOf_sound (scons valid_ok (scons stime_ok (scons position_ok (scons mtime_ok (scons came1_ok snil)))))) (by kernel_rfl) Try.func74 (by kernel_rfl) (by kernel_rfl) (fun args rows caps res h ho => ?_)
  change edgesK_go args rows caps = some res at h
  unfold edgesK_go at h
  split at h
  · simp only [Option.some.injEq] at h
    subst h
    rename_i q0_ q1_ q3_ q2_ q4_
    obtain ⟨p0, p1, _⟩ := ho
    exact EX.of (edgesK_tree q0_ q1_ q2_ q3_ q4_) (edgesK_holds q0_ q1_ q2_ q3_ q4_ p0 p1)
  · cases h
def CamEdges_res (c : List Int) (s : Int) (l : List (List Int)) (e : Int) : CRes := ⟨[fewB s l e], .tup [.cel (.row 2), .cel (.int .i64 (crE (cValid c) s l e))], [.ints .i64 (caT c s l e)]⟩
def CamEdges_go : List TV → List RowA → List (List CV) → Option CRes := fun args rows caps =>
  match args, rows, caps with
  | [.agg [.row 0], .agg [.int .i64 s, .row 1], .cel (.int .i64 e)], [.ints .i64 c, .recs [.int .i64, .int .i64] l], [] => some (CamEdges_res c s l e)
  | _, _, _ => none
def CamEdges_e : Ent := ⟨31, [.ints .i64 [], .recs [.int .i64, .int .i64] []], CamEdges_go⟩
set_option maxRecDepth 100000 in
theorem CamEdges_tree (c : List Int) (s : Int) (l : List (List Int)) (e : Int) : ((cnd ((cValid c) == (cValid c))
  (cnd (fewB s l e)
    ((True ∧ ((crE (cValid c) s l e) = (crE (cValid c) s l e))) ∧ (((caT c s l e) = (caT c s l e)) ∧ True))
    False)
  False)) = EXD Try.prog (conOf [vcam_e, edgesK_e]) Try.f31 [.agg [.row 0], .agg [.int .i64 s, .row 1], .cel (.int .i64 e)] [.ints .i64 c, .recs [.int .i64, .int .i64] l] [] (CamEdges_res c s l e) := by kernel_rfl
theorem CamEdges_holds (c : List Int) (s : Int) (l : List (List Int)) (e : Int) (p0 : (fewB s l e) = true) : (cnd ((cValid c) == (cValid c))
  (cnd (fewB s l e)
    ((True ∧ ((crE (cValid c) s l e) = (crE (cValid c) s l e))) ∧ (((caT c s l e) = (caT c s l e)) ∧ True))
    False)
  False) := by
  rw [p0]
  simp [cnd]
set_option maxHeartbeats 2000000 in
theorem CamEdges_ok : SoundEnt Try.prog CamEdges_e := by
  refine ent_of_ex (Γ := (conOf [vcam_e, edgesK_e])) (conOf_sound (scons vcam_ok (scons edgesK_ok snil))) (by kernel_rfl) Try.func31 (by kernel_rfl) (by kernel_rfl) (fun args rows caps res h ho => ?_)
  change CamEdges_go args rows caps = some res at h
  unfold CamEdges_go at h
  split at h
  · simp only [Option.some.injEq] at h
    subst h
    rename_i q1_ q3_ q0_ q2_
    obtain ⟨p0, _⟩ := ho
    exact EX.of (CamEdges_tree q0_ q1_ q2_ q3_) (CamEdges_holds q0_ q1_ q2_ q3_ p0)
  · cases h
end Go.Proofs.Ythfliohfkhnpiaa

