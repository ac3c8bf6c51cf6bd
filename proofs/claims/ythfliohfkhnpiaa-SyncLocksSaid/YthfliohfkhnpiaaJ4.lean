/- The crank's edges. -/
import Derived.Test.YthfliohfkhnpiaaJ3
namespace Go.Proofs.Ythfliohfkhnpiaa
set_option linter.unusedVariables false
set_option linter.unusedSimpArgs false
open Go.RowKit

theorem edg_mem {T M : Int} (hw : wValid T M = true) : ∀ (n : Nat) (p b : Int), isE T M p → ∀ x ∈ edg T M n p b, p ≤ x ∧ x ≤ b ∧ isE T M x
  | 0, _, _, _, x, hx => by simp [edg] at hx
  | n + 1, p, b, hp, x, hx => by
    rw [edg] at hx
    split at hx
    · rename_i h
      rcases List.mem_cons.1 hx with rfl | hx
      · exact ⟨by omega, h, hp⟩
      · obtain ⟨n1, n2, n3, _⟩ := nx_bd hw hp.1
        obtain ⟨h1, h2, h3⟩ := edg_mem hw n _ b n3 x hx
        exact ⟨by omega, h2, h3⟩
    · simp at hx
theorem edg_asc {T M : Int} (hw : wValid T M = true) : ∀ (n : Nat) (p b : Int), isE T M p → (edg T M n p b).Pairwise (fun x y => x + 192 ≤ y)
  | 0, _, _, _ => by simp [edg]
  | n + 1, p, b, hp => by
    rw [edg]
    split
    · obtain ⟨n1, n2, n3, n4, _⟩ := nx_bd hw hp.1
      refine List.pairwise_cons.2 ⟨fun x hx => ?_, edg_asc hw n _ b n3⟩
      have := (edg_mem hw n _ b n3 x hx).1
      have := n4 hp
      omega
    · simp
theorem edg_len {T M : Int} (hw : wValid T M = true) : ∀ (n : Nat) (p b : Int), isE T M p → p ≤ b + 192 → 192 * ((edg T M n p b).length : Int) ≤ b + 192 - p
  | 0, p, b, _, h => by simp [edg]; omega
  | n + 1, p, b, hp, h => by
    rw [edg]
    split
    · obtain ⟨n1, n2, n3, n4, _⟩ := nx_bd hw hp.1
      have h4 := n4 hp
      by_cases h5 : nxA T M p ≤ b + 192
      · have := edg_len hw n _ b n3 h5
        simp only [List.length_cons]
        push_cast
        omega
      · have : edg T M n (nxA T M p) b = [] := by
          cases n with
          | zero => rfl
          | succ n => rw [edg, if_neg (by omega)]
        rw [this]
        simp
        omega
    · simp; omega
theorem eL_spec {T M a b : Int} (hw : wValid T M = true) (ha : 0 ≤ a) : (∀ x ∈ eL T M a b, a + 1 ≤ x ∧ x ≤ b ∧ isE T M x) ∧ (eL T M a b).Pairwise (fun x y => x + 192 ≤ y) ∧ (a ≤ b → 192 * ((eL T M a b).length : Int) ≤ b + 192 - a) := by
  obtain ⟨n1, n2, n3, n4, _⟩ := nx_bd hw ha
  refine ⟨fun x hx => ?_, edg_asc hw 1000 _ b n3, fun hab => ?_⟩
  · obtain ⟨h1, h2, h3⟩ := edg_mem hw 1000 _ b n3 x hx
    exact ⟨by omega, h2, h3⟩
  · unfold eL
    by_cases h : nxA T M a ≤ b + 192
    · have := edg_len hw 1000 _ b n3 h
      omega
    · have : edg T M 1000 (nxA T M a) b = [] := by rw [edg, if_neg (by omega)]
      rw [this]; simp; omega
def crE (v : Bool) (s : Int) (l : List (List Int)) (e : Int) : Int := if v && mValid s l then (if isT e then 0 else 2) else 1
def crP (T M s : Int) (l : List (List Int)) (e : Int) : List Int := if crE (wValid T M) s l e = 0 then eL T M s (posOf s l e) else []
def crT (T M s : Int) (l : List (List Int)) (e : Int) : List Int := (crP T M s l e).map fun p => (tmOf s l p).1
def fewB (s : Int) (l : List (List Int)) (e : Int) : Bool := !decide (mErr s l e = 0) || decide (posOf s l e - s ≤ 92160)
theorem crE_zero {v : Bool} {s : Int} {l : List (List Int)} {e : Int} : crE v s l e = 0 ↔ v = true ∧ mValid s l = true ∧ 0 ≤ e ∧ e ≤ 1099511627776 := by
  unfold crE
  rw [← isT_iff]
  cases v <;> cases mValid s l <;> cases isT e <;> simp
/-- What is known of the crank's positions. -/
theorem cr_facts {T M s : Int} {l : List (List Int)} {e : Int} (h : crE (wValid T M) s l e = 0) (hf : fewB s l e = true) :
    wValid T M = true ∧ mValid s l = true ∧ (0 ≤ e ∧ e ≤ 1099511627776) ∧ (0 ≤ s ∧ s < 46080) ∧ mErr s l e = 0 ∧ posOf s l e = s + way e l / 65536 ∧ s ≤ posOf s l e ∧ posOf s l e ≤ s + 92160 ∧
    ∀ x ∈ eL T M s (posOf s l e), s + 1 ≤ x ∧ x ≤ posOf s l e ∧ (tmOf s l x).2 = 0 ∧ 0 ≤ (tmOf s l x).1 ∧ (tmOf s l x).1 ≤ e := by
  obtain ⟨h1, h2, h3⟩ := crE_zero.1 h
  have hm : mErr s l e = 0 := mErr_zero.2 ⟨h2, h3⟩
  have hp : posOf s l e = s + way e l / 65536 := by unfold posOf; rw [if_pos hm]
  have hs := (mV_iff.1 h2).1
  have hw := way_bd l 0 e (mV_iff.1 h2).2.2 h3.1
  have hf2 : posOf s l e - s ≤ 92160 := by
    unfold fewB at hf
    rw [hm] at hf
    simpa using hf
  refine ⟨h1, h2, h3, hs, hm, hp, by omega, by omega, fun x hx => ?_⟩
  obtain ⟨g1, g2, g3⟩ := (eL_spec (b := posOf s l e) h1 hs.1).1 x hx
  obtain ⟨k1, k2, k3, k4⟩ := tm_key (p := x) h2
  have hmono := way_more l 0 e (1099511627776 - e) (mV_iff.1 h2).2.2 h3.1 (by omega)
  rw [show e + (1099511627776 - e) = 1099511627776 by omega] at hmono
  have h0 : (tmOf s l x).2 = 0 := k3.2 (by omega)
  obtain ⟨m1, m2, m3⟩ := k4 h0
  exact ⟨g1, g2, h0, m1, (m3 e h3.1).1 (by omega)⟩
def stime_res (t : Int) : CRes := ⟨[], .one (.cel (.bool (isT t))), []⟩
def stime_go : List TV → List RowA → List (List CV) → Option CRes := fun args rows caps =>
  match args, rows, caps with
  | [.cel (.int .i64 t)], [], [] => some (stime_res t)
  | _, _, _ => none
def stime_e : Ent := ⟨44, [], stime_go⟩
set_option maxRecDepth 100000 in
theorem stime_tree (t : Int) : ((((decide ((0 : Int) ≤ t)) && (decide (t ≤ (1099511627776 : Int)))) = (isT t))) = EXD Try.prog (conOf []) Try.f44 [.cel (.int .i64 t)] [] [] (stime_res t) := by kernel_rfl
theorem stime_holds (t : Int)  : (((decide ((0 : Int) ≤ t)) && (decide (t ≤ (1099511627776 : Int)))) = (isT t)) := by
  simp [condF, isT]
set_option maxHeartbeats 2000000 in
theorem stime_ok : SoundEnt Try.prog stime_e := by
  refine ent_of_ex (Γ := (conOf [])) (conOf_sound snil) (by kernel_rfl) Try.func44 (by kernel_rfl) (by kernel_rfl) (fun args rows caps res h ho => ?_)
  change stime_go args rows caps = some res at h
  unfold stime_go at h
  split at h
  · simp only [Option.some.injEq] at h
    subst h
    rename_i q0_
    skip
    exact EX.of (stime_tree q0_) (stime_holds q0_)
  · cases h
def crank1_res (a : Int) (b : Int) (T : Int) (M : Int) : CRes := ⟨[isT a && isT b, decide (a ≤ b), decide (b ≤ a + 115200)], .tup [.cel (.row 0), .cel (.int .i64 (if wValid T M then 0 else 1))], [.ints .i64 (if wValid T M then eL T M a b else [])]⟩
def crank1_go : List TV → List RowA → List (List CV) → Option CRes := fun args rows caps =>
  match args, rows, caps with
  | [.cel (.int .i64 a), .cel (.int .i64 b), .cel (.ptr 0 0)], [], [[.int .i64 T, .int .i64 M]] => some (crank1_res a b T M)
  | _, _, _ => none
def crank1_e : Ent := ⟨92, [], crank1_go⟩
set_option maxRecDepth 100000 in
theorem crank1_tree (a : Int) (b : Int) (T : Int) (M : Int) : ((cnd ((isT a) && (isT b))
  (cnd (decide (a ≤ b))
    (cnd (decide (b ≤ (a + (115200 : Int))))
      ((True ∧ ((if ((wValid T M) = Bool.true) then (0 : Int) else (1 : Int)) = (if ((wValid T M) = Bool.true) then (0 : Int) else (1 : Int)))) ∧ (((if ((wValid T M) = Bool.true) then (eL T M a b) else ([] : List Int)) = (if ((wValid T M) = Bool.true) then (eL T M a b) else ([] : List Int))) ∧ True))
      False)
    False)
  False)) = EXD Try.prog (conOf [between_e]) Try.f92 [.cel (.int .i64 a), .cel (.int .i64 b), .cel (.ptr 0 0)] [] [[.int .i64 T, .int .i64 M]] (crank1_res a b T M) := by kernel_rfl
theorem crank1_holds (a : Int) (b : Int) (T : Int) (M : Int) (p0 : (isT a && isT b) = true) (p1 : (decide (a ≤ b)) = true) (p2 : (decide (b ≤ a + 115200)) = true) : (cnd ((isT a) && (isT b))
  (cnd (decide (a ≤ b))
    (cnd (decide (b ≤ (a + (115200 : Int))))
      ((True ∧ ((if ((wValid T M) = Bool.true) then (0 : Int) else (1 : Int)) = (if ((wValid T M) = Bool.true) then (0 : Int) else (1 : Int)))) ∧ (((if ((wValid T M) = Bool.true) then (eL T M a b) else ([] : List Int)) = (if ((wValid T M) = Bool.true) then (eL T M a b) else ([] : List Int))) ∧ True))
      False)
    False)
  False) := by
  rw [p0, p1, p2]
  simp [cnd]
set_option maxHeartbeats 2000000 in
theorem crank1_ok : SoundEnt Try.prog crank1_e := by
  refine ent_of_ex (Γ := (conOf [between_e])) (conOf_sound (scons between_ok snil)) (by kernel_rfl) Try.func92 (by kernel_rfl) (by kernel_rfl) (fun args rows caps res h ho => ?_)
  change crank1_go args rows caps = some res at h
  unfold crank1_go at h
  split at h
  · simp only [Option.some.injEq] at h
    subst h
    rename_i q0_ q1_ q2_ q3_
    obtain ⟨p0, p1, p2, _⟩ := ho
    exact EX.of (crank1_tree q0_ q1_ q2_ q3_) (crank1_holds q0_ q1_ q2_ q3_ p0 p1 p2)
  · cases h
def edgesC_res (v : Bool) (s : Int) (l : List (List Int)) (e : Int) (T : Int) (M : Int) : CRes := ⟨[v == wValid T M, fewB s l e], .tup [.cel (.row 1), .cel (.row 2), .cel (.int .i64 (crE (wValid T M) s l e))], [.ints .i64 (crT T M s l e), .ints .i64 (crP T M s l e)]⟩
def edgesC_go : List TV → List RowA → List (List CV) → Option CRes := fun args rows caps =>
  match args, rows, caps with
  | [.cel (.bool v), .agg [.int .i64 s, .row 0], .cel (.int .i64 e), .cel (.clo 92 [0])], [.recs [.int .i64, .int .i64] l], [[.int .i64 T, .int .i64 M]] => some (edgesC_res v s l e T M)
  | _, _, _ => none
def edgesC_e : Ent := ⟨74, [.recs [.int .i64, .int .i64] []], edgesC_go⟩
def edgesC_L1_F (v : Bool) (s : Int) (l : List (List Int)) (e : Int) (T : Int) (M : Int) (i : Int) (tl : List Int) : St := ⟨74, [], [(54, (.one (.cel (.int .i64 i)))), (53, (.one (.cel (.int .i64 (((List.length (if ((wValid T M) = Bool.true) then (eL T M s (gmin (posOf s l e) (1099511627776 : Int))) else ([] : List Int))) : Nat) : Int))))), (52, (.one (.cel (.row 1)))), (14, (.one (.cel (.row 2)))), (13, (.one (.cel (.row 1)))), (10, (.one (.cel (.int .i64 (0 : Int))))), (9, (.one (.cel .nilS))), (8, (.one (.cel .nilS))), (5, (.one (.cel (.ptr 1 0))))], [[(.int .i64 T), (.int .i64 M)], [(.int .i64 s), (.row 0)]], [⟨(.recs [.int .i64, .int .i64] l), none⟩, ⟨(.ints .i64 (if ((wValid T M) = Bool.true) then (eL T M s (gmin (posOf s l e) (1099511627776 : Int))) else ([] : List Int))), none⟩, ⟨(.ints .i64 tl), some 3⟩], 1⟩
def edgesC_L1_I (v : Bool) (s : Int) (l : List (List Int)) (e : Int) (T : Int) (M : Int) (i : Int) (tl : List Int) : Prop := (crE (wValid T M) s l e = 0) ∧ (0 ≤ i ∧ i ≤ (eL T M s (posOf s l e)).length) ∧ (tl = ((eL T M s (posOf s l e)).take i.toNat).map fun p => (tmOf s l p).1)
def edgesC_L1_m (v : Bool) (s : Int) (l : List (List Int)) (e : Int) (T : Int) (M : Int) (i : Int) (tl : List Int) : Nat := ((eL T M s (posOf s l e)).length - i).toNat
def edgesC_L1_N (v : Bool) (s : Int) (l : List (List Int)) (e : Int) (T : Int) (M : Int) (i' : Int) (tl' : List Int) (st_ : St) : Prop := getI st_ 54 fun i => getR st_ 14 fun tl => edgesC_L1_I v s l e T M i tl ∧ edgesC_L1_m v s l e T M i tl < edgesC_L1_m v s l e T M i' tl' ∧ SubA st_ (edgesC_L1_F v s l e T M i tl)
def edgesC_L1_E (v : Bool) (s : Int) (l : List (List Int)) (e : Int) (T : Int) (M : Int) (st_ : St) : Prop := getI st_ 54 fun i => getR st_ 14 fun tl => edgesC_L1_I v s l e T M i tl ∧ SubA st_ (edgesC_L1_F v s l e T M i tl)
def edgesC_L1_S1 (v : Bool) (s : Int) (l : List (List Int)) (e : Int) (T : Int) (M : Int) : St := ⟨74, [22], [(54, (.one (.cel (.int .i64 (0 : Int))))), (53, (.one (.cel (.int .i64 (((List.length (if ((wValid T M) = Bool.true) then (eL T M s (gmin (posOf s l e) (1099511627776 : Int))) else ([] : List Int))) : Nat) : Int))))), (52, (.one (.cel (.row 1)))), (14, (.one (.cel .nilS))), (50, (.one (.cel (.bool (!(decide ((if ((wValid T M) = Bool.true) then (0 : Int) else (1 : Int)) = (0 : Int)))))))), (49, (.one (.cel (.int .i64 (if ((wValid T M) = Bool.true) then (0 : Int) else (1 : Int)))))), (12, (.one (.cel (.int .i64 (if ((wValid T M) = Bool.true) then (0 : Int) else (1 : Int)))))), (13, (.one (.cel (.row 1)))), (48, (.one (.cel (.int .i64 (if ((wValid T M) = Bool.true) then (0 : Int) else (1 : Int)))))), (47, (.one (.cel (.row 1)))), (40, (.tup [(.cel (.row 1)), (.cel (.int .i64 (if ((wValid T M) = Bool.true) then (0 : Int) else (1 : Int))))])), (46, (.tup [(.cel (.row 1)), (.cel (.int .i64 (if ((wValid T M) = Bool.true) then (0 : Int) else (1 : Int))))])), (45, (.one (.cel (.int .i64 (gmin (posOf s l e) (1099511627776 : Int)))))), (44, (.one (.cel (.int .i64 (posOf s l e))))), (43, (.one (.cel (.int .i64 s)))), (42, (.one (.cel (.ptr 1 0)))), (41, (.one (.cel (.clo 92 [0])))), (38, (.one (.cel (.bool (!(decide ((mErr s l e) = (0 : Int)))))))), (37, (.one (.cel (.int .i64 (mErr s l e))))), (12, (.one (.cel (.int .i64 (mErr s l e))))), (11, (.one (.cel (.int .i64 (posOf s l e))))), (36, (.one (.cel (.int .i64 (mErr s l e))))), (35, (.one (.cel (.int .i64 (posOf s l e))))), (31, (.tup [(.cel (.int .i64 (posOf s l e))), (.cel (.int .i64 (mErr s l e)))])), (34, (.tup [(.cel (.int .i64 (posOf s l e))), (.cel (.int .i64 (mErr s l e)))])), (33, (.one (.cel (.int .i64 e)))), (32, (.one (.agg [(.int .i64 s), (.row 0)]))), (27, (.one (.cel (.bool (!(isT e)))))), (30, (.one (.cel (.bool (!(isT e)))))), (29, (.one (.cel (.bool (isT e))))), (28, (.one (.cel (.int .i64 e)))), (19, (.one (.cel (.bool ((!v) || (!(mValid s l))))))), (26, (.one (.cel (.bool ((!v) || (!(mValid s l))))))), (25, (.spec 22 Bool.false (.cel (.bool (!(mValid s l)))))), (24, (.spec 22 Bool.false (.cel (.bool (mValid s l))))), (23, (.spec 22 Bool.false (.agg [(.int .i64 s), (.row 0)]))), (22, (.one (.cel (.bool (!v))))), (21, (.one (.cel (.bool (!v))))), (20, (.one (.cel (.bool v)))), (10, (.one (.cel (.int .i64 (0 : Int))))), (9, (.one (.cel .nilS))), (8, (.one (.cel .nilS))), (5, (.one (.cel (.ptr 1 0)))), (0, (.one (.cel (.bool v)))), (1, (.one (.agg [(.int .i64 s), (.row 0)]))), (2, (.one (.cel (.int .i64 e)))), (3, (.one (.cel (.clo 92 [0]))))], [[(.int .i64 T), (.int .i64 M)], [(.int .i64 s), (.row 0)]], [⟨(.recs [.int .i64, .int .i64] l), none⟩, ⟨(.ints .i64 (if ((wValid T M) = Bool.true) then (eL T M s (gmin (posOf s l e) (1099511627776 : Int))) else ([] : List Int))), none⟩], 1⟩
def edgesC_L1_T (v : Bool) (s : Int) (l : List (List Int)) (e : Int) (T : Int) (M : Int) (i : Int) (tl : List Int) : Prop := (cnd (decide (i < (((List.length (if ((wValid T M) = Bool.true) then (eL T M s (gmin (posOf s l e) (1099511627776 : Int))) else ([] : List Int))) : Nat) : Int)))
  (cnd (decide ((0 : Int) ≤ i))
    (cnd (decide (i < (((List.length (if ((wValid T M) = Bool.true) then (eL T M s (gmin (posOf s l e) (1099511627776 : Int))) else ([] : List Int))) : Nat) : Int)))
      (cnd (wfI Go.IntKind.i64 (List.getD (if ((wValid T M) = Bool.true) then (eL T M s (gmin (posOf s l e) (1099511627776 : Int))) else ([] : List Int)) (Int.toNat i) (0 : Int)))
        (cnd (!(decide ((Prod.snd (tmOf s l (List.getD (if ((wValid T M) = Bool.true) then (eL T M s (gmin (posOf s l e) (1099511627776 : Int))) else ([] : List Int)) (Int.toNat i) (0 : Int)))) = (0 : Int))))
          ((True ∧ (True ∧ ((Prod.snd (tmOf s l (List.getD (if ((wValid T M) = Bool.true) then (eL T M s (gmin (posOf s l e) (1099511627776 : Int))) else ([] : List Int)) (Int.toNat i) (0 : Int)))) = (crE (wValid T M) s l e)))) ∧ (((crT T M s l e) = ([] : List Int)) ∧ (((crP T M s l e) = ([] : List Int)) ∧ True)))
          (cnd (decide ((List.length (tl ++ [(Prod.fst (tmOf s l (List.getD (if ((wValid T M) = Bool.true) then (eL T M s (gmin (posOf s l e) (1099511627776 : Int))) else ([] : List Int)) (Int.toNat i) (0 : Int))))])) ≤ 4294967296))
            ((edgesC_L1_I v s l e T M (Go.IntKind.wrap Go.IntKind.i64 (i + (1 : Int))) (tl ++ [(Prod.fst (tmOf s l (List.getD (if ((wValid T M) = Bool.true) then (eL T M s (gmin (posOf s l e) (1099511627776 : Int))) else ([] : List Int)) (Int.toNat i) (0 : Int))))])) ∧ (((edgesC_L1_m v s l e T M (Go.IntKind.wrap Go.IntKind.i64 (i + (1 : Int))) (tl ++ [(Prod.fst (tmOf s l (List.getD (if ((wValid T M) = Bool.true) then (eL T M s (gmin (posOf s l e) (1099511627776 : Int))) else ([] : List Int)) (Int.toNat i) (0 : Int))))])) < (edgesC_L1_m v s l e T M i tl)) ∧ (((Go.IntKind.wrap Go.IntKind.i64 (i + (1 : Int))) = (Go.IntKind.wrap Go.IntKind.i64 (i + (1 : Int)))) ∧ (((((List.length (if ((wValid T M) = Bool.true) then (eL T M s (gmin (posOf s l e) (1099511627776 : Int))) else ([] : List Int))) : Nat) : Int) = (((List.length (if ((wValid T M) = Bool.true) then (eL T M s (gmin (posOf s l e) (1099511627776 : Int))) else ([] : List Int))) : Nat) : Int)) ∧ (True ∧ (True ∧ (True ∧ (((0 : Int) = (0 : Int)) ∧ (True ∧ (True ∧ (True ∧ (((T = T) ∧ (M = M)) ∧ (((s = s) ∧ True) ∧ ((l = l) ∧ (((if ((wValid T M) = Bool.true) then (eL T M s (gmin (posOf s l e) (1099511627776 : Int))) else ([] : List Int)) = (if ((wValid T M) = Bool.true) then (eL T M s (gmin (posOf s l e) (1099511627776 : Int))) else ([] : List Int))) ∧ (((tl ++ [(Prod.fst (tmOf s l (List.getD (if ((wValid T M) = Bool.true) then (eL T M s (gmin (posOf s l e) (1099511627776 : Int))) else ([] : List Int)) (Int.toNat i) (0 : Int))))]) = (tl ++ [(Prod.fst (tmOf s l (List.getD (if ((wValid T M) = Bool.true) then (eL T M s (gmin (posOf s l e) (1099511627776 : Int))) else ([] : List Int)) (Int.toNat i) (0 : Int))))])) ∧ True))))))))))))))))
            False))
        False)
      False)
    False)
  ((True ∧ (True ∧ ((0 : Int) = (crE (wValid T M) s l e)))) ∧ ((tl = (crT T M s l e)) ∧ (((if ((wValid T M) = Bool.true) then (eL T M s (gmin (posOf s l e) (1099511627776 : Int))) else ([] : List Int)) = (crP T M s l e)) ∧ True))))
set_option maxRecDepth 100000 in
theorem edgesC_L1_tree (v : Bool) (s : Int) (l : List (List Int)) (e : Int) (T : Int) (M : Int) (i : Int) (tl : List Int) : edgesC_L1_T v s l e T M i tl = ex Try.prog (conOf [valid_e, stime_e, position_e, mtime_e, crank1_e]) (subC (bodyOf Try.f74) [1, 1, 1, 1, 1, 1, 1, 0, 1, 0, 0]) (nextE (edgesC_L1_N v s l e T M i tl) (kont Try.prog (conOf [valid_e, stime_e, position_e, mtime_e, crank1_e]) (bodyOf Try.f74) [1, 1, 1, 1, 1, 1, 1, 0, 1, 0] (retPost Try.prog Try.f74 1 (edgesC_res v s l e T M)))) (edgesC_L1_F v s l e T M i tl) := by kernel_rfl
set_option maxRecDepth 100000 in
theorem edgesC_L1_round (v : Bool) (s : Int) (l : List (List Int)) (e : Int) (T : Int) (M : Int) (i : Int) (tl : List Int) (p0 : (v == wValid T M) = true) (p1 : (fewB s l e) = true) (hI_L1 : edgesC_L1_I v s l e T M i tl) : edgesC_L1_T v s l e T M i tl := by
  obtain ⟨a0, ⟨a1, a2⟩, a3⟩ := hI_L1
  obtain ⟨f1, f2, f3, f4, f5, f6, f7, f8, f9⟩ := cr_facts a0 p1
  obtain ⟨_, _, e3⟩ := eL_spec (b := posOf s l e) f1 f4.1
  have e3 := e3 f7
  unfold edgesC_L1_T
  have hgm : gmin (posOf s l e) 1099511627776 = posOf s l e := by unfold gmin; rw [if_neg (by omega)]
  simp only [hgm, f1, if_true]
  have hP : crP T M s l e = eL T M s (posOf s l e) := by unfold crP; rw [if_pos a0]
  have hT : crT T M s l e = (eL T M s (posOf s l e)).map fun p => (tmOf s l p).1 := by unfold crT; rw [hP]
  have hF : ∀ (i' : Int) (tl' : List Int), 0 ≤ i' ∧ i' ≤ (eL T M s (posOf s l e)).length → tl' = ((eL T M s (posOf s l e)).take i'.toNat).map (fun p => (tmOf s l p).1) → edgesC_L1_I v s l e T M i' tl' := fun i' tl' h1 h2 => ⟨a0, h1, h2⟩
  have hμ : ∀ tl', i < (eL T M s (posOf s l e)).length → edgesC_L1_m v s l e T M (i + 1) tl' < edgesC_L1_m v s l e T M i tl := fun tl' h => by unfold edgesC_L1_m; omega
  rw [f1] at a0
  rw [hP, hT, a0]
  have hlt : tl.length = i.toNat := by rw [a3, List.length_map, List.length_take]; omega
  generalize eL T M s (posOf s l e) = P at *
  by_cases hi : i < P.length
  · have hx : P.getD i.toNat 0 ∈ P := by
      rw [List.getD_eq_getElem?_getD, List.getElem?_eq_getElem (by omega)]
      exact List.getElem_mem (by omega)
    obtain ⟨g1, g2, g3, g4, g5⟩ := f9 _ hx
    have hwf : wfI .i64 (P.getD i.toNat 0) = true := wfI64.2 (by omega)
    have hlen : ∀ r : Int, (tl ++ [r]).length = tl.length + 1 := fun r => by simp
    rw [decide_eq_true hi, decide_eq_true a1, hwf, g3, decide_eq_true (show (tl ++ [(tmOf s l (P.getD i.toNat 0)).1]).length ≤ 4294967296 by rw [hlen]; omega), w64 (n := i + 1) (by omega) (by omega)]
    refine ⟨hF _ _ ⟨by omega, by omega⟩ ?_, hμ _ hi, by simp⟩
    · rw [show (i + 1).toNat = i.toNat + 1 by omega, List.take_add_one, List.getElem?_eq_getElem (by omega), List.map_append, ← a3, List.getD_eq_getElem?_getD, List.getElem?_eq_getElem (by omega)]
      rfl
  · rw [decide_eq_false hi]
    rw [List.take_of_length_le (by omega)] at a3
    exact ⟨⟨trivial, trivial, rfl⟩, a3, rfl, trivial⟩
set_option maxRecDepth 100000 in
theorem edgesC_L1_entry1 (v : Bool) (s : Int) (l : List (List Int)) (e : Int) (T : Int) (M : Int) : (((edgesC_L1_I v s l e T M (0 : Int) ([] : List Int)) ∧ (((0 : Int) = (0 : Int)) ∧ (((((List.length (if ((wValid T M) = Bool.true) then (eL T M s (gmin (posOf s l e) (1099511627776 : Int))) else ([] : List Int))) : Nat) : Int) = (((List.length (if ((wValid T M) = Bool.true) then (eL T M s (gmin (posOf s l e) (1099511627776 : Int))) else ([] : List Int))) : Nat) : Int)) ∧ (True ∧ (True ∧ (True ∧ (((0 : Int) = (0 : Int)) ∧ (True ∧ (True ∧ (True ∧ (((T = T) ∧ (M = M)) ∧ (((s = s) ∧ True) ∧ ((l = l) ∧ (((if ((wValid T M) = Bool.true) then (eL T M s (gmin (posOf s l e) (1099511627776 : Int))) else ([] : List Int)) = (if ((wValid T M) = Bool.true) then (eL T M s (gmin (posOf s l e) (1099511627776 : Int))) else ([] : List Int))) ∧ ((([] : List Int) = ([] : List Int)) ∧ True)))))))))))))))) = edgesC_L1_E v s l e T M (edgesC_L1_S1 v s l e T M) := by kernel_rfl
theorem edgesC_L1_1 (v : Bool) (s : Int) (l : List (List Int)) (e : Int) (T : Int) (M : Int) (p0 : (v == wValid T M) = true) (p1 : (fewB s l e) = true) (h : ((edgesC_L1_I v s l e T M (0 : Int) ([] : List Int)) ∧ (((0 : Int) = (0 : Int)) ∧ (((((List.length (if ((wValid T M) = Bool.true) then (eL T M s (gmin (posOf s l e) (1099511627776 : Int))) else ([] : List Int))) : Nat) : Int) = (((List.length (if ((wValid T M) = Bool.true) then (eL T M s (gmin (posOf s l e) (1099511627776 : Int))) else ([] : List Int))) : Nat) : Int)) ∧ (True ∧ (True ∧ (True ∧ (((0 : Int) = (0 : Int)) ∧ (True ∧ (True ∧ (True ∧ (((T = T) ∧ (M = M)) ∧ (((s = s) ∧ True) ∧ ((l = l) ∧ (((if ((wValid T M) = Bool.true) then (eL T M s (gmin (posOf s l e) (1099511627776 : Int))) else ([] : List Int)) = (if ((wValid T M) = Bool.true) then (eL T M s (gmin (posOf s l e) (1099511627776 : Int))) else ([] : List Int))) ∧ ((([] : List Int) = ([] : List Int)) ∧ True)))))))))))))))) : LoopP (ex Try.prog (conOf [valid_e, stime_e, position_e, mtime_e, crank1_e]) (subC (bodyOf Try.f74) [1, 1, 1, 1, 1, 1, 1, 0, 1, 0, 0])) (kont Try.prog (conOf [valid_e, stime_e, position_e, mtime_e, crank1_e]) (bodyOf Try.f74) [1, 1, 1, 1, 1, 1, 1, 0, 1, 0] (retPost Try.prog Try.f74 1 (edgesC_res v s l e T M))) (edgesC_L1_S1 v s l e T M) := by
  have hE : edgesC_L1_E v s l e T M (edgesC_L1_S1 v s l e T M) := Eq.mp (edgesC_L1_entry1 v s l e T M) h
  unfold edgesC_L1_E at hE
  obtain ⟨i, hE⟩ := getI_of hE
  obtain ⟨tl, hE⟩ := getR_of hE
  refine loop_of (α := (Int) × (List Int)) (fun xx_ => edgesC_L1_F v s l e T M xx_.1 xx_.2) (fun xx_ => edgesC_L1_I v s l e T M xx_.1 xx_.2) (fun xx_ => edgesC_L1_m v s l e T M xx_.1 xx_.2) (fun xx_ => edgesC_L1_N v s l e T M xx_.1 xx_.2) (fun xx_ => edgesC_L1_T v s l e T M xx_.1 xx_.2) (fun xx_ s_ h => ?_) ⟨⟨i, tl⟩, hE⟩ (fun xx_ => edgesC_L1_tree v s l e T M xx_.1 xx_.2) (fun xx_ hI => edgesC_L1_round v s l e T M xx_.1 xx_.2 p0 p1 hI)
  unfold edgesC_L1_N at h
  obtain ⟨i, h⟩ := getI_of h
  obtain ⟨tl, h⟩ := getR_of h
  exact ⟨⟨i, tl⟩, h⟩
set_option maxRecDepth 100000 in
theorem edgesC_tree (v : Bool) (s : Int) (l : List (List Int)) (e : Int) (T : Int) (M : Int) : ((cnd ((!v) || (!(mValid s l)))
  ((True ∧ (True ∧ ((1 : Int) = (crE (wValid T M) s l e)))) ∧ (((crT T M s l e) = ([] : List Int)) ∧ (((crP T M s l e) = ([] : List Int)) ∧ True)))
  (cnd (!(isT e))
    ((True ∧ (True ∧ ((2 : Int) = (crE (wValid T M) s l e)))) ∧ (((crT T M s l e) = ([] : List Int)) ∧ (((crP T M s l e) = ([] : List Int)) ∧ True)))
    (cnd (!(decide ((mErr s l e) = (0 : Int))))
      ((True ∧ (True ∧ ((mErr s l e) = (crE (wValid T M) s l e)))) ∧ (((crT T M s l e) = ([] : List Int)) ∧ (((crP T M s l e) = ([] : List Int)) ∧ True)))
      (cnd ((isT s) && (isT (gmin (posOf s l e) (1099511627776 : Int))))
        (cnd (decide (s ≤ (gmin (posOf s l e) (1099511627776 : Int))))
          (cnd (decide ((gmin (posOf s l e) (1099511627776 : Int)) ≤ (s + (115200 : Int))))
            (cnd (!(decide ((if ((wValid T M) = Bool.true) then (0 : Int) else (1 : Int)) = (0 : Int))))
              ((True ∧ (True ∧ ((if ((wValid T M) = Bool.true) then (0 : Int) else (1 : Int)) = (crE (wValid T M) s l e)))) ∧ (((crT T M s l e) = ([] : List Int)) ∧ (((crP T M s l e) = ([] : List Int)) ∧ True)))
              (LoopP (ex Try.prog (conOf [valid_e, stime_e, position_e, mtime_e, crank1_e]) (subC (bodyOf Try.f74) [1, 1, 1, 1, 1, 1, 1, 0, 1, 0, 0])) (kont Try.prog (conOf [valid_e, stime_e, position_e, mtime_e, crank1_e]) (bodyOf Try.f74) [1, 1, 1, 1, 1, 1, 1, 0, 1, 0] (retPost Try.prog Try.f74 1 (edgesC_res v s l e T M))) (edgesC_L1_S1 v s l e T M)))
            False)
          False)
        False))))) = EXD Try.prog (conOf [valid_e, stime_e, position_e, mtime_e, crank1_e]) Try.f74 [.cel (.bool v), .agg [.int .i64 s, .row 0], .cel (.int .i64 e), .cel (.clo 92 [0])] [.recs [.int .i64, .int .i64] l] [[.int .i64 T, .int .i64 M]] (edgesC_res v s l e T M) := by kernel_rfl
theorem edgesC_holds (v : Bool) (s : Int) (l : List (List Int)) (e : Int) (T : Int) (M : Int) (p0 : (v == wValid T M) = true) (p1 : (fewB s l e) = true) : (cnd ((!v) || (!(mValid s l)))
  ((True ∧ (True ∧ ((1 : Int) = (crE (wValid T M) s l e)))) ∧ (((crT T M s l e) = ([] : List Int)) ∧ (((crP T M s l e) = ([] : List Int)) ∧ True)))
  (cnd (!(isT e))
    ((True ∧ (True ∧ ((2 : Int) = (crE (wValid T M) s l e)))) ∧ (((crT T M s l e) = ([] : List Int)) ∧ (((crP T M s l e) = ([] : List Int)) ∧ True)))
    (cnd (!(decide ((mErr s l e) = (0 : Int))))
      ((True ∧ (True ∧ ((mErr s l e) = (crE (wValid T M) s l e)))) ∧ (((crT T M s l e) = ([] : List Int)) ∧ (((crP T M s l e) = ([] : List Int)) ∧ True)))
      (cnd ((isT s) && (isT (gmin (posOf s l e) (1099511627776 : Int))))
        (cnd (decide (s ≤ (gmin (posOf s l e) (1099511627776 : Int))))
          (cnd (decide ((gmin (posOf s l e) (1099511627776 : Int)) ≤ (s + (115200 : Int))))
            (cnd (!(decide ((if ((wValid T M) = Bool.true) then (0 : Int) else (1 : Int)) = (0 : Int))))
              ((True ∧ (True ∧ ((if ((wValid T M) = Bool.true) then (0 : Int) else (1 : Int)) = (crE (wValid T M) s l e)))) ∧ (((crT T M s l e) = ([] : List Int)) ∧ (((crP T M s l e) = ([] : List Int)) ∧ True)))
              (LoopP (ex Try.prog (conOf [valid_e, stime_e, position_e, mtime_e, crank1_e]) (subC (bodyOf Try.f74) [1, 1, 1, 1, 1, 1, 1, 0, 1, 0, 0])) (kont Try.prog (conOf [valid_e, stime_e, position_e, mtime_e, crank1_e]) (bodyOf Try.f74) [1, 1, 1, 1, 1, 1, 1, 0, 1, 0] (retPost Try.prog Try.f74 1 (edgesC_res v s l e T M))) (edgesC_L1_S1 v s l e T M)))
            False)
          False)
        False)))) := by
  have hv : v = wValid T M := by simpa using p0
  cases hz : decide (crE (wValid T M) s l e = 0) with
  | true =>
    have hz : crE (wValid T M) s l e = 0 := by simpa using hz
    obtain ⟨f1, f2, f3, f4, f5, f6, f7, f8, f9⟩ := cr_facts hz p1
    have hgm : gmin (posOf s l e) 1099511627776 = posOf s l e := by unfold gmin; rw [if_neg (by omega)]
    have hT1 : (isT s && isT (gmin (posOf s l e) 1099511627776)) = true := by
      rw [hgm, isT_iff.2 (show 0 ≤ s ∧ s ≤ 1099511627776 by omega), isT_iff.2 (show 0 ≤ posOf s l e ∧ posOf s l e ≤ 1099511627776 by omega)]; rfl
    refine cnd_i (fun h => by rw [hv, f1, f2] at h; cases h) (fun _ => ?_)
    refine cnd_i (fun h => by rw [isT_iff.2 f3] at h; cases h) (fun _ => ?_)
    refine cnd_i (fun h => by rw [f5] at h; simp at h) (fun _ => ?_)
    refine cnd_i (fun _ => ?_) (fun h => by rw [hT1] at h; cases h)
    refine cnd_i (fun _ => ?_) (fun h => by rw [hgm, decide_eq_true f7] at h; cases h)
    refine cnd_i (fun _ => ?_) (fun h => by rw [hgm, decide_eq_true (show posOf s l e ≤ s + 115200 by omega)] at h; cases h)
    refine cnd_i (fun h => by simp [f1] at h) (fun _ => ?_)
    exact edgesC_L1_1 v s l e T M p0 p1 ⟨⟨hz, ⟨by omega, by omega⟩, by simp⟩, by simp⟩
  | false =>
    have hz : ¬ crE (wValid T M) s l e = 0 := by simpa using hz
    have hP : crP T M s l e = [] := by unfold crP; rw [if_neg hz]
    have hT : crT T M s l e = [] := by unfold crT; rw [hP]; rfl
    rw [hP, hT, hv]
    unfold crE at hz ⊢
    cases h1 : wValid T M with
    | false => simp [cnd]
    | true =>
      cases h2 : mValid s l with
      | false => simp [cnd]
      | true =>
        cases h3 : isT e with
        | false => simp [cnd]
        | true => simp [h1, h2, h3] at hz
set_option maxHeartbeats 2000000 in
theorem edgesC_ok : SoundEnt Try.prog edgesC_e := by
  refine ent_of_ex (Γ := (conOf [valid_e, stime_e, position_e, mtime_e, crank1_e])) (conOf_sound (scons valid_ok (scons stime_ok (scons position_ok (scons mtime_ok (scons crank1_ok snil)))))) (by kernel_rfl) Try.func74 (by kernel_rfl) (by kernel_rfl) (fun args rows caps res h ho => ?_)
  change edgesC_go args rows caps = some res at h
  unfold edgesC_go at h
  split at h
  · simp only [Option.some.injEq] at h
    subst h
    rename_i q0_ q1_ q3_ q2_ q4_ q5_
    obtain ⟨p0, p1, _⟩ := ho
    exact EX.of (edgesC_tree q0_ q1_ q2_ q3_ q4_ q5_) (edgesC_holds q0_ q1_ q2_ q3_ q4_ q5_ p0 p1)
  · cases h
end Go.Proofs.Ythfliohfkhnpiaa

