/- The law of sets. -/
import Derived.Test.YthfliohfkhnpiaaJn
import Derived.Test.YthfliohfkhnpiaaJm
namespace Go.Proofs.Ythfliohfkhnpiaa
set_option linter.unusedVariables false
set_option linter.unusedSimpArgs false
open Go.RowKit

/-- The number of elements ahead of a time. -/
def bsN : List Int → Int → Nat
  | [], _ => 0
  | y :: l, x => if y < x then bsN l x + 1 else 0
theorem bsN_bd : ∀ (l : List Int) (x : Int), bsN l x ≤ l.length ∧ (∀ j, j < bsN l x → l.getD j 0 < x) ∧ (bsN l x < l.length → x ≤ l.getD (bsN l x) 0)
  | [], x => by simp [bsN]
  | y :: l, x => by
    obtain ⟨h1, h2, h3⟩ := bsN_bd l x
    rw [bsN]
    by_cases h : y < x
    · rw [if_pos h]
      refine ⟨by simp; omega, fun j hj => ?_, fun hl => ?_⟩
      · cases j with
        | zero => simpa using h
        | succ j => rw [List.getD_cons_succ]; exact h2 j (by omega)
      · rw [List.getD_cons_succ]; exact h3 (by simpa using hl)
    · rw [if_neg h]
      refine ⟨by omega, fun j hj => by omega, fun _ => ?_⟩
      rw [List.getD_cons_zero]; omega
theorem bsN_is {l : List Int} {x : Int} {a : Nat} (h0 : a ≤ l.length) (h1 : ∀ j, j < a → l.getD j 0 < x) (h2 : a < l.length → x ≤ l.getD a 0) : a = bsN l x := by
  obtain ⟨g1, g2, g3⟩ := bsN_bd l x
  rcases Nat.lt_trichotomy a (bsN l x) with h | h | h
  · have := g2 a h; have := h2 (by omega); omega
  · exact h
  · have := h1 _ h; have := g3 (by omega); omega
def bsF (l : List Int) (x : Int) : Bool := decide (bsN l x < l.length) && decide (l.getD (bsN l x) 0 = x)
theorem hasV_iff {v : Int} : ∀ {l : List Int}, hasV v l = true ↔ v ∈ l
  | [] => by simp [hasV, ixOf]
  | x :: l => by
    rw [hasV_cons, Bool.or_eq_true, hasV_iff (l := l), List.mem_cons, decide_eq_true_eq]
    constructor
    · rintro (h | h)
      · exact .inl h.symm
      · exact .inr h
    · rintro (h | h)
      · exact .inl h.symm
      · exact .inr h
theorem kpt_mem {j d : List Int} : ∀ (l : List Int) (i x : Int), x ∈ kpt j d i l ↔ ∃ n : Nat, n < l.length ∧ hasV (i + n) d = false ∧ x = l.getD n 0 + mvd j (i + n)
  | [], i, x => by simp [kpt]
  | t :: l, i, x => by
    have ih := kpt_mem (j := j) (d := d) l (i + 1) x
    have hz : i + ((0 : Nat) : Int) = i := by omega
    have hs : ∀ n : Nat, i + ((n + 1 : Nat) : Int) = i + 1 + n := fun n => by omega
    have hsucc : (∃ n : Nat, n < l.length ∧ hasV (i + 1 + n) d = false ∧ x = l.getD n 0 + mvd j (i + 1 + n)) → ∃ n : Nat, n < (t :: l).length ∧ hasV (i + n) d = false ∧ x = (t :: l).getD n 0 + mvd j (i + n) := by
      rintro ⟨n, h1, h2, h3⟩
      exact ⟨n + 1, by simp; omega, by rw [hs]; exact h2, by rw [hs, List.getD_cons_succ]; exact h3⟩
    have hback : ∀ n : Nat, n + 1 < (t :: l).length → hasV (i + ((n + 1 : Nat) : Int)) d = false → x = (t :: l).getD (n + 1) 0 + mvd j (i + ((n + 1 : Nat) : Int)) → ∃ n : Nat, n < l.length ∧ hasV (i + 1 + n) d = false ∧ x = l.getD n 0 + mvd j (i + 1 + n) := by
      intro n h1 h2 h3
      rw [hs] at h2 h3
      rw [List.getD_cons_succ] at h3
      exact ⟨n, by simpa using h1, h2, h3⟩
    rw [kpt]
    cases hv : hasV i d with
    | true =>
      rw [if_pos rfl, ih]
      constructor
      · exact hsucc
      · rintro ⟨n, h1, h2, h3⟩
        cases n with
        | zero => rw [hz, hv] at h2; cases h2
        | succ n => exact hback n h1 h2 h3
    | false =>
      rw [if_neg (by decide), List.mem_cons, ih]
      constructor
      · rintro (h | h)
        · exact ⟨0, by simp, by rw [hz]; exact hv, by rw [hz]; simpa using h⟩
        · exact hsucc h
      · rintro ⟨n, h1, h2, h3⟩
        cases n with
        | zero => rw [hz] at h3; exact .inl (by simpa using h3)
        | succ n => exact .inr (hback n h1 h2 h3)
theorem ap_zero {l j d u : List Int} (h : apE l j d u = 0) : vE l = true ∧ lngB j d u = false ∧ badN l j d = false ∧ (rawL l j d u).all isT = true ∧ apL l j d u = nrm (rawL l j d u) ∧ (nrm (rawL l j d u)).length ≤ 1000 := by
  have hL : apL l j d u = nrm (rawL l j d u) := by unfold apL; rw [if_pos h]
  unfold apE at h
  cases w1 : vE l with
  | false => rw [w1] at h; simp at h
  | true =>
    rw [w1, if_pos rfl] at h
    cases w2 : lngB j d u with
    | true => rw [w2] at h; simp at h
    | false =>
      rw [w2] at h
      cases w3 : badN l j d with
      | true => rw [w3] at h; simp at h
      | false =>
        rw [w3] at h
        cases w4 : (rawL l j d u).all isT with
        | false => rw [w4] at h; simp at h
        | true =>
          rw [w4] at h
          simp only [Bool.false_eq_true, if_false, if_true] at h
          refine ⟨rfl, rfl, rfl, rfl, hL, ?_⟩
          split at h
          · omega
          · omega
theorem apE_or {l j d u : List Int} (h : vE l = true) : apE l j d u = 0 ∨ apE l j d u = 2 ∨ apE l j d u = 5 := by
  unfold apE
  rw [if_pos h]
  split
  · simp
  · split
    · simp
    · split
      · split <;> simp
      · simp
theorem apL_mem {l j d u : List Int} (h : apE l j d u = 0) (x : Int) : x ∈ apL l j d u ↔ (∃ n : Nat, n < l.length ∧ hasV (n : Int) d = false ∧ x = l.getD n 0 + mvd j (n : Int)) ∨ x ∈ u := by
  obtain ⟨_, _, _, _, h5, _⟩ := ap_zero h
  rw [h5, nrm_mem]
  unfold rawL
  rw [List.mem_append, kpt_mem]
  simp only [Int.zero_add]
theorem apL_vE {l j d u : List Int} (h : apE l j d u = 0) : vE (apL l j d u) = true := by
  obtain ⟨_, _, _, h4, h5, h6⟩ := ap_zero h
  rw [h5]
  refine vE_iff.2 ⟨by omega, ?_, incr_of (nrm_asc _)⟩
  rw [List.all_eq_true] at h4 ⊢
  exact fun x hx => h4 x ((nrm_mem _ x).1 hx)
theorem foldl_ins_len : ∀ (l o : List Int), (l.foldl ins o).length ≤ o.length + l.length
  | [], o => by simp
  | x :: l, o => by
    have h1 := foldl_ins_len l (ins o x)
    have h2 := ins_len o x
    rw [List.foldl_cons, List.length_cons]
    omega
theorem nrm_len (l : List Int) : (nrm l).length ≤ l.length := by
  have := foldl_ins_len l []
  unfold nrm
  simpa using this
theorem nrm_self {l : List Int} (h : incr l = true) : nrm l = l := asc_ext (nrm_asc l) (incr_pw h) (nrm_mem l)
theorem mvd_nil (i : Int) : mvd [] i = 0 := rfl
theorem kpt_nil : ∀ (l : List Int) (i : Int), kpt [] [] i l = l
  | [], i => rfl
  | t :: l, i => by
    rw [kpt, if_neg (by simp [hasV, ixOf]), kpt_nil l, mvd_nil, Int.add_zero]
theorem getD_ofmem {l : List Int} {x : Int} (h : x ∈ l) : ∃ n, n < l.length ∧ l.getD n 0 = x := by
  obtain ⟨n, hn, e⟩ := List.mem_iff_getElem.1 h
  exact ⟨n, hn, by rw [List.getD_eq_getElem?_getD, List.getElem?_eq_getElem hn]; exact e⟩
theorem memD {l : List Int} {n : Nat} (h : n < l.length) : l.getD n 0 ∈ l := by
  rw [List.getD_eq_getElem?_getD, List.getElem?_eq_getElem h]
  exact List.getElem_mem h
/-- In an ascending list an element's number is the number of those ahead of it. -/
theorem bsN_at {l : List Int} (h : incr l = true) {n : Nat} (hn : n < l.length) : bsN l (l.getD n 0) = n :=
  (bsN_is (a := n) (by omega) (fun j hj => incr_lt h hj hn) (fun _ => Int.le_refl _)).symm
theorem bsF_at {l : List Int} (h : incr l = true) {n : Nat} (hn : n < l.length) : bsF l (l.getD n 0) = true := by
  unfold bsF
  rw [bsN_at h hn, decide_eq_true hn, decide_eq_true rfl]
  rfl
def cless_res (x : Int) (y : Int) : CRes := ⟨[], .one (.cel (.bool (decide (x < y)))), []⟩
def cless_go : List TV → List RowA → List (List CV) → Option CRes := fun args rows caps =>
  match args, rows, caps with
  | [.cel (.int .i64 x), .cel (.int .i64 y)], [], [] => some (cless_res x y)
  | _, _, _ => none
def cless_e : Ent := ⟨89, [], cless_go⟩
set_option maxRecDepth 100000 in
theorem cless_tree (x : Int) (y : Int) : ((cnd ((!(decide (x = x))) == Bool.true)
  ((((!(decide (x = x))) && (!(!(decide (y = y))))) || (decide (x < y))) = (decide (x < y)))
  ((((!(decide (x = x))) && (!Bool.false)) || (decide (x < y))) = (decide (x < y))))) = EXD Try.prog (inlOf Try.prog [] [(118, Try.f118)] []) Try.f89 [.cel (.int .i64 x), .cel (.int .i64 y)] [] [] (cless_res x y) := by kernel_rfl
theorem cless_holds (x : Int) (y : Int)  : (cnd ((!(decide (x = x))) == Bool.true)
  ((((!(decide (x = x))) && (!(!(decide (y = y))))) || (decide (x < y))) = (decide (x < y)))
  ((((!(decide (x = x))) && (!Bool.false)) || (decide (x < y))) = (decide (x < y)))) := by
  simp [cnd]
set_option maxHeartbeats 2000000 in
theorem cless_ok : SoundEnt Try.prog cless_e := by
  refine ent_of_ex (Γ := (inlOf Try.prog [] [(118, Try.f118)] [])) (inlOf_sound snil (by kernel_rfl) ⟨⟨Try.func118, by kernel_rfl, by kernel_rfl⟩, trivial⟩ spnil) (by kernel_rfl) Try.func89 (by kernel_rfl) (by kernel_rfl) (fun args rows caps res h ho => ?_)
  change cless_go args rows caps = some res at h
  unfold cless_go at h
  split at h
  · simp only [Option.some.injEq] at h
    subst h
    rename_i q0_ q1_
    skip
    exact EX.of (cless_tree q0_ q1_) (cless_holds q0_ q1_)
  · cases h
def bsearch_res (l : List Int) (x : Int) : CRes := ⟨[decide ((l.length : Int) ≤ 1000000), incr l], .tup [.cel (.int .i64 ((bsN l x : Int))), .cel (.bool (bsF l x))], []⟩
def bsearch_go : List TV → List RowA → List (List CV) → Option CRes := fun args rows caps =>
  match args, rows, caps with
  | [.cel (.row 0), .cel (.int .i64 x)], [.ints .i64 l], [] => some (bsearch_res l x)
  | _, _, _ => none
def bsearch_e : Ent := ⟨37, [.ints .i64 []], bsearch_go⟩
def bsearch_L1_F (l : List Int) (x : Int) (i : Int) (j : Int) : St := ⟨54, [], [(8, (.one (.cel (.int .i64 j)))), (7, (.one (.cel (.int .i64 i)))), (6, (.one (.cel (.int .i64 (((List.length l) : Nat) : Int))))), (5, (.one (.cel (.bool Bool.false)))), (4, (.one (.cel (.int .i64 (0 : Int))))), (0, (.one (.cel (.row 0)))), (1, (.one (.cel (.int .i64 x))))], [], [⟨(.ints .i64 l), none⟩], 0⟩
def bsearch_L1_I (l : List Int) (x : Int) (i : Int) (j : Int) : Prop := (0 ≤ i ∧ i ≤ j ∧ j ≤ l.length) ∧ (∀ k : Nat, (k : Int) < i → l.getD k 0 < x) ∧ (j < l.length → x ≤ l.getD j.toNat 0)
def bsearch_L1_m (l : List Int) (x : Int) (i : Int) (j : Int) : Nat := (j - i).toNat
def bsearch_L1_N (l : List Int) (x : Int) (i' : Int) (j' : Int) (st_ : St) : Prop := getI st_ 7 fun i => getI st_ 8 fun j => bsearch_L1_I l x i j ∧ bsearch_L1_m l x i j < bsearch_L1_m l x i' j' ∧ SubA st_ (bsearch_L1_F l x i j)
def bsearch_L1_E (l : List Int) (x : Int) (st_ : St) : Prop := getI st_ 7 fun i => getI st_ 8 fun j => bsearch_L1_I l x i j ∧ SubA st_ (bsearch_L1_F l x i j)
def bsearch_L1_S1 (l : List Int) (x : Int) : St := ⟨54, [], [(8, (.one (.cel (.int .i64 (((List.length l) : Nat) : Int))))), (7, (.one (.cel (.int .i64 (0 : Int))))), (12, (.one (.cel (.int .i64 (((List.length l) : Nat) : Int))))), (6, (.one (.cel (.int .i64 (((List.length l) : Nat) : Int))))), (11, (.one (.cel (.int .i64 (((List.length l) : Nat) : Int))))), (10, (.one (.cel (.row 0)))), (5, (.one (.cel (.bool Bool.false)))), (4, (.one (.cel (.int .i64 (0 : Int))))), (0, (.one (.cel (.row 0)))), (1, (.one (.cel (.int .i64 x))))], [], [⟨(.ints .i64 l), none⟩], 0⟩
def bsearch_L1_T (l : List Int) (x : Int) (i : Int) (j : Int) : Prop := (cnd (decide (i < j))
  (cnd (decide ((0 : Int) ≤ (Go.IntKind.wrap Go.IntKind.i64 (Int.fdiv (Go.IntKind.wrap Go.IntKind.u64 (Go.IntKind.wrap Go.IntKind.i64 (i + j))) ((2 : Int) ^ (Min.min (Int.toNat (1 : Int)) (Go.IntKind.bits Go.IntKind.u64)))))))
    (cnd (decide ((Go.IntKind.wrap Go.IntKind.i64 (Int.fdiv (Go.IntKind.wrap Go.IntKind.u64 (Go.IntKind.wrap Go.IntKind.i64 (i + j))) ((2 : Int) ^ (Min.min (Int.toNat (1 : Int)) (Go.IntKind.bits Go.IntKind.u64))))) < (((List.length l) : Nat) : Int)))
      (cnd (decide ((List.getD l (Int.toNat (Go.IntKind.wrap Go.IntKind.i64 (Int.fdiv (Go.IntKind.wrap Go.IntKind.u64 (Go.IntKind.wrap Go.IntKind.i64 (i + j))) ((2 : Int) ^ (Min.min (Int.toNat (1 : Int)) (Go.IntKind.bits Go.IntKind.u64)))))) (0 : Int)) < x))
        ((bsearch_L1_I l x (Go.IntKind.wrap Go.IntKind.i64 ((Go.IntKind.wrap Go.IntKind.i64 (Int.fdiv (Go.IntKind.wrap Go.IntKind.u64 (Go.IntKind.wrap Go.IntKind.i64 (i + j))) ((2 : Int) ^ (Min.min (Int.toNat (1 : Int)) (Go.IntKind.bits Go.IntKind.u64))))) + (1 : Int))) j) ∧ (((bsearch_L1_m l x (Go.IntKind.wrap Go.IntKind.i64 ((Go.IntKind.wrap Go.IntKind.i64 (Int.fdiv (Go.IntKind.wrap Go.IntKind.u64 (Go.IntKind.wrap Go.IntKind.i64 (i + j))) ((2 : Int) ^ (Min.min (Int.toNat (1 : Int)) (Go.IntKind.bits Go.IntKind.u64))))) + (1 : Int))) j) < (bsearch_L1_m l x i j)) ∧ ((j = j) ∧ (((Go.IntKind.wrap Go.IntKind.i64 ((Go.IntKind.wrap Go.IntKind.i64 (Int.fdiv (Go.IntKind.wrap Go.IntKind.u64 (Go.IntKind.wrap Go.IntKind.i64 (i + j))) ((2 : Int) ^ (Min.min (Int.toNat (1 : Int)) (Go.IntKind.bits Go.IntKind.u64))))) + (1 : Int))) = (Go.IntKind.wrap Go.IntKind.i64 ((Go.IntKind.wrap Go.IntKind.i64 (Int.fdiv (Go.IntKind.wrap Go.IntKind.u64 (Go.IntKind.wrap Go.IntKind.i64 (i + j))) ((2 : Int) ^ (Min.min (Int.toNat (1 : Int)) (Go.IntKind.bits Go.IntKind.u64))))) + (1 : Int)))) ∧ (((((List.length l) : Nat) : Int) = (((List.length l) : Nat) : Int)) ∧ ((Bool.false = Bool.false) ∧ (((0 : Int) = (0 : Int)) ∧ (True ∧ ((x = x) ∧ ((l = l) ∧ True))))))))))
        ((bsearch_L1_I l x i (Go.IntKind.wrap Go.IntKind.i64 (Int.fdiv (Go.IntKind.wrap Go.IntKind.u64 (Go.IntKind.wrap Go.IntKind.i64 (i + j))) ((2 : Int) ^ (Min.min (Int.toNat (1 : Int)) (Go.IntKind.bits Go.IntKind.u64)))))) ∧ (((bsearch_L1_m l x i (Go.IntKind.wrap Go.IntKind.i64 (Int.fdiv (Go.IntKind.wrap Go.IntKind.u64 (Go.IntKind.wrap Go.IntKind.i64 (i + j))) ((2 : Int) ^ (Min.min (Int.toNat (1 : Int)) (Go.IntKind.bits Go.IntKind.u64)))))) < (bsearch_L1_m l x i j)) ∧ (((Go.IntKind.wrap Go.IntKind.i64 (Int.fdiv (Go.IntKind.wrap Go.IntKind.u64 (Go.IntKind.wrap Go.IntKind.i64 (i + j))) ((2 : Int) ^ (Min.min (Int.toNat (1 : Int)) (Go.IntKind.bits Go.IntKind.u64))))) = (Go.IntKind.wrap Go.IntKind.i64 (Int.fdiv (Go.IntKind.wrap Go.IntKind.u64 (Go.IntKind.wrap Go.IntKind.i64 (i + j))) ((2 : Int) ^ (Min.min (Int.toNat (1 : Int)) (Go.IntKind.bits Go.IntKind.u64)))))) ∧ ((i = i) ∧ (((((List.length l) : Nat) : Int) = (((List.length l) : Nat) : Int)) ∧ ((Bool.false = Bool.false) ∧ (((0 : Int) = (0 : Int)) ∧ (True ∧ ((x = x) ∧ ((l = l) ∧ True)))))))))))
      False)
    False)
  (cnd ((!((decide (i < (((List.length l) : Nat) : Int))) == Bool.true)) || (decide ((0 : Int) ≤ i)))
    (cnd ((!((decide (i < (((List.length l) : Nat) : Int))) == Bool.true)) || (decide (i < (((List.length l) : Nat) : Int))))
      (cnd ((!(((decide (i < (((List.length l) : Nat) : Int))) == Bool.true) && ((decide ((List.getD l (Int.toNat i) (0 : Int)) = x)) == Bool.false))) || (decide ((0 : Int) ≤ i)))
        (cnd ((!(((decide (i < (((List.length l) : Nat) : Int))) == Bool.true) && ((decide ((List.getD l (Int.toNat i) (0 : Int)) = x)) == Bool.false))) || (decide (i < (((List.length l) : Nat) : Int))))
          (cnd (((decide (i < (((List.length l) : Nat) : Int))) == Bool.true) && ((decide ((List.getD l (Int.toNat i) (0 : Int)) = x)) == Bool.false))
            (cnd ((((decide (i < (((List.length l) : Nat) : Int))) == Bool.true) && ((decide ((List.getD l (Int.toNat i) (0 : Int)) = x)) == Bool.false)) && ((!(decide ((List.getD l (Int.toNat i) (0 : Int)) = (List.getD l (Int.toNat i) (0 : Int))))) == Bool.true))
              ((i = (((bsN l x) : Nat) : Int)) ∧ (((decide (i < (((List.length l) : Nat) : Int))) && ((decide ((List.getD l (Int.toNat i) (0 : Int)) = x)) || ((!(decide ((List.getD l (Int.toNat i) (0 : Int)) = (List.getD l (Int.toNat i) (0 : Int))))) && (!(decide (x = x)))))) = (bsF l x)))
              ((i = (((bsN l x) : Nat) : Int)) ∧ (((decide (i < (((List.length l) : Nat) : Int))) && ((decide ((List.getD l (Int.toNat i) (0 : Int)) = x)) || ((!(decide ((List.getD l (Int.toNat i) (0 : Int)) = (List.getD l (Int.toNat i) (0 : Int))))) && Bool.false))) = (bsF l x))))
            (cnd ((((decide (i < (((List.length l) : Nat) : Int))) == Bool.true) && ((decide ((List.getD l (Int.toNat i) (0 : Int)) = x)) == Bool.false)) && (Bool.false == Bool.true))
              ((i = (((bsN l x) : Nat) : Int)) ∧ (((decide (i < (((List.length l) : Nat) : Int))) && ((decide ((List.getD l (Int.toNat i) (0 : Int)) = x)) || (Bool.false && (!(decide (x = x)))))) = (bsF l x)))
              ((i = (((bsN l x) : Nat) : Int)) ∧ (((decide (i < (((List.length l) : Nat) : Int))) && ((decide ((List.getD l (Int.toNat i) (0 : Int)) = x)) || (Bool.false && Bool.false))) = (bsF l x)))))
          False)
        False)
      False)
    False))
set_option maxRecDepth 100000 in
theorem bsearch_L1_tree (l : List Int) (x : Int) (i : Int) (j : Int) : bsearch_L1_T l x i j = ex Try.prog (inlOf Try.prog [cless_e] [(90, Try.f90)] []) (subC (bodyOf Try.f37) [1, 1, 1, 0, 0, 0]) (nextE (bsearch_L1_N l x i j) (kont Try.prog (inlOf Try.prog [cless_e] [(90, Try.f90)] []) (bodyOf Try.f37) [1, 1, 1, 0, 0] (retPost Try.prog Try.f37 1 (bsearch_res l x)))) (bsearch_L1_F l x i j) := by kernel_rfl
set_option maxRecDepth 100000 in
theorem bsearch_L1_round (l : List Int) (x : Int) (i : Int) (j : Int) (p0 : (decide ((l.length : Int) ≤ 1000000)) = true) (p1 : (incr l) = true) (hI_L1 : bsearch_L1_I l x i j) : bsearch_L1_T l x i j := by
  obtain ⟨⟨a1, a2, a3⟩, a4, a5⟩ := hI_L1
  have hp := p0
  simp only [decide_eq_true_eq] at hp
  have hm : IntKind.i64.wrap (Int.fdiv (IntKind.u64.wrap (IntKind.i64.wrap (i + j))) ((2 : Int) ^ (Min.min (Int.toNat (1 : Int)) (IntKind.bits IntKind.u64)))) = (i + j) / 2 := by
    rw [w64 (n := i + j) (by omega) (by omega), wu64 (by omega) (by omega), show ((2 : Int) ^ (Min.min (Int.toNat (1 : Int)) (IntKind.bits IntKind.u64))) = 2 from rfl, Int.fdiv_eq_ediv_of_nonneg _ (by decide), w64 (by omega) (by omega)]
  unfold bsearch_L1_T
  rw [hm]
  by_cases hi : i < j
  · have hh : i ≤ (i + j) / 2 ∧ (i + j) / 2 < j := by omega
    generalize (i + j) / 2 = h at *
    rw [decide_eq_true hi, decide_eq_true (show 0 ≤ h by omega), decide_eq_true (show h < ((l.length : Nat) : Int) by omega), w64 (n := h + 1) (by omega) (by omega)]
    by_cases hx : l.getD h.toNat 0 < x
    · rw [decide_eq_true hx]
      refine ⟨⟨⟨by omega, by omega, a3⟩, fun k hk => ?_, a5⟩, by unfold bsearch_L1_m; omega, by simp⟩
      by_cases e : k = h.toNat
      · rw [e]; exact hx
      · have := incr_lt p1 (i := k) (j := h.toNat) (by omega) (by omega)
        omega
    · rw [decide_eq_false hx]
      exact ⟨⟨⟨a1, by omega, by omega⟩, a4, fun _ => by omega⟩, by unfold bsearch_L1_m; omega, by simp⟩
  · have e : i = j := by omega
    subst e
    have hb : i.toNat = bsN l x := bsN_is (by omega) (fun k hk => a4 k (by omega)) (fun h => a5 (by omega))
    have hF : bsF l x = (decide (i < l.length) && decide (l.getD i.toNat 0 = x)) := by
      unfold bsF
      rw [← hb]
      congr 1
      rw [decide_eq_decide]
      omega
    have hb2 : ((bsN l x : Nat) : Int) = i := by omega
    rw [decide_eq_false hi, hF, hb2]
    by_cases hl : i < l.length
    · rw [decide_eq_true hl, decide_eq_true a1]
      generalize l.getD i.toNat 0 = y
      by_cases hx : y = x
      · rw [decide_eq_true hx]; simp [cnd]
      · rw [decide_eq_false hx]; simp [cnd]
    · simp [cnd, hl, a1]
set_option maxRecDepth 100000 in
theorem bsearch_L1_entry1 (l : List Int) (x : Int) : (((bsearch_L1_I l x (0 : Int) (((List.length l) : Nat) : Int)) ∧ (((((List.length l) : Nat) : Int) = (((List.length l) : Nat) : Int)) ∧ (((0 : Int) = (0 : Int)) ∧ (((((List.length l) : Nat) : Int) = (((List.length l) : Nat) : Int)) ∧ ((Bool.false = Bool.false) ∧ (((0 : Int) = (0 : Int)) ∧ (True ∧ ((x = x) ∧ ((l = l) ∧ True)))))))))) = bsearch_L1_E l x (bsearch_L1_S1 l x) := by kernel_rfl
theorem bsearch_L1_1 (l : List Int) (x : Int) (p0 : (decide ((l.length : Int) ≤ 1000000)) = true) (p1 : (incr l) = true) (h : ((bsearch_L1_I l x (0 : Int) (((List.length l) : Nat) : Int)) ∧ (((((List.length l) : Nat) : Int) = (((List.length l) : Nat) : Int)) ∧ (((0 : Int) = (0 : Int)) ∧ (((((List.length l) : Nat) : Int) = (((List.length l) : Nat) : Int)) ∧ ((Bool.false = Bool.false) ∧ (((0 : Int) = (0 : Int)) ∧ (True ∧ ((x = x) ∧ ((l = l) ∧ True)))))))))) : LoopP (ex Try.prog (inlOf Try.prog [cless_e] [(90, Try.f90)] []) (subC (bodyOf Try.f37) [1, 1, 1, 0, 0, 0])) (kont Try.prog (inlOf Try.prog [cless_e] [(90, Try.f90)] []) (bodyOf Try.f37) [1, 1, 1, 0, 0] (retPost Try.prog Try.f37 1 (bsearch_res l x))) (bsearch_L1_S1 l x) := by
  have hE : bsearch_L1_E l x (bsearch_L1_S1 l x) := Eq.mp (bsearch_L1_entry1 l x) h
  unfold bsearch_L1_E at hE
  obtain ⟨i, hE⟩ := getI_of hE
  obtain ⟨j, hE⟩ := getI_of hE
  refine loop_of (α := (Int) × (Int)) (fun xx_ => bsearch_L1_F l x xx_.1 xx_.2) (fun xx_ => bsearch_L1_I l x xx_.1 xx_.2) (fun xx_ => bsearch_L1_m l x xx_.1 xx_.2) (fun xx_ => bsearch_L1_N l x xx_.1 xx_.2) (fun xx_ => bsearch_L1_T l x xx_.1 xx_.2) (fun xx_ s_ h => ?_) ⟨⟨i, j⟩, hE⟩ (fun xx_ => bsearch_L1_tree l x xx_.1 xx_.2) (fun xx_ hI => bsearch_L1_round l x xx_.1 xx_.2 p0 p1 hI)
  unfold bsearch_L1_N at h
  obtain ⟨i, h⟩ := getI_of h
  obtain ⟨j, h⟩ := getI_of h
  exact ⟨⟨i, j⟩, h⟩
set_option maxRecDepth 100000 in
theorem bsearch_tree (l : List Int) (x : Int) : ((LoopP (ex Try.prog (inlOf Try.prog [cless_e] [(90, Try.f90)] []) (subC (bodyOf Try.f37) [1, 1, 1, 0, 0, 0])) (kont Try.prog (inlOf Try.prog [cless_e] [(90, Try.f90)] []) (bodyOf Try.f37) [1, 1, 1, 0, 0] (retPost Try.prog Try.f37 1 (bsearch_res l x))) (bsearch_L1_S1 l x))) = EXD Try.prog (inlOf Try.prog [cless_e] [(90, Try.f90)] []) Try.f37 [.cel (.row 0), .cel (.int .i64 x)] [.ints .i64 l] [] (bsearch_res l x) := by kernel_rfl
theorem bsearch_holds (l : List Int) (x : Int) (p0 : (decide ((l.length : Int) ≤ 1000000)) = true) (p1 : (incr l) = true) : (LoopP (ex Try.prog (inlOf Try.prog [cless_e] [(90, Try.f90)] []) (subC (bodyOf Try.f37) [1, 1, 1, 0, 0, 0])) (kont Try.prog (inlOf Try.prog [cless_e] [(90, Try.f90)] []) (bodyOf Try.f37) [1, 1, 1, 0, 0] (retPost Try.prog Try.f37 1 (bsearch_res l x))) (bsearch_L1_S1 l x)) := by
  simp only [decide_eq_true_eq] at p0
  exact bsearch_L1_1 l x (decide_eq_true p0) p1 ⟨⟨⟨by omega, by omega, by omega⟩, fun k hk => by omega, fun h => by omega⟩, by simp⟩
set_option maxHeartbeats 2000000 in
theorem bsearch_ok : SoundEnt Try.prog bsearch_e := by
  refine ent_of_ex (Γ := (inlOf Try.prog [cless_e] [(90, Try.f90)] [])) (inlOf_sound (scons cless_ok snil) (by kernel_rfl) ⟨⟨Try.func90, by kernel_rfl, by kernel_rfl⟩, trivial⟩ spnil) (by kernel_rfl) Try.func37 (by kernel_rfl) (by kernel_rfl) (fun args rows caps res h ho => ?_)
  change bsearch_go args rows caps = some res at h
  unfold bsearch_go at h
  split at h
  · simp only [Option.some.injEq] at h
    subst h
    rename_i q1_ q0_
    obtain ⟨p0, p1, _⟩ := ho
    exact EX.of (bsearch_tree q0_ q1_) (bsearch_holds q0_ q1_ p0 p1)
  · cases h
theorem shB_len {j d u : List Int} (h : shB j d u = true) : j.length ≤ 400 ∧ d.length ≤ 400 ∧ u.length ≤ 400 := by
  unfold shB at h
  simp only [Bool.and_eq_true, decide_eq_true_eq] at h
  omega
theorem sets_key1 {l d u : List Int} (h : apE l [] d u = 0) {x : Int} (hx : x ∈ apL l [] d u) : ((!((bsF l x) && (!(hasV ((bsN l x : Nat) : Int) d)))) && (!(hasV x u))) = false := by
  have hv := (vE_iff.1 (ap_zero h).1).2.2
  rcases (apL_mem h x).1 hx with ⟨n, h1, h2, h3⟩ | hu
  · rw [mvd_nil, Int.add_zero] at h3
    rw [h3, bsF_at hv h1, bsN_at hv h1, h2]
    rfl
  · rw [hasV_iff.2 hu]
    simp
theorem sets_key2 {l d u : List Int} (h : apE l [] d u = 0) {k : Int} (h0 : 0 ≤ k) (hn : k < l.length) : ((!(hasV k d)) && (!(hasV (l.getD k.toNat 0) (apL l [] d u)))) = false := by
  cases hd : hasV k d with
  | true => rfl
  | false =>
    have hk : ((k.toNat : Nat) : Int) = k := by omega
    rw [hasV_iff.2 ((apL_mem h _).2 (.inl ⟨k.toNat, by omega, by rw [hk]; exact hd, by rw [mvd_nil, Int.add_zero]⟩))]
    rfl
theorem ap_none {l : List Int} (h : vE l = true) : apE l [] [] [] = 0 ∧ apL l [] [] [] = l := by
  obtain ⟨v1, v2, v3⟩ := vE_iff.1 h
  have hr : rawL l [] [] [] = l := by unfold rawL; rw [kpt_nil, List.append_nil]
  have hE : apE l [] [] [] = 0 := by
    rw [ap_ok h rfl rfl (by rw [hr]; exact v2), hr, nrm_self v3, if_neg (by omega)]
  exact ⟨hE, by unfold apL; rw [if_pos hE, hr, nrm_self v3]⟩
theorem ap_jit {l j : List Int} (h : vE l = true) (hl : l.length ≤ 400) (hj : j.length ≤ 400) : apE l j [] [] ≠ 5 := by
  have hL : lngB j [] [] = false := by unfold lngB; simp; omega
  have hn : (nrm (rawL l j [] [])).length ≤ 1000 := by
    have h1 := nrm_len (rawL l j [] [])
    have h2 := kpt_len j [] l 0
    unfold rawL at h1 ⊢
    rw [List.append_nil] at h1 ⊢
    omega
  unfold apE
  rw [if_pos h, hL, if_neg (by decide)]
  split
  · omega
  · split
    · rw [if_neg (by omega)]; omega
    · omega
theorem ap_len {l j : List Int} (h : apE l j [] [] = 0) : (apL l j [] []).length ≤ l.length := by
  obtain ⟨_, _, _, _, h5, _⟩ := ap_zero h
  have h1 := nrm_len (rawL l j [] [])
  have h2 := kpt_len j [] l 0
  rw [h5]
  unfold rawL at h1 ⊢
  rw [List.append_nil] at h1 ⊢
  omega
def okS (l j d u : List Int) : Prop := vE l = true ∧ shB j d u = true ∧ l.length ≤ 400 ∧ apE l [] d u = 0
def sets_res (l : List Int) (j : List Int) (d : List Int) (u : List Int) : CRes := ⟨[wfL .i64 l, wfL .i64 j, wfL .i64 d, wfL .i64 u, lenB l, lenB j, lenB d, lenB u], .one (.cel (.bool (true))), []⟩
def sets_go : List TV → List RowA → List (List CV) → Option CRes := fun args rows caps =>
  match args, rows, caps with
  | [.cel (.row 0), .agg [.row 1, .row 2, .row 3]], [.ints .i64 l, .ints .i64 j, .ints .i64 d, .ints .i64 u], [] => some (sets_res l j d u)
  | _, _, _ => none
def sets_e : Ent := ⟨11, [.ints .i64 [], .ints .i64 [], .ints .i64 [], .ints .i64 []], sets_go⟩
def sets_L1_F (l : List Int) (j : List Int) (d : List Int) (u : List Int) (i : Int) : St := ⟨179, [], [(72, (.one (.cel (.int .i64 i)))), (71, (.one (.cel (.int .i64 (((List.length (apL l ([] : List Int) d u)) : Nat) : Int))))), (70, (.one (.cel (.row 5)))), (8, (.one (.cel (.row 5)))), (4, (.one (.cel (.bool Bool.false)))), (3, (.one (.cel (.ptr 0 0)))), (0, (.one (.cel (.row 0))))], [[(.row 1), (.row 2), (.row 3)], [.nilS, (.row 2), (.row 3)]], [⟨(.ints .i64 l), none⟩, ⟨(.ints .i64 j), none⟩, ⟨(.ints .i64 d), none⟩, ⟨(.ints .i64 u), none⟩, ⟨(.ints .i64 (apL l ([] : List Int) ([] : List Int) ([] : List Int))), none⟩, ⟨(.ints .i64 (apL l ([] : List Int) d u)), none⟩], 0⟩
def sets_L1_I (l : List Int) (j : List Int) (d : List Int) (u : List Int) (i : Int) : Prop := (okS l j d u) ∧ (0 ≤ i ∧ i ≤ (apL l [] d u).length)
def sets_L1_m (l : List Int) (j : List Int) (d : List Int) (u : List Int) (i : Int) : Nat := ((apL l [] d u).length - i).toNat
def sets_L1_N (l : List Int) (j : List Int) (d : List Int) (u : List Int) (i' : Int) (st_ : St) : Prop := getI st_ 72 fun i => sets_L1_I l j d u i ∧ sets_L1_m l j d u i < sets_L1_m l j d u i' ∧ SubA st_ (sets_L1_F l j d u i)
def sets_L1_E (l : List Int) (j : List Int) (d : List Int) (u : List Int) (st_ : St) : Prop := getI st_ 72 fun i => sets_L1_I l j d u i ∧ SubA st_ (sets_L1_F l j d u i)
def sets_L1_S1 (l : List Int) (j : List Int) (d : List Int) (u : List Int) : St := ⟨179, [45, 32, 27], [(72, (.one (.cel (.int .i64 (0 : Int))))), (71, (.one (.cel (.int .i64 (((List.length (apL l ([] : List Int) d u)) : Nat) : Int))))), (70, (.one (.cel (.row 5)))), (69, (.one (.cel (.bool (!(vE (apL l ([] : List Int) d u))))))), (68, (.one (.cel (.bool (vE (apL l ([] : List Int) d u)))))), (67, (.one (.cel (.row 5)))), (60, (.one (.cel (.bool (!(decide ((apE l ([] : List Int) d u) = (0 : Int)))))))), (59, (.one (.cel (.int .i64 (apE l ([] : List Int) d u))))), (9, (.one (.cel (.int .i64 (apE l ([] : List Int) d u))))), (8, (.one (.cel (.row 5)))), (58, (.one (.cel (.int .i64 (apE l ([] : List Int) d u))))), (57, (.one (.cel (.row 5)))), (53, (.tup [(.cel (.row 5)), (.cel (.int .i64 (apE l ([] : List Int) d u)))])), (56, (.tup [(.cel (.row 5)), (.cel (.int .i64 (apE l ([] : List Int) d u)))])), (55, (.one (.agg [.nilS, (.row 2), (.row 3)]))), (54, (.one (.cel (.row 0)))), (52, (.one (.cel (.ptr 1 0)))), (7, (.one (.cel (.ptr 1 0)))), (51, (.one (.agg [(.row 1), (.row 2), (.row 3)]))), (50, (.one (.cel (.bool ((!(decide ((apE l ([] : List Int) ([] : List Int) ([] : List Int)) = (0 : Int)))) || (!(decide ((apL l ([] : List Int) ([] : List Int) ([] : List Int)) = l)))))))), (49, (.spec 45 Bool.false (.cel (.bool (!(decide ((apL l ([] : List Int) ([] : List Int) ([] : List Int)) = l))))))), (48, (.spec 45 Bool.false (.cel (.bool (decide ((apL l ([] : List Int) ([] : List Int) ([] : List Int)) = l)))))), (47, (.spec 45 Bool.false (.cel (.row 0)))), (46, (.spec 45 Bool.false (.cel (.row 4)))), (45, (.one (.cel (.bool (!(decide ((apE l ([] : List Int) ([] : List Int) ([] : List Int)) = (0 : Int)))))))), (44, (.one (.cel (.bool (!(decide ((apE l ([] : List Int) ([] : List Int) ([] : List Int)) = (0 : Int)))))))), (43, (.one (.cel (.int .i64 (apE l ([] : List Int) ([] : List Int) ([] : List Int)))))), (6, (.one (.cel (.int .i64 (apE l ([] : List Int) ([] : List Int) ([] : List Int)))))), (5, (.one (.cel (.row 4)))), (42, (.one (.cel (.int .i64 (apE l ([] : List Int) ([] : List Int) ([] : List Int)))))), (41, (.one (.cel (.row 4)))), (37, (.tup [(.cel (.row 4)), (.cel (.int .i64 (apE l ([] : List Int) ([] : List Int) ([] : List Int))))])), (40, (.tup [(.cel (.row 4)), (.cel (.int .i64 (apE l ([] : List Int) ([] : List Int) ([] : List Int))))])), (39, (.one (.agg [.nilS, .nilS, .nilS]))), (38, (.one (.cel (.row 0)))), (36, (.one (.cel (.bool (((decide ((400 : Int) < (((List.length l) : Nat) : Int))) || (!(shB j d u))) || (!(vE l))))))), (35, (.spec 32 Bool.false (.cel (.bool (!(vE l)))))), (34, (.spec 32 Bool.false (.cel (.bool (vE l))))), (33, (.spec 32 Bool.false (.cel (.row 0)))), (32, (.one (.cel (.bool ((decide ((400 : Int) < (((List.length l) : Nat) : Int))) || (!(shB j d u))))))), (31, (.one (.cel (.bool ((decide ((400 : Int) < (((List.length l) : Nat) : Int))) || (!(shB j d u))))))), (30, (.spec 27 Bool.false (.cel (.bool (!(shB j d u)))))), (29, (.spec 27 Bool.false (.cel (.bool (shB j d u))))), (28, (.spec 27 Bool.false (.agg [(.row 1), (.row 2), (.row 3)]))), (27, (.one (.cel (.bool (decide ((400 : Int) < (((List.length l) : Nat) : Int))))))), (26, (.one (.cel (.bool (decide ((400 : Int) < (((List.length l) : Nat) : Int))))))), (25, (.one (.cel (.int .i64 (((List.length l) : Nat) : Int))))), (24, (.one (.cel (.row 0)))), (23, (.one (.cel (.bool (!Bool.true))))), (22, (.one (.cel (.bool Bool.true)))), (4, (.one (.cel (.bool Bool.false)))), (3, (.one (.cel (.ptr 0 0)))), (0, (.one (.cel (.row 0)))), (1, (.one (.agg [(.row 1), (.row 2), (.row 3)])))], [[(.row 1), (.row 2), (.row 3)], [.nilS, (.row 2), (.row 3)]], [⟨(.ints .i64 l), none⟩, ⟨(.ints .i64 j), none⟩, ⟨(.ints .i64 d), none⟩, ⟨(.ints .i64 u), none⟩, ⟨(.ints .i64 (apL l ([] : List Int) ([] : List Int) ([] : List Int))), none⟩, ⟨(.ints .i64 (apL l ([] : List Int) d u)), none⟩], 0⟩
def sets_L2_F (l : List Int) (j : List Int) (d : List Int) (u : List Int) (i : Int) (k : Int) : St := ⟨179, [], [(101, (.one (.cel (.int .i64 k)))), (100, (.one (.cel (.int .i64 (((List.length l) : Nat) : Int))))), (99, (.one (.cel (.row 0)))), (8, (.one (.cel (.row 5)))), (4, (.one (.cel (.bool Bool.false)))), (3, (.one (.cel (.ptr 0 0)))), (0, (.one (.cel (.row 0))))], [[(.row 1), (.row 2), (.row 3)], [.nilS, (.row 2), (.row 3)]], [⟨(.ints .i64 l), none⟩, ⟨(.ints .i64 j), none⟩, ⟨(.ints .i64 d), none⟩, ⟨(.ints .i64 u), none⟩, ⟨(.ints .i64 (apL l ([] : List Int) ([] : List Int) ([] : List Int))), none⟩, ⟨(.ints .i64 (apL l ([] : List Int) d u)), none⟩], 0⟩
def sets_L2_I (l : List Int) (j : List Int) (d : List Int) (u : List Int) (i : Int) (k : Int) : Prop := (0 ≤ k ∧ k ≤ l.length)
def sets_L2_m (l : List Int) (j : List Int) (d : List Int) (u : List Int) (i : Int) (k : Int) : Nat := (l.length - k).toNat
def sets_L2_N (l : List Int) (j : List Int) (d : List Int) (u : List Int) (i : Int) (k' : Int) (st_ : St) : Prop := getI st_ 101 fun k => sets_L2_I l j d u i k ∧ sets_L2_m l j d u i k < sets_L2_m l j d u i k' ∧ SubA st_ (sets_L2_F l j d u i k)
def sets_L2_E (l : List Int) (j : List Int) (d : List Int) (u : List Int) (i : Int) (st_ : St) : Prop := getI st_ 101 fun k => sets_L2_I l j d u i k ∧ SubA st_ (sets_L2_F l j d u i k)
def sets_L2_S1 (l : List Int) (j : List Int) (d : List Int) (u : List Int) (i : Int) : St := ⟨179, [], [(101, (.one (.cel (.int .i64 (0 : Int))))), (100, (.one (.cel (.int .i64 (((List.length l) : Nat) : Int))))), (99, (.one (.cel (.row 0)))), (73, (.one (.cel (.bool (decide (i < (((List.length (apL l ([] : List Int) d u)) : Nat) : Int))))))), (72, (.one (.cel (.int .i64 i)))), (71, (.one (.cel (.int .i64 (((List.length (apL l ([] : List Int) d u)) : Nat) : Int))))), (70, (.one (.cel (.row 5)))), (8, (.one (.cel (.row 5)))), (4, (.one (.cel (.bool Bool.false)))), (3, (.one (.cel (.ptr 0 0)))), (0, (.one (.cel (.row 0))))], [[(.row 1), (.row 2), (.row 3)], [.nilS, (.row 2), (.row 3)]], [⟨(.ints .i64 l), none⟩, ⟨(.ints .i64 j), none⟩, ⟨(.ints .i64 d), none⟩, ⟨(.ints .i64 u), none⟩, ⟨(.ints .i64 (apL l ([] : List Int) ([] : List Int) ([] : List Int))), none⟩, ⟨(.ints .i64 (apL l ([] : List Int) d u)), none⟩], 0⟩
def sets_L3_F (l : List Int) (j : List Int) (d : List Int) (u : List Int) (i : Int) (k : Int) (q : Int) : St := ⟨179, [], [(121, (.one (.cel (.int .i64 q)))), (120, (.one (.cel (.int .i64 (((List.length u) : Nat) : Int))))), (119, (.one (.cel (.row 3)))), (8, (.one (.cel (.row 5)))), (4, (.one (.cel (.bool Bool.false)))), (3, (.one (.cel (.ptr 0 0)))), (0, (.one (.cel (.row 0))))], [[(.row 1), (.row 2), (.row 3)], [.nilS, (.row 2), (.row 3)]], [⟨(.ints .i64 l), none⟩, ⟨(.ints .i64 j), none⟩, ⟨(.ints .i64 d), none⟩, ⟨(.ints .i64 u), none⟩, ⟨(.ints .i64 (apL l ([] : List Int) ([] : List Int) ([] : List Int))), none⟩, ⟨(.ints .i64 (apL l ([] : List Int) d u)), none⟩], 0⟩
def sets_L3_I (l : List Int) (j : List Int) (d : List Int) (u : List Int) (i : Int) (k : Int) (q : Int) : Prop := (0 ≤ q ∧ q ≤ u.length)
def sets_L3_m (l : List Int) (j : List Int) (d : List Int) (u : List Int) (i : Int) (k : Int) (q : Int) : Nat := (u.length - q).toNat
def sets_L3_N (l : List Int) (j : List Int) (d : List Int) (u : List Int) (i : Int) (k : Int) (q' : Int) (st_ : St) : Prop := getI st_ 121 fun q => sets_L3_I l j d u i k q ∧ sets_L3_m l j d u i k q < sets_L3_m l j d u i k q' ∧ SubA st_ (sets_L3_F l j d u i k q)
def sets_L3_E (l : List Int) (j : List Int) (d : List Int) (u : List Int) (i : Int) (k : Int) (st_ : St) : Prop := getI st_ 121 fun q => sets_L3_I l j d u i k q ∧ SubA st_ (sets_L3_F l j d u i k q)
def sets_L3_S1 (l : List Int) (j : List Int) (d : List Int) (u : List Int) (i : Int) (k : Int) : St := ⟨179, [], [(121, (.one (.cel (.int .i64 (0 : Int))))), (120, (.one (.cel (.int .i64 (((List.length u) : Nat) : Int))))), (119, (.one (.cel (.row 3)))), (118, (.one (.cel (.ptr 0 2)))), (102, (.one (.cel (.bool (decide (k < (((List.length l) : Nat) : Int))))))), (101, (.one (.cel (.int .i64 k)))), (100, (.one (.cel (.int .i64 (((List.length l) : Nat) : Int))))), (99, (.one (.cel (.row 0)))), (8, (.one (.cel (.row 5)))), (4, (.one (.cel (.bool Bool.false)))), (3, (.one (.cel (.ptr 0 0)))), (0, (.one (.cel (.row 0))))], [[(.row 1), (.row 2), (.row 3)], [.nilS, (.row 2), (.row 3)]], [⟨(.ints .i64 l), none⟩, ⟨(.ints .i64 j), none⟩, ⟨(.ints .i64 d), none⟩, ⟨(.ints .i64 u), none⟩, ⟨(.ints .i64 (apL l ([] : List Int) ([] : List Int) ([] : List Int))), none⟩, ⟨(.ints .i64 (apL l ([] : List Int) d u)), none⟩], 0⟩
def sets_L4_F (l : List Int) (j : List Int) (d : List Int) (u : List Int) (i : Int) (k : Int) (q : Int) (z : Int) : St := ⟨179, [], [(154, (.one (.cel (.int .i64 z)))), (153, (.one (.cel (.int .i64 (((List.length l) : Nat) : Int))))), (152, (.one (.cel (.row 0)))), (18, (.one (.cel (.row 6)))), (4, (.one (.cel (.bool Bool.false)))), (3, (.one (.cel (.ptr 0 0)))), (0, (.one (.cel (.row 0))))], [[(.row 1), (.row 2), (.row 3)], [.nilS, (.row 2), (.row 3)]], [⟨(.ints .i64 l), none⟩, ⟨(.ints .i64 j), none⟩, ⟨(.ints .i64 d), none⟩, ⟨(.ints .i64 u), none⟩, ⟨(.ints .i64 (apL l ([] : List Int) ([] : List Int) ([] : List Int))), none⟩, ⟨(.ints .i64 (apL l ([] : List Int) d u)), none⟩, ⟨(.ints .i64 (apL l j ([] : List Int) ([] : List Int))), none⟩], 0⟩
def sets_L4_I (l : List Int) (j : List Int) (d : List Int) (u : List Int) (i : Int) (k : Int) (q : Int) (z : Int) : Prop := (apE l j [] [] = 0 ∧ 0 < j.length) ∧ (0 ≤ z ∧ z ≤ l.length)
def sets_L4_m (l : List Int) (j : List Int) (d : List Int) (u : List Int) (i : Int) (k : Int) (q : Int) (z : Int) : Nat := (l.length - z).toNat
def sets_L4_N (l : List Int) (j : List Int) (d : List Int) (u : List Int) (i : Int) (k : Int) (q : Int) (z' : Int) (st_ : St) : Prop := getI st_ 154 fun z => sets_L4_I l j d u i k q z ∧ sets_L4_m l j d u i k q z < sets_L4_m l j d u i k q z' ∧ SubA st_ (sets_L4_F l j d u i k q z)
def sets_L4_E (l : List Int) (j : List Int) (d : List Int) (u : List Int) (i : Int) (k : Int) (q : Int) (st_ : St) : Prop := getI st_ 154 fun z => sets_L4_I l j d u i k q z ∧ SubA st_ (sets_L4_F l j d u i k q z)
def sets_L4_S1 (l : List Int) (j : List Int) (d : List Int) (u : List Int) (i : Int) (k : Int) (q : Int) : St := ⟨179, [140], [(154, (.one (.cel (.int .i64 (0 : Int))))), (153, (.one (.cel (.int .i64 (((List.length l) : Nat) : Int))))), (152, (.one (.cel (.row 0)))), (145, (.one (.cel (.bool ((!(decide ((apE l j ([] : List Int) ([] : List Int)) = (0 : Int)))) || (decide ((((List.length j) : Nat) : Int) = (0 : Int)))))))), (144, (.spec 140 Bool.false (.cel (.bool (decide ((((List.length j) : Nat) : Int) = (0 : Int))))))), (143, (.spec 140 Bool.false (.cel (.int .i64 (((List.length j) : Nat) : Int))))), (142, (.spec 140 Bool.false (.cel (.row 1)))), (141, (.spec 140 Bool.false (.cel (.ptr 0 0)))), (140, (.one (.cel (.bool (!(decide ((apE l j ([] : List Int) ([] : List Int)) = (0 : Int)))))))), (139, (.one (.cel (.bool (!(decide ((apE l j ([] : List Int) ([] : List Int)) = (0 : Int)))))))), (138, (.one (.cel (.int .i64 (apE l j ([] : List Int) ([] : List Int)))))), (19, (.one (.cel (.int .i64 (apE l j ([] : List Int) ([] : List Int)))))), (18, (.one (.cel (.row 6)))), (137, (.one (.cel (.int .i64 (apE l j ([] : List Int) ([] : List Int)))))), (136, (.one (.cel (.row 6)))), (130, (.tup [(.cel (.row 6)), (.cel (.int .i64 (apE l j ([] : List Int) ([] : List Int))))])), (135, (.tup [(.cel (.row 6)), (.cel (.int .i64 (apE l j ([] : List Int) ([] : List Int))))])), (134, (.one (.agg [(.row 1), .nilS, .nilS]))), (133, (.one (.cel (.row 1)))), (132, (.one (.cel (.ptr 0 0)))), (131, (.one (.cel (.row 0)))), (122, (.one (.cel (.bool (decide (q < (((List.length u) : Nat) : Int))))))), (121, (.one (.cel (.int .i64 q)))), (120, (.one (.cel (.int .i64 (((List.length u) : Nat) : Int))))), (119, (.one (.cel (.row 3)))), (8, (.one (.cel (.row 5)))), (4, (.one (.cel (.bool Bool.false)))), (3, (.one (.cel (.ptr 0 0)))), (0, (.one (.cel (.row 0))))], [[(.row 1), (.row 2), (.row 3)], [.nilS, (.row 2), (.row 3)]], [⟨(.ints .i64 l), none⟩, ⟨(.ints .i64 j), none⟩, ⟨(.ints .i64 d), none⟩, ⟨(.ints .i64 u), none⟩, ⟨(.ints .i64 (apL l ([] : List Int) ([] : List Int) ([] : List Int))), none⟩, ⟨(.ints .i64 (apL l ([] : List Int) d u)), none⟩, ⟨(.ints .i64 (apL l j ([] : List Int) ([] : List Int))), none⟩], 0⟩
def sets_L4_T (l : List Int) (j : List Int) (d : List Int) (u : List Int) (i : Int) (k : Int) (q : Int) (z : Int) : Prop := (cnd (decide (z < (((List.length l) : Nat) : Int)))
  (cnd (decide ((0 : Int) ≤ z))
    (cnd (decide (z < (((List.length l) : Nat) : Int)))
      (cnd (decide ((((List.length j) : Nat) : Int) ≠ (0 : Int)))
        (cnd (decide ((0 : Int) ≤ (Int.tmod z (((List.length j) : Nat) : Int))))
          (cnd (decide ((Int.tmod z (((List.length j) : Nat) : Int)) < (((List.length j) : Nat) : Int)))
            (cnd (decide ((((List.length (apL l j ([] : List Int) ([] : List Int))) : Nat) : Int) ≤ (1000000 : Int)))
              (cnd (!(hasV (Go.IntKind.wrap Go.IntKind.i64 ((List.getD l (Int.toNat z) (0 : Int)) + (List.getD j (Int.toNat (Int.tmod z (((List.length j) : Nat) : Int))) (0 : Int)))) (apL l j ([] : List Int) ([] : List Int))))
                (Bool.false = Bool.true)
                ((sets_L4_I l j d u i k q (Go.IntKind.wrap Go.IntKind.i64 (z + (1 : Int)))) ∧ (((sets_L4_m l j d u i k q (Go.IntKind.wrap Go.IntKind.i64 (z + (1 : Int)))) < (sets_L4_m l j d u i k q z)) ∧ (((Go.IntKind.wrap Go.IntKind.i64 (z + (1 : Int))) = (Go.IntKind.wrap Go.IntKind.i64 (z + (1 : Int)))) ∧ (((((List.length l) : Nat) : Int) = (((List.length l) : Nat) : Int)) ∧ (True ∧ (True ∧ ((Bool.false = Bool.false) ∧ (True ∧ (True ∧ ((True ∧ (True ∧ True)) ∧ ((True ∧ (True ∧ True)) ∧ ((l = l) ∧ ((j = j) ∧ ((d = d) ∧ ((u = u) ∧ (((apL l ([] : List Int) ([] : List Int) ([] : List Int)) = (apL l ([] : List Int) ([] : List Int) ([] : List Int))) ∧ (((apL l ([] : List Int) d u) = (apL l ([] : List Int) d u)) ∧ (((apL l j ([] : List Int) ([] : List Int)) = (apL l j ([] : List Int) ([] : List Int))) ∧ True)))))))))))))))))))
              False)
            False)
          False)
        False)
      False)
    False)
  ((decide ((((List.length (apL l j ([] : List Int) ([] : List Int))) : Nat) : Int) ≤ (((List.length l) : Nat) : Int))) = Bool.true))
set_option maxRecDepth 100000 in
theorem sets_L4_tree (l : List Int) (j : List Int) (d : List Int) (u : List Int) (i : Int) (k : Int) (q : Int) (z : Int) : sets_L4_T l j d u i k q z = ex Try.prog (conOf [awake_e, short_e, sValid_e, apply_e, equalI_e, bsearch_e, scontains_e]) (subC (bodyOf Try.f11) [1, 1, 1, 1, 1, 1, 1, 1, 1, 1, 1, 1, 1, 1, 1, 0, 1, 0, 0]) (nextE (sets_L4_N l j d u i k q z) (kont Try.prog (conOf [awake_e, short_e, sValid_e, apply_e, equalI_e, bsearch_e, scontains_e]) (bodyOf Try.f11) [1, 1, 1, 1, 1, 1, 1, 1, 1, 1, 1, 1, 1, 1, 1, 0, 1, 0] (retPost Try.prog Try.f11 4 (sets_res l j d u)))) (sets_L4_F l j d u i k q z) := by kernel_rfl
set_option maxRecDepth 100000 in
theorem sets_L4_round (l : List Int) (j : List Int) (d : List Int) (u : List Int) (i : Int) (k : Int) (q : Int) (z : Int) (p0 : (wfL .i64 l) = true) (p1 : (wfL .i64 j) = true) (p2 : (wfL .i64 d) = true) (p3 : (wfL .i64 u) = true) (p4 : (lenB l) = true) (p5 : (lenB j) = true) (p6 : (lenB d) = true) (p7 : (lenB u) = true) (hI_L1 : sets_L1_I l j d u i) (hI_L2 : sets_L2_I l j d u i k) (hI_L3 : sets_L3_I l j d u i k q) (hI_L4 : sets_L4_I l j d u i k q z) : sets_L4_T l j d u i k q z := by
  have hI1 := hI_L1
  obtain ⟨⟨o1, o2, o3, o4⟩, _⟩ := hI1
  obtain ⟨⟨b1, b2⟩, a1, a2⟩ := hI_L4
  obtain ⟨v1, v2, v3⟩ := vE_iff.1 o1
  have hA := apL_len (l := l) (j := j) (d := []) (u := [])
  unfold sets_L4_T
  by_cases hi : z < l.length
  · have h0 := Int.emod_nonneg z (show ((j.length : Nat) : Int) ≠ 0 by omega)
    have h1 := Int.emod_lt_of_pos z (show 0 < ((j.length : Nat) : Int) by omega)
    obtain ⟨_, _, hb, _⟩ := ap_zero b1
    have hJ : j.all isJ = true := by
      unfold badN at hb
      simp only [Bool.or_eq_false_iff, Bool.not_eq_false'] at hb
      exact hb.1
    have t0 := isT_iff.1 (all_get v2 (j := z.toNat) (by omega))
    have t1 := isJ_iff.1 (all_get hJ (j := (z % (j.length : Int)).toNat) (by omega))
    have hm : mvd j ((z.toNat : Nat) : Int) = j.getD (z % (j.length : Int)).toNat 0 := by
      unfold mvd
      rw [if_neg (by omega), show ((z.toNat : Nat) : Int) = z by omega]
    have hin := hasV_iff.2 ((apL_mem b1 (l.getD z.toNat 0 + j.getD (z % (j.length : Int)).toNat 0)).2 (.inl ⟨z.toNat, by omega, by simp [hasV, ixOf], by rw [hm]⟩))
    rw [tmod_pos a1, w64 (n := l.getD z.toNat 0 + j.getD (z % (j.length : Int)).toNat 0) (by omega) (by omega), hin, decide_eq_true hi, decide_eq_true a1, decide_eq_true (show ((j.length : Nat) : Int) ≠ 0 by omega), decide_eq_true h0, decide_eq_true h1, decide_eq_true (show (((apL l j [] []).length : Nat) : Int) ≤ 1000000 by omega), w64 (n := z + 1) (by omega) (by omega)]
    exact ⟨⟨⟨b1, b2⟩, by omega, by omega⟩, by unfold sets_L4_m; omega, by simp⟩
  · have := ap_len b1
    rw [decide_eq_false hi, decide_eq_true (show (((apL l j [] []).length : Nat) : Int) ≤ ((l.length : Nat) : Int) by omega)]
    rfl
set_option maxRecDepth 100000 in
theorem sets_L4_entry1 (l : List Int) (j : List Int) (d : List Int) (u : List Int) (i : Int) (k : Int) (q : Int) : (((sets_L4_I l j d u i k q (0 : Int)) ∧ (((0 : Int) = (0 : Int)) ∧ (((((List.length l) : Nat) : Int) = (((List.length l) : Nat) : Int)) ∧ (True ∧ (True ∧ ((Bool.false = Bool.false) ∧ (True ∧ (True ∧ ((True ∧ (True ∧ True)) ∧ ((True ∧ (True ∧ True)) ∧ ((l = l) ∧ ((j = j) ∧ ((d = d) ∧ ((u = u) ∧ (((apL l ([] : List Int) ([] : List Int) ([] : List Int)) = (apL l ([] : List Int) ([] : List Int) ([] : List Int))) ∧ (((apL l ([] : List Int) d u) = (apL l ([] : List Int) d u)) ∧ (((apL l j ([] : List Int) ([] : List Int)) = (apL l j ([] : List Int) ([] : List Int))) ∧ True)))))))))))))))))) = sets_L4_E l j d u i k q (sets_L4_S1 l j d u i k q) := by kernel_rfl
theorem sets_L4_1 (l : List Int) (j : List Int) (d : List Int) (u : List Int) (i : Int) (k : Int) (q : Int) (p0 : (wfL .i64 l) = true) (p1 : (wfL .i64 j) = true) (p2 : (wfL .i64 d) = true) (p3 : (wfL .i64 u) = true) (p4 : (lenB l) = true) (p5 : (lenB j) = true) (p6 : (lenB d) = true) (p7 : (lenB u) = true) (hI_L1 : sets_L1_I l j d u i) (hI_L2 : sets_L2_I l j d u i k) (hI_L3 : sets_L3_I l j d u i k q) (h : ((sets_L4_I l j d u i k q (0 : Int)) ∧ (((0 : Int) = (0 : Int)) ∧ (((((List.length l) : Nat) : Int) = (((List.length l) : Nat) : Int)) ∧ (True ∧ (True ∧ ((Bool.false = Bool.false) ∧ (True ∧ (True ∧ ((True ∧ (True ∧ True)) ∧ ((True ∧ (True ∧ True)) ∧ ((l = l) ∧ ((j = j) ∧ ((d = d) ∧ ((u = u) ∧ (((apL l ([] : List Int) ([] : List Int) ([] : List Int)) = (apL l ([] : List Int) ([] : List Int) ([] : List Int))) ∧ (((apL l ([] : List Int) d u) = (apL l ([] : List Int) d u)) ∧ (((apL l j ([] : List Int) ([] : List Int)) = (apL l j ([] : List Int) ([] : List Int))) ∧ True)))))))))))))))))) : LoopP (ex Try.prog (conOf [awake_e, short_e, sValid_e, apply_e, equalI_e, bsearch_e, scontains_e]) (subC (bodyOf Try.f11) [1, 1, 1, 1, 1, 1, 1, 1, 1, 1, 1, 1, 1, 1, 1, 0, 1, 0, 0])) (kont Try.prog (conOf [awake_e, short_e, sValid_e, apply_e, equalI_e, bsearch_e, scontains_e]) (bodyOf Try.f11) [1, 1, 1, 1, 1, 1, 1, 1, 1, 1, 1, 1, 1, 1, 1, 0, 1, 0] (retPost Try.prog Try.f11 4 (sets_res l j d u))) (sets_L4_S1 l j d u i k q) := by
  have hE : sets_L4_E l j d u i k q (sets_L4_S1 l j d u i k q) := Eq.mp (sets_L4_entry1 l j d u i k q) h
  unfold sets_L4_E at hE
  obtain ⟨z, hE⟩ := getI_of hE
  refine loop_of (α := (Int)) (fun xx_ => sets_L4_F l j d u i k q xx_) (fun xx_ => sets_L4_I l j d u i k q xx_) (fun xx_ => sets_L4_m l j d u i k q xx_) (fun xx_ => sets_L4_N l j d u i k q xx_) (fun xx_ => sets_L4_T l j d u i k q xx_) (fun xx_ s_ h => ?_) ⟨z, hE⟩ (fun xx_ => sets_L4_tree l j d u i k q xx_) (fun xx_ hI => sets_L4_round l j d u i k q xx_ p0 p1 p2 p3 p4 p5 p6 p7 hI_L1 hI_L2 hI_L3 hI)
  unfold sets_L4_N at h
  obtain ⟨z, h⟩ := getI_of h
  exact ⟨z, h⟩
def sets_L3_T (l : List Int) (j : List Int) (d : List Int) (u : List Int) (i : Int) (k : Int) (q : Int) : Prop := (cnd (decide (q < (((List.length u) : Nat) : Int)))
  (cnd (decide ((0 : Int) ≤ q))
    (cnd (decide (q < (((List.length u) : Nat) : Int)))
      (cnd (decide ((((List.length (apL l ([] : List Int) d u)) : Nat) : Int) ≤ (1000000 : Int)))
        (cnd (!(hasV (List.getD u (Int.toNat q) (0 : Int)) (apL l ([] : List Int) d u)))
          (Bool.false = Bool.true)
          ((sets_L3_I l j d u i k (Go.IntKind.wrap Go.IntKind.i64 (q + (1 : Int)))) ∧ (((sets_L3_m l j d u i k (Go.IntKind.wrap Go.IntKind.i64 (q + (1 : Int)))) < (sets_L3_m l j d u i k q)) ∧ (((Go.IntKind.wrap Go.IntKind.i64 (q + (1 : Int))) = (Go.IntKind.wrap Go.IntKind.i64 (q + (1 : Int)))) ∧ (((((List.length u) : Nat) : Int) = (((List.length u) : Nat) : Int)) ∧ (True ∧ (True ∧ ((Bool.false = Bool.false) ∧ (True ∧ (True ∧ ((True ∧ (True ∧ True)) ∧ ((True ∧ (True ∧ True)) ∧ ((l = l) ∧ ((j = j) ∧ ((d = d) ∧ ((u = u) ∧ (((apL l ([] : List Int) ([] : List Int) ([] : List Int)) = (apL l ([] : List Int) ([] : List Int) ([] : List Int))) ∧ (((apL l ([] : List Int) d u) = (apL l ([] : List Int) d u)) ∧ True))))))))))))))))))
        False)
      False)
    False)
  (cnd ((!(decide ((apE l j ([] : List Int) ([] : List Int)) = (0 : Int)))) || (decide ((((List.length j) : Nat) : Int) = (0 : Int))))
    (((decide ((apE l j ([] : List Int) ([] : List Int)) = (0 : Int))) || (decide ((apE l j ([] : List Int) ([] : List Int)) = (2 : Int)))) = Bool.true)
    (LoopP (ex Try.prog (conOf [awake_e, short_e, sValid_e, apply_e, equalI_e, bsearch_e, scontains_e]) (subC (bodyOf Try.f11) [1, 1, 1, 1, 1, 1, 1, 1, 1, 1, 1, 1, 1, 1, 1, 0, 1, 0, 0])) (kont Try.prog (conOf [awake_e, short_e, sValid_e, apply_e, equalI_e, bsearch_e, scontains_e]) (bodyOf Try.f11) [1, 1, 1, 1, 1, 1, 1, 1, 1, 1, 1, 1, 1, 1, 1, 0, 1, 0] (retPost Try.prog Try.f11 4 (sets_res l j d u))) (sets_L4_S1 l j d u i k q))))
set_option maxRecDepth 100000 in
theorem sets_L3_tree (l : List Int) (j : List Int) (d : List Int) (u : List Int) (i : Int) (k : Int) (q : Int) : sets_L3_T l j d u i k q = ex Try.prog (conOf [awake_e, short_e, sValid_e, apply_e, equalI_e, bsearch_e, scontains_e]) (subC (bodyOf Try.f11) [1, 1, 1, 1, 1, 1, 1, 1, 1, 1, 1, 1, 0, 1, 0, 0]) (nextE (sets_L3_N l j d u i k q) (kont Try.prog (conOf [awake_e, short_e, sValid_e, apply_e, equalI_e, bsearch_e, scontains_e]) (bodyOf Try.f11) [1, 1, 1, 1, 1, 1, 1, 1, 1, 1, 1, 1, 0, 1, 0] (retPost Try.prog Try.f11 4 (sets_res l j d u)))) (sets_L3_F l j d u i k q) := by kernel_rfl
set_option maxRecDepth 100000 in
theorem sets_L3_round (l : List Int) (j : List Int) (d : List Int) (u : List Int) (i : Int) (k : Int) (q : Int) (p0 : (wfL .i64 l) = true) (p1 : (wfL .i64 j) = true) (p2 : (wfL .i64 d) = true) (p3 : (wfL .i64 u) = true) (p4 : (lenB l) = true) (p5 : (lenB j) = true) (p6 : (lenB d) = true) (p7 : (lenB u) = true) (hI_L1 : sets_L1_I l j d u i) (hI_L2 : sets_L2_I l j d u i k) (hI_L3 : sets_L3_I l j d u i k q) : sets_L3_T l j d u i k q := by
  have hI1 := hI_L1
  obtain ⟨⟨o1, o2, o3, o4⟩, _⟩ := hI1
  obtain ⟨a1, a2⟩ := hI_L3
  obtain ⟨v1, v2, v3⟩ := vE_iff.1 o1
  have hs := shB_len o2
  have hA := apL_len (l := l) (j := []) (d := d) (u := u)
  unfold sets_L3_T
  by_cases hi : q < u.length
  · rw [hasV_iff.2 ((apL_mem o4 _).2 (.inr (memD (l := u) (n := q.toNat) (by omega)))), decide_eq_true hi, decide_eq_true a1, decide_eq_true (show (((apL l [] d u).length : Nat) : Int) ≤ 1000000 by omega), w64 (n := q + 1) (by omega) (by omega)]
    exact ⟨⟨by omega, by omega⟩, by unfold sets_L3_m; omega, by simp⟩
  · rw [decide_eq_false hi]
    by_cases hz : apE l j [] [] = 0
    · rw [decide_eq_true hz]
      by_cases hj : ((j.length : Nat) : Int) = 0
      · rw [decide_eq_true hj]
        rfl
      · rw [decide_eq_false hj]
        exact sets_L4_1 l j d u i k q p0 p1 p2 p3 p4 p5 p6 p7 hI_L1 hI_L2 ⟨a1, a2⟩ ⟨⟨⟨hz, by omega⟩, by omega, by omega⟩, by simp⟩
    · have h5 := ap_jit (j := j) o1 o3 hs.1
      have h2 : apE l j [] [] = 2 := by rcases apE_or (j := j) (d := []) (u := []) o1 with h | h | h; exact absurd h hz; exact h; exact absurd h h5
      rw [h2]
      rfl
set_option maxRecDepth 100000 in
theorem sets_L3_entry1 (l : List Int) (j : List Int) (d : List Int) (u : List Int) (i : Int) (k : Int) : (((sets_L3_I l j d u i k (0 : Int)) ∧ (((0 : Int) = (0 : Int)) ∧ (((((List.length u) : Nat) : Int) = (((List.length u) : Nat) : Int)) ∧ (True ∧ (True ∧ ((Bool.false = Bool.false) ∧ (True ∧ (True ∧ ((True ∧ (True ∧ True)) ∧ ((True ∧ (True ∧ True)) ∧ ((l = l) ∧ ((j = j) ∧ ((d = d) ∧ ((u = u) ∧ (((apL l ([] : List Int) ([] : List Int) ([] : List Int)) = (apL l ([] : List Int) ([] : List Int) ([] : List Int))) ∧ (((apL l ([] : List Int) d u) = (apL l ([] : List Int) d u)) ∧ True))))))))))))))))) = sets_L3_E l j d u i k (sets_L3_S1 l j d u i k) := by kernel_rfl
theorem sets_L3_1 (l : List Int) (j : List Int) (d : List Int) (u : List Int) (i : Int) (k : Int) (p0 : (wfL .i64 l) = true) (p1 : (wfL .i64 j) = true) (p2 : (wfL .i64 d) = true) (p3 : (wfL .i64 u) = true) (p4 : (lenB l) = true) (p5 : (lenB j) = true) (p6 : (lenB d) = true) (p7 : (lenB u) = true) (hI_L1 : sets_L1_I l j d u i) (hI_L2 : sets_L2_I l j d u i k) (h : ((sets_L3_I l j d u i k (0 : Int)) ∧ (((0 : Int) = (0 : Int)) ∧ (((((List.length u) : Nat) : Int) = (((List.length u) : Nat) : Int)) ∧ (True ∧ (True ∧ ((Bool.false = Bool.false) ∧ (True ∧ (True ∧ ((True ∧ (True ∧ True)) ∧ ((True ∧ (True ∧ True)) ∧ ((l = l) ∧ ((j = j) ∧ ((d = d) ∧ ((u = u) ∧ (((apL l ([] : List Int) ([] : List Int) ([] : List Int)) = (apL l ([] : List Int) ([] : List Int) ([] : List Int))) ∧ (((apL l ([] : List Int) d u) = (apL l ([] : List Int) d u)) ∧ True))))))))))))))))) : LoopP (ex Try.prog (conOf [awake_e, short_e, sValid_e, apply_e, equalI_e, bsearch_e, scontains_e]) (subC (bodyOf Try.f11) [1, 1, 1, 1, 1, 1, 1, 1, 1, 1, 1, 1, 0, 1, 0, 0])) (kont Try.prog (conOf [awake_e, short_e, sValid_e, apply_e, equalI_e, bsearch_e, scontains_e]) (bodyOf Try.f11) [1, 1, 1, 1, 1, 1, 1, 1, 1, 1, 1, 1, 0, 1, 0] (retPost Try.prog Try.f11 4 (sets_res l j d u))) (sets_L3_S1 l j d u i k) := by
  have hE : sets_L3_E l j d u i k (sets_L3_S1 l j d u i k) := Eq.mp (sets_L3_entry1 l j d u i k) h
  unfold sets_L3_E at hE
  obtain ⟨q, hE⟩ := getI_of hE
  refine loop_of (α := (Int)) (fun xx_ => sets_L3_F l j d u i k xx_) (fun xx_ => sets_L3_I l j d u i k xx_) (fun xx_ => sets_L3_m l j d u i k xx_) (fun xx_ => sets_L3_N l j d u i k xx_) (fun xx_ => sets_L3_T l j d u i k xx_) (fun xx_ s_ h => ?_) ⟨q, hE⟩ (fun xx_ => sets_L3_tree l j d u i k xx_) (fun xx_ hI => sets_L3_round l j d u i k xx_ p0 p1 p2 p3 p4 p5 p6 p7 hI_L1 hI_L2 hI)
  unfold sets_L3_N at h
  obtain ⟨q, h⟩ := getI_of h
  exact ⟨q, h⟩
def sets_L2_T (l : List Int) (j : List Int) (d : List Int) (u : List Int) (i : Int) (k : Int) : Prop := (cnd (decide (k < (((List.length l) : Nat) : Int)))
  (cnd (decide ((0 : Int) ≤ k))
    (cnd (decide (k < (((List.length l) : Nat) : Int)))
      (cnd (decide ((((List.length d) : Nat) : Int) ≤ (1000000 : Int)))
        (cnd ((!((!(hasV k d)) == Bool.true)) || (decide ((((List.length (apL l ([] : List Int) d u)) : Nat) : Int) ≤ (1000000 : Int))))
          (cnd ((!(hasV k d)) && (!(hasV (List.getD l (Int.toNat k) (0 : Int)) (apL l ([] : List Int) d u))))
            (Bool.false = Bool.true)
            ((sets_L2_I l j d u i (Go.IntKind.wrap Go.IntKind.i64 (k + (1 : Int)))) ∧ (((sets_L2_m l j d u i (Go.IntKind.wrap Go.IntKind.i64 (k + (1 : Int)))) < (sets_L2_m l j d u i k)) ∧ (((Go.IntKind.wrap Go.IntKind.i64 (k + (1 : Int))) = (Go.IntKind.wrap Go.IntKind.i64 (k + (1 : Int)))) ∧ (((((List.length l) : Nat) : Int) = (((List.length l) : Nat) : Int)) ∧ (True ∧ (True ∧ ((Bool.false = Bool.false) ∧ (True ∧ (True ∧ ((True ∧ (True ∧ True)) ∧ ((True ∧ (True ∧ True)) ∧ ((l = l) ∧ ((j = j) ∧ ((d = d) ∧ ((u = u) ∧ (((apL l ([] : List Int) ([] : List Int) ([] : List Int)) = (apL l ([] : List Int) ([] : List Int) ([] : List Int))) ∧ (((apL l ([] : List Int) d u) = (apL l ([] : List Int) d u)) ∧ True))))))))))))))))))
          False)
        False)
      False)
    False)
  (LoopP (ex Try.prog (conOf [awake_e, short_e, sValid_e, apply_e, equalI_e, bsearch_e, scontains_e]) (subC (bodyOf Try.f11) [1, 1, 1, 1, 1, 1, 1, 1, 1, 1, 1, 1, 0, 1, 0, 0])) (kont Try.prog (conOf [awake_e, short_e, sValid_e, apply_e, equalI_e, bsearch_e, scontains_e]) (bodyOf Try.f11) [1, 1, 1, 1, 1, 1, 1, 1, 1, 1, 1, 1, 0, 1, 0] (retPost Try.prog Try.f11 4 (sets_res l j d u))) (sets_L3_S1 l j d u i k)))
set_option maxRecDepth 100000 in
theorem sets_L2_tree (l : List Int) (j : List Int) (d : List Int) (u : List Int) (i : Int) (k : Int) : sets_L2_T l j d u i k = ex Try.prog (conOf [awake_e, short_e, sValid_e, apply_e, equalI_e, bsearch_e, scontains_e]) (subC (bodyOf Try.f11) [1, 1, 1, 1, 1, 1, 1, 1, 1, 1, 1, 0, 1, 0, 0]) (nextE (sets_L2_N l j d u i k) (kont Try.prog (conOf [awake_e, short_e, sValid_e, apply_e, equalI_e, bsearch_e, scontains_e]) (bodyOf Try.f11) [1, 1, 1, 1, 1, 1, 1, 1, 1, 1, 1, 0, 1, 0] (retPost Try.prog Try.f11 4 (sets_res l j d u)))) (sets_L2_F l j d u i k) := by kernel_rfl
set_option maxRecDepth 100000 in
theorem sets_L2_round (l : List Int) (j : List Int) (d : List Int) (u : List Int) (i : Int) (k : Int) (p0 : (wfL .i64 l) = true) (p1 : (wfL .i64 j) = true) (p2 : (wfL .i64 d) = true) (p3 : (wfL .i64 u) = true) (p4 : (lenB l) = true) (p5 : (lenB j) = true) (p6 : (lenB d) = true) (p7 : (lenB u) = true) (hI_L1 : sets_L1_I l j d u i) (hI_L2 : sets_L2_I l j d u i k) : sets_L2_T l j d u i k := by
  have hI1 := hI_L1
  obtain ⟨⟨o1, o2, o3, o4⟩, _⟩ := hI1
  obtain ⟨a1, a2⟩ := hI_L2
  obtain ⟨v1, v2, v3⟩ := vE_iff.1 o1
  have hs := shB_len o2
  have hA := apL_len (l := l) (j := []) (d := d) (u := u)
  unfold sets_L2_T
  by_cases hi : k < l.length
  · rw [sets_key2 o4 a1 hi, decide_eq_true hi, decide_eq_true a1, decide_eq_true (show ((d.length : Nat) : Int) ≤ 1000000 by omega), decide_eq_true (show (((apL l [] d u).length : Nat) : Int) ≤ 1000000 by omega), Bool.or_true, w64 (n := k + 1) (by omega) (by omega)]
    exact ⟨⟨by omega, by omega⟩, by unfold sets_L2_m; omega, by simp⟩
  · rw [decide_eq_false hi]
    exact sets_L3_1 l j d u i k p0 p1 p2 p3 p4 p5 p6 p7 hI_L1 ⟨a1, a2⟩ ⟨⟨by omega, by omega⟩, by simp⟩
set_option maxRecDepth 100000 in
theorem sets_L2_entry1 (l : List Int) (j : List Int) (d : List Int) (u : List Int) (i : Int) : (((sets_L2_I l j d u i (0 : Int)) ∧ (((0 : Int) = (0 : Int)) ∧ (((((List.length l) : Nat) : Int) = (((List.length l) : Nat) : Int)) ∧ (True ∧ (True ∧ ((Bool.false = Bool.false) ∧ (True ∧ (True ∧ ((True ∧ (True ∧ True)) ∧ ((True ∧ (True ∧ True)) ∧ ((l = l) ∧ ((j = j) ∧ ((d = d) ∧ ((u = u) ∧ (((apL l ([] : List Int) ([] : List Int) ([] : List Int)) = (apL l ([] : List Int) ([] : List Int) ([] : List Int))) ∧ (((apL l ([] : List Int) d u) = (apL l ([] : List Int) d u)) ∧ True))))))))))))))))) = sets_L2_E l j d u i (sets_L2_S1 l j d u i) := by kernel_rfl
theorem sets_L2_1 (l : List Int) (j : List Int) (d : List Int) (u : List Int) (i : Int) (p0 : (wfL .i64 l) = true) (p1 : (wfL .i64 j) = true) (p2 : (wfL .i64 d) = true) (p3 : (wfL .i64 u) = true) (p4 : (lenB l) = true) (p5 : (lenB j) = true) (p6 : (lenB d) = true) (p7 : (lenB u) = true) (hI_L1 : sets_L1_I l j d u i) (h : ((sets_L2_I l j d u i (0 : Int)) ∧ (((0 : Int) = (0 : Int)) ∧ (((((List.length l) : Nat) : Int) = (((List.length l) : Nat) : Int)) ∧ (True ∧ (True ∧ ((Bool.false = Bool.false) ∧ (True ∧ (True ∧ ((True ∧ (True ∧ True)) ∧ ((True ∧ (True ∧ True)) ∧ ((l = l) ∧ ((j = j) ∧ ((d = d) ∧ ((u = u) ∧ (((apL l ([] : List Int) ([] : List Int) ([] : List Int)) = (apL l ([] : List Int) ([] : List Int) ([] : List Int))) ∧ (((apL l ([] : List Int) d u) = (apL l ([] : List Int) d u)) ∧ True))))))))))))))))) : LoopP (ex Try.prog (conOf [awake_e, short_e, sValid_e, apply_e, equalI_e, bsearch_e, scontains_e]) (subC (bodyOf Try.f11) [1, 1, 1, 1, 1, 1, 1, 1, 1, 1, 1, 0, 1, 0, 0])) (kont Try.prog (conOf [awake_e, short_e, sValid_e, apply_e, equalI_e, bsearch_e, scontains_e]) (bodyOf Try.f11) [1, 1, 1, 1, 1, 1, 1, 1, 1, 1, 1, 0, 1, 0] (retPost Try.prog Try.f11 4 (sets_res l j d u))) (sets_L2_S1 l j d u i) := by
  have hE : sets_L2_E l j d u i (sets_L2_S1 l j d u i) := Eq.mp (sets_L2_entry1 l j d u i) h
  unfold sets_L2_E at hE
  obtain ⟨k, hE⟩ := getI_of hE
  refine loop_of (α := (Int)) (fun xx_ => sets_L2_F l j d u i xx_) (fun xx_ => sets_L2_I l j d u i xx_) (fun xx_ => sets_L2_m l j d u i xx_) (fun xx_ => sets_L2_N l j d u i xx_) (fun xx_ => sets_L2_T l j d u i xx_) (fun xx_ s_ h => ?_) ⟨k, hE⟩ (fun xx_ => sets_L2_tree l j d u i xx_) (fun xx_ hI => sets_L2_round l j d u i xx_ p0 p1 p2 p3 p4 p5 p6 p7 hI_L1 hI)
  unfold sets_L2_N at h
  obtain ⟨k, h⟩ := getI_of h
  exact ⟨k, h⟩
def sets_L1_T (l : List Int) (j : List Int) (d : List Int) (u : List Int) (i : Int) : Prop := (cnd (decide (i < (((List.length (apL l ([] : List Int) d u)) : Nat) : Int)))
  (cnd (decide ((0 : Int) ≤ i))
    (cnd (decide (i < (((List.length (apL l ([] : List Int) d u)) : Nat) : Int)))
      (cnd (decide ((((List.length l) : Nat) : Int) ≤ (1000000 : Int)))
        (cnd (incr l)
          (cnd ((!((bsF l (List.getD (apL l ([] : List Int) d u) (Int.toNat i) (0 : Int))) == Bool.true)) || (decide ((((List.length d) : Nat) : Int) ≤ (1000000 : Int))))
            (cnd ((!((!((bsF l (List.getD (apL l ([] : List Int) d u) (Int.toNat i) (0 : Int))) && (!(hasV (((bsN l (List.getD (apL l ([] : List Int) d u) (Int.toNat i) (0 : Int))) : Nat) : Int) d)))) == Bool.true)) || (decide ((((List.length u) : Nat) : Int) ≤ (1000000 : Int))))
              (cnd ((!((bsF l (List.getD (apL l ([] : List Int) d u) (Int.toNat i) (0 : Int))) && (!(hasV (((bsN l (List.getD (apL l ([] : List Int) d u) (Int.toNat i) (0 : Int))) : Nat) : Int) d)))) && (!(hasV (List.getD (apL l ([] : List Int) d u) (Int.toNat i) (0 : Int)) u)))
                (Bool.false = Bool.true)
                ((sets_L1_I l j d u (Go.IntKind.wrap Go.IntKind.i64 (i + (1 : Int)))) ∧ (((sets_L1_m l j d u (Go.IntKind.wrap Go.IntKind.i64 (i + (1 : Int)))) < (sets_L1_m l j d u i)) ∧ (((Go.IntKind.wrap Go.IntKind.i64 (i + (1 : Int))) = (Go.IntKind.wrap Go.IntKind.i64 (i + (1 : Int)))) ∧ (((((List.length (apL l ([] : List Int) d u)) : Nat) : Int) = (((List.length (apL l ([] : List Int) d u)) : Nat) : Int)) ∧ (True ∧ (True ∧ ((Bool.false = Bool.false) ∧ (True ∧ (True ∧ ((True ∧ (True ∧ True)) ∧ ((True ∧ (True ∧ True)) ∧ ((l = l) ∧ ((j = j) ∧ ((d = d) ∧ ((u = u) ∧ (((apL l ([] : List Int) ([] : List Int) ([] : List Int)) = (apL l ([] : List Int) ([] : List Int) ([] : List Int))) ∧ (((apL l ([] : List Int) d u) = (apL l ([] : List Int) d u)) ∧ True))))))))))))))))))
              False)
            False)
          False)
        False)
      False)
    False)
  (LoopP (ex Try.prog (conOf [awake_e, short_e, sValid_e, apply_e, equalI_e, bsearch_e, scontains_e]) (subC (bodyOf Try.f11) [1, 1, 1, 1, 1, 1, 1, 1, 1, 1, 1, 0, 1, 0, 0])) (kont Try.prog (conOf [awake_e, short_e, sValid_e, apply_e, equalI_e, bsearch_e, scontains_e]) (bodyOf Try.f11) [1, 1, 1, 1, 1, 1, 1, 1, 1, 1, 1, 0, 1, 0] (retPost Try.prog Try.f11 4 (sets_res l j d u))) (sets_L2_S1 l j d u i)))
set_option maxRecDepth 100000 in
theorem sets_L1_tree (l : List Int) (j : List Int) (d : List Int) (u : List Int) (i : Int) : sets_L1_T l j d u i = ex Try.prog (conOf [awake_e, short_e, sValid_e, apply_e, equalI_e, bsearch_e, scontains_e]) (subC (bodyOf Try.f11) [1, 1, 1, 1, 1, 1, 1, 1, 1, 1, 0, 1, 0, 0]) (nextE (sets_L1_N l j d u i) (kont Try.prog (conOf [awake_e, short_e, sValid_e, apply_e, equalI_e, bsearch_e, scontains_e]) (bodyOf Try.f11) [1, 1, 1, 1, 1, 1, 1, 1, 1, 1, 0, 1, 0] (retPost Try.prog Try.f11 4 (sets_res l j d u)))) (sets_L1_F l j d u i) := by kernel_rfl
set_option maxRecDepth 100000 in
theorem sets_L1_round (l : List Int) (j : List Int) (d : List Int) (u : List Int) (i : Int) (p0 : (wfL .i64 l) = true) (p1 : (wfL .i64 j) = true) (p2 : (wfL .i64 d) = true) (p3 : (wfL .i64 u) = true) (p4 : (lenB l) = true) (p5 : (lenB j) = true) (p6 : (lenB d) = true) (p7 : (lenB u) = true) (hI_L1 : sets_L1_I l j d u i) : sets_L1_T l j d u i := by
  obtain ⟨⟨o1, o2, o3, o4⟩, a1, a2⟩ := hI_L1
  obtain ⟨v1, v2, v3⟩ := vE_iff.1 o1
  have hs := shB_len o2
  have hA := apL_len (l := l) (j := []) (d := d) (u := u)
  unfold sets_L1_T
  by_cases hi : i < (apL l [] d u).length
  · rw [sets_key1 o4 (memD (l := apL l [] d u) (n := i.toNat) (by omega)), decide_eq_true hi, decide_eq_true a1, decide_eq_true (show ((l.length : Nat) : Int) ≤ 1000000 by omega), v3, decide_eq_true (show ((d.length : Nat) : Int) ≤ 1000000 by omega), decide_eq_true (show ((u.length : Nat) : Int) ≤ 1000000 by omega), Bool.or_true, Bool.or_true, w64 (n := i + 1) (by omega) (by omega)]
    exact ⟨⟨⟨o1, o2, o3, o4⟩, by omega, by omega⟩, by unfold sets_L1_m; omega, by simp⟩
  · rw [decide_eq_false hi]
    exact sets_L2_1 l j d u i p0 p1 p2 p3 p4 p5 p6 p7 ⟨⟨o1, o2, o3, o4⟩, a1, a2⟩ ⟨⟨by omega, by omega⟩, by simp⟩
set_option maxRecDepth 100000 in
theorem sets_L1_entry1 (l : List Int) (j : List Int) (d : List Int) (u : List Int) : (((sets_L1_I l j d u (0 : Int)) ∧ (((0 : Int) = (0 : Int)) ∧ (((((List.length (apL l ([] : List Int) d u)) : Nat) : Int) = (((List.length (apL l ([] : List Int) d u)) : Nat) : Int)) ∧ (True ∧ (True ∧ ((Bool.false = Bool.false) ∧ (True ∧ (True ∧ ((True ∧ (True ∧ True)) ∧ ((True ∧ (True ∧ True)) ∧ ((l = l) ∧ ((j = j) ∧ ((d = d) ∧ ((u = u) ∧ (((apL l ([] : List Int) ([] : List Int) ([] : List Int)) = (apL l ([] : List Int) ([] : List Int) ([] : List Int))) ∧ (((apL l ([] : List Int) d u) = (apL l ([] : List Int) d u)) ∧ True))))))))))))))))) = sets_L1_E l j d u (sets_L1_S1 l j d u) := by kernel_rfl
theorem sets_L1_1 (l : List Int) (j : List Int) (d : List Int) (u : List Int) (p0 : (wfL .i64 l) = true) (p1 : (wfL .i64 j) = true) (p2 : (wfL .i64 d) = true) (p3 : (wfL .i64 u) = true) (p4 : (lenB l) = true) (p5 : (lenB j) = true) (p6 : (lenB d) = true) (p7 : (lenB u) = true) (h : ((sets_L1_I l j d u (0 : Int)) ∧ (((0 : Int) = (0 : Int)) ∧ (((((List.length (apL l ([] : List Int) d u)) : Nat) : Int) = (((List.length (apL l ([] : List Int) d u)) : Nat) : Int)) ∧ (True ∧ (True ∧ ((Bool.false = Bool.false) ∧ (True ∧ (True ∧ ((True ∧ (True ∧ True)) ∧ ((True ∧ (True ∧ True)) ∧ ((l = l) ∧ ((j = j) ∧ ((d = d) ∧ ((u = u) ∧ (((apL l ([] : List Int) ([] : List Int) ([] : List Int)) = (apL l ([] : List Int) ([] : List Int) ([] : List Int))) ∧ (((apL l ([] : List Int) d u) = (apL l ([] : List Int) d u)) ∧ True))))))))))))))))) : LoopP (ex Try.prog (conOf [awake_e, short_e, sValid_e, apply_e, equalI_e, bsearch_e, scontains_e]) (subC (bodyOf Try.f11) [1, 1, 1, 1, 1, 1, 1, 1, 1, 1, 0, 1, 0, 0])) (kont Try.prog (conOf [awake_e, short_e, sValid_e, apply_e, equalI_e, bsearch_e, scontains_e]) (bodyOf Try.f11) [1, 1, 1, 1, 1, 1, 1, 1, 1, 1, 0, 1, 0] (retPost Try.prog Try.f11 4 (sets_res l j d u))) (sets_L1_S1 l j d u) := by
  have hE : sets_L1_E l j d u (sets_L1_S1 l j d u) := Eq.mp (sets_L1_entry1 l j d u) h
  unfold sets_L1_E at hE
  obtain ⟨i, hE⟩ := getI_of hE
  refine loop_of (α := (Int)) (fun xx_ => sets_L1_F l j d u xx_) (fun xx_ => sets_L1_I l j d u xx_) (fun xx_ => sets_L1_m l j d u xx_) (fun xx_ => sets_L1_N l j d u xx_) (fun xx_ => sets_L1_T l j d u xx_) (fun xx_ s_ h => ?_) ⟨i, hE⟩ (fun xx_ => sets_L1_tree l j d u xx_) (fun xx_ hI => sets_L1_round l j d u xx_ p0 p1 p2 p3 p4 p5 p6 p7 hI)
  unfold sets_L1_N at h
  obtain ⟨i, h⟩ := getI_of h
  exact ⟨i, h⟩
set_option maxRecDepth 100000 in
theorem sets_tree (l : List Int) (j : List Int) (d : List Int) (u : List Int) : ((cnd (((decide ((400 : Int) < (((List.length l) : Nat) : Int))) || (!(shB j d u))) || (!(vE l)))
  (Bool.true = Bool.true)
  (cnd ((!((!(decide ((apE l ([] : List Int) ([] : List Int) ([] : List Int)) = (0 : Int)))) == Bool.false)) || (decide ((((List.length (apL l ([] : List Int) ([] : List Int) ([] : List Int))) : Nat) : Int) ≤ (1000000 : Int))))
    (cnd ((!((!(decide ((apE l ([] : List Int) ([] : List Int) ([] : List Int)) = (0 : Int)))) == Bool.false)) || (decide ((((List.length l) : Nat) : Int) ≤ (1000000 : Int))))
      (cnd ((!(decide ((apE l ([] : List Int) ([] : List Int) ([] : List Int)) = (0 : Int)))) || (!(decide ((apL l ([] : List Int) ([] : List Int) ([] : List Int)) = l))))
        (Bool.false = Bool.true)
        (cnd (!(decide ((apE l ([] : List Int) d u) = (0 : Int))))
          (((decide ((apE l ([] : List Int) d u) = (2 : Int))) || (decide ((apE l ([] : List Int) d u) = (5 : Int)))) = Bool.true)
          (cnd (!(vE (apL l ([] : List Int) d u)))
            (Bool.false = Bool.true)
            (LoopP (ex Try.prog (conOf [awake_e, short_e, sValid_e, apply_e, equalI_e, bsearch_e, scontains_e]) (subC (bodyOf Try.f11) [1, 1, 1, 1, 1, 1, 1, 1, 1, 1, 0, 1, 0, 0])) (kont Try.prog (conOf [awake_e, short_e, sValid_e, apply_e, equalI_e, bsearch_e, scontains_e]) (bodyOf Try.f11) [1, 1, 1, 1, 1, 1, 1, 1, 1, 1, 0, 1, 0] (retPost Try.prog Try.f11 4 (sets_res l j d u))) (sets_L1_S1 l j d u)))))
      False)
    False))) = EXD Try.prog (conOf [awake_e, short_e, sValid_e, apply_e, equalI_e, bsearch_e, scontains_e]) Try.f11 [.cel (.row 0), .agg [.row 1, .row 2, .row 3]] [.ints .i64 l, .ints .i64 j, .ints .i64 d, .ints .i64 u] [] (sets_res l j d u) := by kernel_rfl
theorem sets_holds (l : List Int) (j : List Int) (d : List Int) (u : List Int) (p0 : (wfL .i64 l) = true) (p1 : (wfL .i64 j) = true) (p2 : (wfL .i64 d) = true) (p3 : (wfL .i64 u) = true) (p4 : (lenB l) = true) (p5 : (lenB j) = true) (p6 : (lenB d) = true) (p7 : (lenB u) = true) : (cnd (((decide ((400 : Int) < (((List.length l) : Nat) : Int))) || (!(shB j d u))) || (!(vE l)))
  (Bool.true = Bool.true)
  (cnd ((!((!(decide ((apE l ([] : List Int) ([] : List Int) ([] : List Int)) = (0 : Int)))) == Bool.false)) || (decide ((((List.length (apL l ([] : List Int) ([] : List Int) ([] : List Int))) : Nat) : Int) ≤ (1000000 : Int))))
    (cnd ((!((!(decide ((apE l ([] : List Int) ([] : List Int) ([] : List Int)) = (0 : Int)))) == Bool.false)) || (decide ((((List.length l) : Nat) : Int) ≤ (1000000 : Int))))
      (cnd ((!(decide ((apE l ([] : List Int) ([] : List Int) ([] : List Int)) = (0 : Int)))) || (!(decide ((apL l ([] : List Int) ([] : List Int) ([] : List Int)) = l))))
        (Bool.false = Bool.true)
        (cnd (!(decide ((apE l ([] : List Int) d u) = (0 : Int))))
          (((decide ((apE l ([] : List Int) d u) = (2 : Int))) || (decide ((apE l ([] : List Int) d u) = (5 : Int)))) = Bool.true)
          (cnd (!(vE (apL l ([] : List Int) d u)))
            (Bool.false = Bool.true)
            (LoopP (ex Try.prog (conOf [awake_e, short_e, sValid_e, apply_e, equalI_e, bsearch_e, scontains_e]) (subC (bodyOf Try.f11) [1, 1, 1, 1, 1, 1, 1, 1, 1, 1, 0, 1, 0, 0])) (kont Try.prog (conOf [awake_e, short_e, sValid_e, apply_e, equalI_e, bsearch_e, scontains_e]) (bodyOf Try.f11) [1, 1, 1, 1, 1, 1, 1, 1, 1, 1, 0, 1, 0] (retPost Try.prog Try.f11 4 (sets_res l j d u))) (sets_L1_S1 l j d u)))))
      False)
    False)) := by
  refine cnd_i (fun _ => rfl) (fun h => ?_)
  simp only [Bool.or_eq_false_iff, Bool.not_eq_false', decide_eq_false_iff_not] at h
  obtain ⟨⟨h1, h2⟩, h3⟩ := h
  obtain ⟨n1, n2⟩ := ap_none h3
  obtain ⟨v1, v2, v3⟩ := vE_iff.1 h3
  rw [n1, n2, decide_eq_true (show ((l.length : Nat) : Int) ≤ 1000000 by omega), Bool.or_true, decide_eq_true (rfl : l = l), decide_eq_true (rfl : (0 : Int) = 0)]
  by_cases hz : apE l [] d u = 0
  · rw [decide_eq_true hz, apL_vE hz]
    have hI := sets_L1_1 l j d u p0 p1 p2 p3 p4 p5 p6 p7 ⟨⟨⟨h3, h2, by omega, hz⟩, by omega, by omega⟩, by simp⟩
    exact hI
  · rw [decide_eq_false hz]
    rcases apE_or (j := []) (d := d) (u := u) h3 with h | h | h
    · exact absurd h hz
    · rw [h]; rfl
    · rw [h]; rfl
set_option maxHeartbeats 2000000 in
theorem sets_ok : SoundEnt Try.prog sets_e := by
  refine ent_of_ex (Γ := (conOf [awake_e, short_e, sValid_e, apply_e, equalI_e, bsearch_e, scontains_e])) (conOf_sound (scons awake_ok (scons short_ok (scons sValid_ok (scons apply_ok (scons equalI_ok (scons bsearch_ok (scons scontains_ok snil)))))))) (by kernel_rfl) Try.func11 (by kernel_rfl) (by kernel_rfl) (fun args rows caps res h ho => ?_)
  change sets_go args rows caps = some res at h
  unfold sets_go at h
  split at h
  · simp only [Option.some.injEq] at h
    subst h
    rename_i q0_ q1_ q2_ q3_
    obtain ⟨p0, p1, p2, p3, p4, p5, p6, p7, _⟩ := ho
    exact EX.of (sets_tree q0_ q1_ q2_ q3_) (sets_holds q0_ q1_ q2_ q3_ p0 p1 p2 p3 p4 p5 p6 p7)
  · cases h
end Go.Proofs.Ythfliohfkhnpiaa

