/- Rows: what a slice of integers or of structs of them comes to. No program in sight. -/
import Derived.Test.YthfliohfkhnpiaaE4
namespace Go.Proofs.Ythfliohfkhnpiaa
set_option linter.unusedVariables false
set_option linter.unusedSimpArgs false
open Go.RowKit

theorem encR_length : ∀ (ks : List CK) (x : List Int) (j : Nat), (encR ks x j).length = ks.length
  | [], _, _ => rfl
  | .int _ :: r, x, j => by simp [encR, encR_length r]
  | .bool :: r, x, j => by simp [encR, encR_length r]
theorem encR_plain : ∀ (ks : List CK) (x : List Int) (j : Nat), ∀ c ∈ encR ks x j, c.det.isSome = true ∧ c.real = true
  | [], _, _, c, h => by cases h
  | .int k :: r, x, j, c, h => by
    simp only [encR, List.mem_cons] at h
    rcases h with rfl | h
    · exact ⟨rfl, rfl⟩
    · exact encR_plain r x (j + 1) c h
  | .bool :: r, x, j, c, h => by
    simp only [encR, List.mem_cons] at h
    rcases h with rfl | h
    · exact ⟨rfl, rfl⟩
    · exact encR_plain r x (j + 1) c h
theorem RowA.flat_plain (ro : RowA) : ∀ c ∈ ro.flat, c.det.isSome = true ∧ c.real = true := by
  cases ro with
  | ints k l => intro c h; simp only [RowA.flat, List.mem_map] at h; obtain ⟨x, _, rfl⟩ := h; exact ⟨rfl, rfl⟩
  | recs ks l => intro c h; simp only [RowA.flat, List.mem_flatMap] at h; obtain ⟨x, _, h⟩ := h; exact encR_plain _ _ _ c h
theorem RowA.flat_length (ro : RowA) : ro.flat.length = ro.len * ro.width := by
  cases ro with
  | ints k l => simp [RowA.flat, RowA.len, RowA.width]
  | recs ks l =>
    simp only [RowA.flat, RowA.len, RowA.width]
    induction l with
    | nil => simp
    | cons x r ih => rw [List.flatMap_cons, List.length_append, ih, encR_length, List.length_cons, Nat.succ_mul, Nat.add_comm]
theorem RowA.cells_flat (ro : RowA) (i j : Nat) (c : CV) (hi : i < ro.len) (hc : (ro.cells i)[j]? = some c) : ro.flat[i * ro.width + j]? = some c := by
  cases ro with
  | ints k l =>
    simp only [RowA.len] at hi
    simp only [RowA.cells] at hc
    cases j with
    | zero => simp at hc; subst hc; simp [RowA.flat, RowA.width, List.getElem?_eq_getElem hi]
    | succ j => simp at hc
  | recs ks l =>
    simp only [RowA.len] at hi
    simp only [RowA.cells] at hc
    simp only [RowA.flat, RowA.width]
    induction l generalizing i with
    | nil => simp at hi
    | cons x r ih =>
      rw [List.flatMap_cons]
      have hj : j < ks.length := by
        have := (List.getElem?_eq_some_iff.1 hc).1
        rwa [encR_length] at this
      cases i with
      | zero =>
        rw [List.getElem?_append_left (by rw [encR_length]; omega)]
        simpa using hc
      | succ i =>
        rw [List.getElem?_append_right (by rw [encR_length, Nat.succ_mul]; omega), encR_length, Nat.succ_mul, show i * ks.length + ks.length + j - ks.length = i * ks.length + j by omega]
        exact ih i (by simpa using hi) (by simpa using hc)
theorem CV.Den.any {κ κ' : Ctx} {c : CV} {x : Value} (h : c.Den κ x) (hd : c.det.isSome = true) : c.Den κ' x := by
  cases c <;> simp [CV.det] at hd <;> exact h

theorem rowOk_of_owns {κ : Ctx} {w : World} {base : Nat} {E : TypeId} {v : Value} {ro : RowA} {xs : List Value} (hd : DenL κ ro.flat xs) (h : w.ownsRow base E ro.width v ro.len xs) : RowOk w v ro := by
  rcases h.2 with ⟨h1, h2⟩ | ⟨g, cap, cur, h1, h2, h3, h4, h5, h6, h7⟩
  · exact ⟨none, 0, by rw [h2]; exact h1, by omega, Nat.zero_le _, fun h => by omega⟩
  · refine ⟨_, cap, h1, h4, h5, fun _ => ⟨g, 0, rfl, (Array.getElem?_eq_some_iff.1 h3).1, fun i hi j c hc => ?_⟩⟩
    have hf := RowA.cells_flat ro i j c hi hc
    obtain ⟨x, hx, hden⟩ := hd.get _ c hf
    refine ⟨x, ?_, fun κ' => hden.any (RowA.flat_plain ro c (List.mem_of_getElem? hf)).1⟩
    rw [Nat.zero_add, cell_of_row w g _ cur E (0, 0) h3]
    have hlt : i * ro.width + j < ro.len * ro.width := by
      have := (List.getElem?_eq_some_iff.1 hf).1
      rwa [RowA.flat_length] at this
    have e1 : (cur.toList.take (ro.len * ro.width))[i * ro.width + j]? = cur.toList[i * ro.width + j]? := by rw [List.getElem?_take]; simp [hlt]
    have e : cur.toList[i * ro.width + j]? = some x := by rw [← e1, h7]; exact hx
    simpa using e

def CK.beq : CK → CK → Bool
  | .int k, .int k' => k == k'
  | .bool, .bool => true
  | _, _ => false
def CK.beqL : List CK → List CK → Bool
  | [], [] => true
  | a :: r, b :: s => a.beq b && CK.beqL r s
  | _, _ => false
theorem CK.beqL_eq : ∀ {l m : List CK}, CK.beqL l m = true → l = m
  | [], [], _ => rfl
  | [], _ :: _, h => by cases h
  | _ :: _, [], h => by cases h
  | a :: r, b :: s, h => by
    simp only [CK.beqL, Bool.and_eq_true] at h
    have h1 : a = b := by cases a <;> cases b <;> simp_all [CK.beq]
    rw [h1, CK.beqL_eq h.2]
def RowA.append : RowA → RowA → Option RowA
  | .ints k l, .ints k' m => if k = k' then some (.ints k (l ++ m)) else none
  | .recs ks l, .recs ks' m => bif CK.beqL ks ks' then some (.recs ks (l ++ m)) else none
  | _, _ => none
theorem RowA.append_flat {a b c : RowA} (h : a.append b = some c) : c.flat = a.flat ++ b.flat ∧ c.width = a.width ∧ b.width = a.width ∧ c.len = a.len + b.len := by
  cases a with
  | ints k l =>
    cases b with
    | ints k' m =>
      simp only [RowA.append] at h
      split at h
      · rename_i e; subst e; simp only [Option.some.injEq] at h; subst h; simp [RowA.flat, RowA.width, RowA.len]
      · cases h
    | recs ks m => cases h
  | recs ks l =>
    cases b with
    | ints k' m => cases h
    | recs ks' m =>
      simp only [RowA.append] at h
      cases e : CK.beqL ks ks' with
      | false => rw [e] at h; simp at h
      | true =>
        rw [e] at h
        simp only [cond_true, Option.some.injEq] at h
        have := CK.beqL_eq e
        subst this h
        simp [RowA.flat, RowA.width, RowA.len]

/-- A row out of its elements' cells. -/
def decI : List CV → Option (List CK × List Int)
  | [] => some ([], [])
  | .int k n :: r => match decI r with
    | some (ks, x) => some (.int k :: ks, n :: x)
    | none => none
  | .bool b :: r => match decI r with
    | some (ks, x) => some (.bool :: ks, (cond b 1 0) :: x)
    | none => none
  | _ :: _ => none
theorem encR_shift : ∀ (ks : List CK) (x : List Int) (n : Int) (j : Nat), encR ks (n :: x) (j + 1) = encR ks x j
  | [], _, _, _ => rfl
  | .int k :: r, x, n, j => by simp [encR, encR_shift r x n (j + 1)]
  | .bool :: r, x, n, j => by simp [encR, encR_shift r x n (j + 1)]
theorem decI_enc : ∀ {cs : List CV} {ks : List CK} {x : List Int}, decI cs = some (ks, x) → encR ks x 0 = cs
  | [], ks, x, h => by simp only [decI, Option.some.injEq, Prod.mk.injEq] at h; obtain ⟨rfl, rfl⟩ := h; rfl
  | .int k n :: r, ks, x, h => by
    simp only [decI] at h
    cases hr : decI r with
    | none => simp [hr] at h
    | some p =>
      obtain ⟨ks', x'⟩ := p
      simp only [hr, Option.some.injEq, Prod.mk.injEq] at h
      obtain ⟨rfl, rfl⟩ := h
      simp [encR, encR_shift, decI_enc hr]
  | .bool b :: r, ks, x, h => by
    simp only [decI] at h
    cases hr : decI r with
    | none => simp [hr] at h
    | some p =>
      obtain ⟨ks', x'⟩ := p
      simp only [hr, Option.some.injEq, Prod.mk.injEq] at h
      obtain ⟨rfl, rfl⟩ := h
      cases b <;> simp [encR, encR_shift, decI_enc hr]
  | .ptr _ _ :: _, _, _, h => by cases h
  | .row _ :: _, _, _, h => by cases h
  | .elt _ _ _ _ :: _, _, _, h => by cases h
  | .nilS :: _, _, _, h => by cases h
  | .fn _ :: _, _, _, h => by cases h
  | .clo _ _ :: _, _, _, h => by cases h
  | .bsl _ _ :: _, _, _, h => by cases h
  | .junk :: _, _, _, h => by cases h
def recsFl (ks : List CK) : Nat → List CV → Option (List (List Int))
  | 0, [] => some []
  | 0, _ :: _ => none
  | n + 1, cs => match decI (cs.take ks.length), recsFl ks n (cs.drop ks.length) with
    | some (ks', x), some l => bif CK.beqL ks ks' then some (x :: l) else none
    | _, _ => none
theorem recsFl_flat {ks : List CK} : ∀ (n : Nat) {cs : List CV} {l : List (List Int)}, recsFl ks n cs = some l → (RowA.recs ks l).flat = cs ∧ l.length = n
  | 0, [], l, h => by simp only [recsFl, Option.some.injEq] at h; subst h; exact ⟨rfl, rfl⟩
  | 0, _ :: _, l, h => by cases h
  | n + 1, cs, l, h => by
    simp only [recsFl] at h
    split at h
    · rename_i ks' x l' h1 h2
      cases e : CK.beqL ks ks' with
      | false => rw [e] at h; simp at h
      | true =>
        rw [e] at h
        simp only [cond_true, Option.some.injEq] at h
        have := CK.beqL_eq e
        subst this h
        obtain ⟨h3, h4⟩ := recsFl_flat n h2
        refine ⟨?_, by simp [h4]⟩
        simp only [RowA.flat] at h3 ⊢
        rw [List.flatMap_cons, h3, decI_enc h1, List.take_append_drop]
    · cases h
def intsFl (k : IntKind) : List CV → Option (List Int)
  | [] => some []
  | .int k' n :: r => match intsFl k r with
    | some l => if k = k' then some (n :: l) else none
    | none => none
  | _ :: _ => none
theorem intsFl_flat {k : IntKind} : ∀ {ts : List CV} {l : List Int}, intsFl k ts = some l → (RowA.ints k l).flat = ts ∧ l.length = ts.length
  | [], l, h => by simp only [intsFl, Option.some.injEq] at h; subst h; exact ⟨rfl, rfl⟩
  | .int k' n :: r, l, h => by
    simp only [intsFl] at h
    split at h
    · rename_i l' h1
      split at h
      · rename_i e
        simp only [Option.some.injEq] at h
        subst e h
        obtain ⟨h3, h4⟩ := intsFl_flat h1
        refine ⟨?_, by simp [h4]⟩
        simp only [RowA.flat] at h3 ⊢
        rw [List.map_cons, h3]
      · cases h
    · cases h
  | .bool _ :: _, _, h => by cases h
  | .ptr _ _ :: _, _, h => by cases h
  | .row _ :: _, _, h => by cases h
  | .elt _ _ _ _ :: _, _, h => by cases h
  | .nilS :: _, _, h => by cases h
  | .fn _ :: _, _, h => by cases h
  | .clo _ _ :: _, _, h => by cases h
  | .bsl _ _ :: _, _, h => by cases h
  | .junk :: _, _, h => by cases h
def ksOf (P : Program) : List Field → Option (List CK)
  | [] => some []
  | f :: r => match P.underlying f.type, ksOf P r with
    | some (.int k), some ks => some (.int k :: ks)
    | some .bool, some ks => some (.bool :: ks)
    | _, _ => none
def mkRow (P : Program) (e : TypeId) (n : Nat) (cs : List CV) : Option RowA :=
  match P.underlying e with
  | some (.int k) => match intsFl k cs with
    | some l => bif Nat.beq l.length n then some (.ints k l) else none
    | none => none
  | some (.struct fs) => match ksOf P fs.toList with
    | some ks => match recsFl ks n cs with
      | some l => some (.recs ks l)
      | none => none
    | none => none
  | some .bool => match recsFl [.bool] n cs with
    | some l => some (.recs [.bool] l)
    | none => none
  | _ => none
theorem mkRow_flat {P : Program} {e : TypeId} {n : Nat} {cs : List CV} {ro : RowA} (h : mkRow P e n cs = some ro) : ro.flat = cs ∧ ro.len = n := by
  unfold mkRow at h
  split at h
  · split at h
    · rename_i l h1
      cases hb : Nat.beq l.length n with
      | false => rw [hb] at h; cases h
      | true =>
        rw [hb] at h
        simp only [cond_true, Option.some.injEq] at h
        subst h
        exact ⟨(intsFl_flat h1).1, Nat.eq_of_beq_eq_true hb⟩
    · cases h
  · split at h
    · split at h
      · rename_i l h1
        simp only [Option.some.injEq] at h
        subst h
        exact recsFl_flat n h1
      · cases h
    · cases h
  · split at h
    · rename_i l h1
      simp only [Option.some.injEq] at h
      subst h
      exact recsFl_flat n h1
    · cases h
  · cases h

def RowA.sub : RowA → Nat → Nat → RowA
  | .ints k l, lo, hi => .ints k ((l.take hi).drop lo)
  | .recs ks l, lo, hi => .recs ks ((l.take hi).drop lo)
theorem RowA.sub_len (ro : RowA) (lo hi : Nat) (h : hi ≤ ro.len) : (ro.sub lo hi).len = hi - lo := by cases ro <;> simp [RowA.sub, RowA.len] at * <;> omega
theorem RowA.sub_width (ro : RowA) (lo hi : Nat) : (ro.sub lo hi).width = ro.width := by cases ro <;> rfl
theorem RowA.sub_cells (ro : RowA) (lo hi i : Nat) (h : lo + i < hi) (h2 : hi ≤ ro.len) : (ro.sub lo hi).cells i = ro.cells (lo + i) := by
  cases ro with
  | ints k l =>
    simp only [RowA.len] at h2
    simp only [RowA.sub, RowA.cells]
    congr 2
    simp [h]
  | recs ks l =>
    simp only [RowA.len] at h2
    simp only [RowA.sub, RowA.cells]
    congr 1
    simp [h]

theorem RowA.cells_length (ro : RowA) (i : Nat) : (ro.cells i).length = ro.width := by
  cases ro with
  | ints k l => rfl
  | recs ks l => exact encR_length _ _ _

/-- A row with one element anew. -/
def RowA.put (ro : RowA) (i : Nat) (cs : List CV) : Option RowA :=
  match ro with
  | .ints k l => match cs with
    | [.int k' n] => if k = k' then some (.ints k (l.set i n)) else none
    | _ => none
  | .recs ks l => match decI cs with
    | some (ks', x) => bif CK.beqL ks ks' then some (.recs ks (l.set i x)) else none
    | none => none
theorem RowA.put_len {ro rn : RowA} {i : Nat} {cs : List CV} (h : ro.put i cs = some rn) : rn.len = ro.len ∧ rn.width = ro.width := by
  unfold RowA.put at h
  split at h
  · split at h
    · split at h
      · simp only [Option.some.injEq] at h; subst h; simp [RowA.len, RowA.width]
      · cases h
    · cases h
  · rename_i ks l
    split at h
    · rename_i ks' x _
      cases e : CK.beqL ks ks' with
      | false => rw [e] at h; cases h
      | true => rw [e] at h; simp only [cond_true, Option.some.injEq] at h; subst h; simp [RowA.len, RowA.width]
    · cases h
theorem RowA.put_flat {ro rn : RowA} {i : Nat} {cs : List CV} (hi : i < ro.len) (h : ro.put i cs = some rn) : rn.flat = ro.flat.take (i * ro.width) ++ cs ++ ro.flat.drop ((i + 1) * ro.width) ∧ cs.length = ro.width := by
  unfold RowA.put at h
  split at h
  · rename_i k l
    split at h
    · rename_i k' n
      split at h
      · rename_i e
        subst e
        simp only [Option.some.injEq] at h
        subst h
        simp only [RowA.len] at hi
        refine ⟨?_, rfl⟩
        simp only [RowA.flat, RowA.width, Nat.mul_one]
        rw [List.map_set, List.set_eq_take_append_cons_drop, if_pos (by simpa using hi)]
        simp
      · cases h
    · cases h
  · rename_i ks l
    split at h
    · rename_i ks' x hd
      cases e : CK.beqL ks ks' with
      | false => rw [e] at h; cases h
      | true =>
        rw [e] at h
        simp only [cond_true, Option.some.injEq] at h
        have := CK.beqL_eq e
        subst this h
        simp only [RowA.len] at hi
        have hc := decI_enc hd
        refine ⟨?_, by rw [← hc, encR_length]; rfl⟩
        simp only [RowA.flat, RowA.width]
        have key : ∀ (l : List (List Int)) (i : Nat), i < l.length → (l.set i x).flatMap (encR ks · 0) = (l.flatMap (encR ks · 0)).take (i * ks.length) ++ cs ++ (l.flatMap (encR ks · 0)).drop ((i + 1) * ks.length) := by
          intro l
          induction l with
          | nil => intro i h; simp at h
          | cons y r ih =>
            intro i h
            cases i with
            | zero =>
              simp only [List.set_cons_zero, List.flatMap_cons, hc, Nat.zero_mul, List.take_zero, List.nil_append, Nat.zero_add, Nat.one_mul]
              rw [List.drop_append, encR_length, Nat.sub_self, List.drop_zero, List.drop_of_length_le (by rw [encR_length]; exact Nat.le_refl _), List.nil_append]
            | succ i =>
              simp only [List.set_cons_succ, List.flatMap_cons]
              rw [ih i (by simpa using h), List.take_append (l₁ := encR ks y 0), List.drop_append (l₁ := encR ks y 0), encR_length]
              have e3 : List.take ((i + 1) * ks.length) (encR ks y 0) = encR ks y 0 := List.take_of_length_le (by rw [encR_length, Nat.succ_mul]; omega)
              have e4 : List.drop ((i + 1 + 1) * ks.length) (encR ks y 0) = [] := List.drop_of_length_le (by rw [encR_length, Nat.succ_mul (i + 1), Nat.succ_mul]; omega)
              have e1 : (i + 1) * ks.length - ks.length = i * ks.length := by rw [Nat.succ_mul]; omega
              have e2 : (i + 1 + 1) * ks.length - ks.length = (i + 1) * ks.length := by rw [Nat.succ_mul (i + 1)]; omega
              rw [e1, e2, e3, e4]
              simp [List.append_assoc]
        exact key l i hi
    · cases h
/-- What copy makes of a row. -/
def RowA.copyIn : RowA → RowA → Option RowA
  | .ints k l, .ints k' m => if k = k' then some (.ints k (m.take l.length ++ l.drop m.length)) else none
  | .recs ks l, .recs ks' m => bif CK.beqL ks ks' then some (.recs ks (m.take l.length ++ l.drop m.length)) else none
  | _, _ => none
theorem flatMap_enc_take (ks : List CK) : ∀ (l : List (List Int)) (n : Nat), (l.take n).flatMap (encR ks · 0) = (l.flatMap (encR ks · 0)).take (n * ks.length)
  | [], n => by simp
  | x :: r, 0 => by simp
  | x :: r, n + 1 => by
    rw [List.take_succ_cons, List.flatMap_cons, List.flatMap_cons, flatMap_enc_take ks r n, List.take_append, encR_length, List.take_of_length_le (l := encR ks x 0) (by rw [encR_length, Nat.succ_mul]; omega), show (n + 1) * ks.length - ks.length = n * ks.length by rw [Nat.succ_mul]; omega]
theorem flatMap_enc_drop (ks : List CK) : ∀ (l : List (List Int)) (n : Nat), (l.drop n).flatMap (encR ks · 0) = (l.flatMap (encR ks · 0)).drop (n * ks.length)
  | [], n => by simp
  | x :: r, 0 => by simp
  | x :: r, n + 1 => by
    rw [List.drop_succ_cons, List.flatMap_cons, flatMap_enc_drop ks r n, List.drop_append, encR_length, List.drop_of_length_le (l := encR ks x 0) (by rw [encR_length, Nat.succ_mul]; omega), show (n + 1) * ks.length - ks.length = n * ks.length by rw [Nat.succ_mul]; omega, List.nil_append]
theorem RowA.copyIn_flat {a b c : RowA} (h : a.copyIn b = some c) : c.flat = b.flat.take (min b.len a.len * a.width) ++ a.flat.drop (min b.len a.len * a.width) ∧ c.width = a.width ∧ b.width = a.width ∧ c.len = a.len := by
  cases a with
  | ints k l =>
    cases b with
    | recs ks m => cases h
    | ints k' m =>
      simp only [RowA.copyIn] at h
      split at h
      · rename_i e
        subst e
        simp only [Option.some.injEq] at h
        subst h
        refine ⟨?_, rfl, rfl, by simp [RowA.len]; omega⟩
        simp only [RowA.flat, RowA.len, RowA.width, Nat.mul_one, List.map_append, List.map_take, List.map_drop]
        congr 1
        · rw [← List.map_take, ← List.map_take]
          congr 1
          rcases Nat.le_total m.length l.length with e | e
          · rw [Nat.min_eq_left e, List.take_of_length_le e, List.take_of_length_le (Nat.le_refl _)]
          · rw [Nat.min_eq_right e]
        · rcases Nat.le_total m.length l.length with e | e
          · rw [Nat.min_eq_left e]
          · rw [Nat.min_eq_right e, List.drop_of_length_le (by simpa using e), List.drop_of_length_le (by simp)]
      · cases h
  | recs ks l =>
    cases b with
    | ints k' m => cases h
    | recs ks' m =>
      simp only [RowA.copyIn] at h
      cases e : CK.beqL ks ks' with
      | false => rw [e] at h; cases h
      | true =>
        rw [e] at h
        simp only [cond_true, Option.some.injEq] at h
        have := CK.beqL_eq e
        subst this h
        refine ⟨?_, rfl, rfl, by simp [RowA.len]; omega⟩
        simp only [RowA.flat, RowA.len, RowA.width]
        rw [List.flatMap_append, ← flatMap_enc_take, ← flatMap_enc_drop]
        congr 2
        · rcases Nat.le_total m.length l.length with e | e
          · rw [Nat.min_eq_left e, List.take_of_length_le e, List.take_of_length_le (Nat.le_refl _)]
          · rw [Nat.min_eq_right e]
        · rcases Nat.le_total m.length l.length with e | e
          · rw [Nat.min_eq_left e]
          · rw [Nat.min_eq_right e, List.drop_of_length_le e, List.drop_of_length_le (Nat.le_refl _)]
/-- A row of n zeros. -/
def zeroRow (P : Program) (e : TypeId) (n : Nat) : Option RowA :=
  match P.underlying e with
  | some (.int k) => some (.ints k (List.replicate n 0))
  | some .bool => some (.recs [.bool] (List.replicate n [0]))
  | some (.struct fs) => match ksOf P fs.toList with
    | some ks => some (.recs ks (List.replicate n (List.replicate ks.length 0)))
    | none => none
  | _ => none
def zeroCs (P : Program) (e : TypeId) : Option (List CV) :=
  match P.underlying e with
  | some (.int k) => some [.int k 0]
  | some .bool => some [.bool false]
  | some (.struct fs) => (ksOf P fs.toList).map fun ks => ks.map fun
    | .int k => .int k 0
    | .bool => .bool false
  | _ => none
theorem encR_zero : ∀ (ks : List CK) (n j : Nat), encR ks (List.replicate n 0) j = ks.map fun
    | .int k => .int k 0
    | .bool => .bool false
  | [], _, _ => rfl
  | k :: r, n, j => by
    have hz : (List.replicate n (0 : Int))[j]?.getD 0 = 0 := by
      rw [List.getElem?_replicate]; split <;> rfl
    cases k <;> simp [encR, encR_zero r, hz]
theorem flatMap_replicate' {α β : Type} (f : α → List β) (x : α) : ∀ n, (List.replicate n x).flatMap f = (List.replicate n (f x)).flatten
  | 0 => rfl
  | n + 1 => by simp [List.replicate_succ, flatMap_replicate' f x n]
theorem zeroRow_flat {P : Program} {e : TypeId} {n : Nat} {ro : RowA} (h : zeroRow P e n = some ro) : ∃ cs, zeroCs P e = some cs ∧ ro.flat = (List.replicate n cs).flatten ∧ ro.len = n ∧ ro.width = cs.length := by
  unfold zeroRow at h
  unfold zeroCs
  split at h
  · rename_i k hu
    simp only [Option.some.injEq] at h
    subst h
    refine ⟨_, rfl, ?_, by simp [RowA.len], rfl⟩
    simp only [RowA.flat, List.map_replicate]
    induction n with
    | zero => rfl
    | succ n ih => rw [List.replicate_succ, List.replicate_succ, List.flatten_cons, ← ih]; rfl
  · rename_i hu
    simp only [Option.some.injEq] at h
    subst h
    refine ⟨_, rfl, ?_, by simp [RowA.len], rfl⟩
    simp only [RowA.flat]
    rw [flatMap_replicate']
    rfl
  · rename_i fs hu
    split at h
    · rename_i ks hks
      simp only [Option.some.injEq] at h
      subst h
      simp only [hks]
      refine ⟨_, rfl, ?_, by simp [RowA.len], by simp [RowA.width]⟩
      simp only [RowA.flat]
      rw [flatMap_replicate', encR_zero]
    · cases h
  · cases h

end Go.Proofs.Ythfliohfkhnpiaa
