/- Rows: what a slice of integers or of structs of them comes to. No program in sight. -/
import Derived.Test.YtoklfnonbfcdlaaE4
namespace Go.Proofs.Ytoklfnonbfcdlaa
set_option linter.unusedVariables false
set_option linter.unusedSimpArgs false
open Go.RowKit

theorem encR_length : ∀ (ks : List CK) (x : List Int) (j : Nat), (encR ks x j).length = ks.length
  | [], _, _ => rfl
  | .int _ :: r, x, j => by simp [encR, encR_length r]
  | .bool :: r, x, j => by simp [encR, encR_length r]
theorem encR_plain : ∀ (ks : List CK) (x : List Int) (j : Nat), ∀ c ∈ encR ks x j, c.det.isSome = true ∧ c.real = true
  | [], _, _, c, h => by cases h
  | .int k :: r, x, j, c, h => by
    simp only [encR, List.mem_cons] at h
    rcases h with rfl | h
    · exact ⟨rfl, rfl⟩
    · exact encR_plain r x (j + 1) c h
  | .bool :: r, x, j, c, h => by
    simp only [encR, List.mem_cons] at h
    rcases h with rfl | h
    · exact ⟨rfl, rfl⟩
    · exact encR_plain r x (j + 1) c h
theorem RowA.flat_plain (ro : RowA) : ∀ c ∈ ro.flat, c.det.isSome = true ∧ c.real = true := by
  cases ro with
  | ints k l => intro c h; simp only [RowA.flat, List.mem_map] at h; obtain ⟨x, _, rfl⟩ := h; exact ⟨rfl, rfl⟩
  | recs ks l => intro c h; simp only [RowA.flat, List.mem_flatMap] at h; obtain ⟨x, _, h⟩ := h; exact encR_plain _ _ _ c h
theorem RowA.flat_length (ro : RowA) : ro.flat.length = ro.len * ro.width := by
  cases ro with
  | ints k l => simp [RowA.flat, RowA.len, RowA.width]
  | recs ks l =>
    simp only [RowA.flat, RowA.len, RowA.width]
    induction l with
    | nil => simp
    | cons x r ih => rw [List.flatMap_cons, List.length_append, ih, encR_length, List.length_cons, Nat.succ_mul, Nat.add_comm]
theorem RowA.cells_flat (ro : RowA) (i j : Nat) (c : CV) (hi : i < ro.len) (hc : (ro.cells i)[j]? = some c) : ro.flat[i * ro.width + j]? = some c := by
  cases ro with
  | ints k l =>
    simp only [RowA.len] at hi
    simp only [RowA.cells] at hc
    cases j with
    | zero => simp at hc; subst hc; simp [RowA.flat, RowA.width, List.getElem?_eq_getElem hi]
    | succ j => simp at hc
  | recs ks l =>
    simp only [RowA.len] at hi
    simp only [RowA.cells] at hc
    simp only [RowA.flat, RowA.width]
    induction l generalizing i with
    | nil => simp at hi
    | cons x r ih =>
      rw [List.flatMap_cons]
      have hj : j < ks.length := by
        have := (List.getElem?_eq_some_iff.1 hc).1
        rwa [encR_length] at this
      cases i with
      | zero =>
        rw [List.getElem?_append_left (by rw [encR_length]; omega)]
        simpa using hc
      | succ i =>
        rw [List.getElem?_append_right (by rw [encR_length, Nat.succ_mul]; omega), encR_length, Nat.succ_mul, show i * ks.length + ks.length + j - ks.length = i * ks.length + j by omega]
        exact ih i (by simpa using hi) (by simpa using hc)
theorem CV.Den.any {κ κ' : Ctx} {c : CV} {x : Value} (h : c.Den κ x) (hd : c.det.isSome = true) : c.Den κ' x := by
  cases c <;> simp [CV.det] at hd <;> exact h

theorem rowOk_of_owns {κ : Ctx} {w : World} {base : Nat} {E : TypeId} {v : Value} {ro : RowA} {xs : List Value} (hd : DenL κ ro.flat xs) (h : w.ownsRow base E ro.width v ro.len xs) : RowOk w v ro := by
  rcases h.2 with ⟨h1, h2⟩ | ⟨g, cap, cur, h1, h2, h3, h4, h5, h6, h7⟩
  · exact ⟨none, 0, by rw [h2]; exact h1, by omega, Nat.zero_le _, fun h => by omega⟩
  · refine ⟨_, cap, h1, h4, h5, fun _ => ⟨g, 0, rfl, (Array.getElem?_eq_some_iff.1 h3).1, fun i hi j c hc => ?_⟩⟩
    have hf := RowA.cells_flat ro i j c hi hc
    obtain ⟨x, hx, hden⟩ := hd.get _ c hf
    refine ⟨x, ?_, fun κ' => hden.any (RowA.flat_plain ro c (List.mem_of_getElem? hf)).1⟩
    rw [Nat.zero_add, cell_of_row w g _ cur E (0, 0) h3]
    have hlt : i * ro.width + j < ro.len * ro.width := by
      have := (List.getElem?_eq_some_iff.1 hf).1
      rwa [RowA.flat_length] at this
    have e1 : (cur.toList.take (ro.len * ro.width))[i * ro.width + j]? = cur.toList[i * ro.width + j]? := by rw [List.getElem?_take]; simp [hlt]
    have e : cur.toList[i * ro.width + j]? = some x := by rw [← e1, h7]; exact hx
    simpa using e

def CK.beq : CK → CK → Bool
  | .int k, .int k' => k == k'
  | .bool, .bool => true
  | _, _ => false
def CK.beqL : List CK → List CK → Bool
  | [], [] => true
  | a :: r, b :: s => a.beq b && CK.beqL r s
  | _, _ => false
theorem CK.beqL_eq : ∀ {l m : List CK}, CK.beqL l m = true → l = m
  | [], [], _ => rfl
  | [], _ :: _, h => by cases h
  | _ :: _, [], h => by cases h
  | a :: r, b :: s, h => by
    simp only [CK.beqL, Bool.and_eq_true] at h
    have h1 : a = b := by cases a <;> cases b <;> simp_all [CK.beq]
    rw [h1, CK.beqL_eq h.2]
def RowA.append : RowA → RowA → Option RowA
  | .ints k l, .ints k' m => if k = k' then some (.ints k (l ++ m)) else none
  | .recs ks l, .recs ks' m => bif CK.beqL ks ks' then some (.recs ks (l ++ m)) else none
  | _, _ => none
theorem RowA.append_flat {a b c : RowA} (h : a.append b = some c) : c.flat = a.flat ++ b.flat ∧ c.width = a.width ∧ b.width = a.width ∧ c.len = a.len + b.len := by
  cases a with
  | ints k l =>
    cases b with
    | ints k' m =>
      simp only [RowA.append] at h
      split at h
      · rename_i e; subst e; simp only [Option.some.injEq] at h; subst h; simp [RowA.flat, RowA.width, RowA.len]
      · cases h
    | recs ks m => cases h
  | recs ks l =>
    cases b with
    | ints k' m => cases h
    | recs ks' m =>
      simp only [RowA.append] at h
      cases e : CK.beqL ks ks' with
      | false => rw [e] at h; simp at h
      | true =>
        rw [e] at h
        simp only [cond_true, Option.some.injEq] at h
        have := CK.beqL_eq e
        subst this h
        simp [RowA.flat, RowA.width, RowA.len]

/-- A row out of its elements' cells. -/
def decI : List CV → Option (List CK × List Int)
  | [] => some ([], [])
  | .int k n :: r => match decI r with
    | some (ks, x) => some (.int k :: ks, n :: x)
    | none => none
  | .bool b :: r => match decI r with
    | some (ks, x) => some (.bool :: ks, (cond b 1 0) :: x)
    | none => none
  | _ :: _ => none
theorem encR_shift : ∀ (ks : List CK) (x : List Int) (n : Int) (j : Nat), encR ks (n :: x) (j + 1) = encR ks x j
  | [], _, _, _ => rfl
  | .int k :: r, x, n, j => by simp [encR, encR_shift r x n (j + 1)]
  | .bool :: r, x, n, j => by simp [encR, encR_shift r x n (j + 1)]
theorem decI_enc : ∀ {cs : List CV} {ks : List CK} {x : List Int}, decI cs = some (ks, x) → encR ks x 0 = cs
  | [], ks, x, h => by simp only [decI, Option.some.injEq, Prod.mk.injEq] at h; obtain ⟨rfl, rfl⟩ := h; rfl
  | .int k n :: r, ks, x, h => by
    simp only [decI] at h
    cases hr : decI r with
    | none => simp [hr] at h
    | some p =>
      obtain ⟨ks', x'⟩ := p
      simp only [hr, Option.some.injEq, Prod.mk.injEq] at h
      obtain ⟨rfl, rfl⟩ := h
      simp [encR, encR_shift, decI_enc hr]
  | .bool b :: r, ks, x, h => by
    simp only [decI] at h
    cases hr : decI r with
    | none => simp [hr] at h
    | some p =>
      obtain ⟨ks', x'⟩ := p
      simp only [hr, Option.some.injEq, Prod.mk.injEq] at h
      obtain ⟨rfl, rfl⟩ := h
      cases b <;> simp [encR, encR_shift, decI_enc hr]
  | .ptr _ _ :: _, _, _, h => by cases h
  | .row _ :: _, _, _, h => by cases h
  | .elt _ _ _ _ :: _, _, _, h => by cases h
  | .nilS :: _, _, _, h => by cases h
  | .fn _ :: _, _, _, h => by cases h
  | .junk :: _, _, _, h => by cases h
def recsFl (ks : List CK) : Nat → List CV → Option (List (List Int))
  | 0, [] => some []
  | 0, _ :: _ => none
  | n + 1, cs => match decI (cs.take ks.length), recsFl ks n (cs.drop ks.length) with
    | some (ks', x), some l => bif CK.beqL ks ks' then some (x :: l) else none
    | _, _ => none
theorem recsFl_flat {ks : List CK} : ∀ (n : Nat) {cs : List CV} {l : List (List Int)}, recsFl ks n cs = some l → (RowA.recs ks l).flat = cs ∧ l.length = n
  | 0, [], l, h => by simp only [recsFl, Option.some.injEq] at h; subst h; exact ⟨rfl, rfl⟩
  | 0, _ :: _, l, h => by cases h
  | n + 1, cs, l, h => by
    simp only [recsFl] at h
    split at h
    · rename_i ks' x l' h1 h2
      cases e : CK.beqL ks ks' with
      | false => rw [e] at h; simp at h
      | true =>
        rw [e] at h
        simp only [cond_true, Option.some.injEq] at h
        have := CK.beqL_eq e
        subst this h
        obtain ⟨h3, h4⟩ := recsFl_flat n h2
        refine ⟨?_, by simp [h4]⟩
        simp only [RowA.flat] at h3 ⊢
        rw [List.flatMap_cons, h3, decI_enc h1, List.take_append_drop]
    · cases h
def intsFl (k : IntKind) : List CV → Option (List Int)
  | [] => some []
  | .int k' n :: r => match intsFl k r with
    | some l => if k = k' then some (n :: l) else none
    | none => none
  | _ :: _ => none
theorem intsFl_flat {k : IntKind} : ∀ {ts : List CV} {l : List Int}, intsFl k ts = some l → (RowA.ints k l).flat = ts ∧ l.length = ts.length
  | [], l, h => by simp only [intsFl, Option.some.injEq] at h; subst h; exact ⟨rfl, rfl⟩
  | .int k' n :: r, l, h => by
    simp only [intsFl] at h
    split at h
    · rename_i l' h1
      split at h
      · rename_i e
        simp only [Option.some.injEq] at h
        subst e h
        obtain ⟨h3, h4⟩ := intsFl_flat h1
        refine ⟨?_, by simp [h4]⟩
        simp only [RowA.flat] at h3 ⊢
        rw [List.map_cons, h3]
      · cases h
    · cases h
  | .bool _ :: _, _, h => by cases h
  | .ptr _ _ :: _, _, h => by cases h
  | .row _ :: _, _, h => by cases h
  | .elt _ _ _ _ :: _, _, h => by cases h
  | .nilS :: _, _, h => by cases h
  | .fn _ :: _, _, h => by cases h
  | .junk :: _, _, h => by cases h
def ksOf (P : Program) : List Field → Option (List CK)
  | [] => some []
  | f :: r => match P.underlying f.type, ksOf P r with
    | some (.int k), some ks => some (.int k :: ks)
    | some .bool, some ks => some (.bool :: ks)
    | _, _ => none
def mkRow (P : Program) (e : TypeId) (n : Nat) (cs : List CV) : Option RowA :=
  match P.underlying e with
  | some (.int k) => match intsFl k cs with
    | some l => bif Nat.beq l.length n then some (.ints k l) else none
    | none => none
  | some (.struct fs) => match ksOf P fs.toList with
    | some ks => match recsFl ks n cs with
      | some l => some (.recs ks l)
      | none => none
    | none => none
  | _ => none
theorem mkRow_flat {P : Program} {e : TypeId} {n : Nat} {cs : List CV} {ro : RowA} (h : mkRow P e n cs = some ro) : ro.flat = cs ∧ ro.len = n := by
  unfold mkRow at h
  split at h
  · split at h
    · rename_i l h1
      cases hb : Nat.beq l.length n with
      | false => rw [hb] at h; cases h
      | true =>
        rw [hb] at h
        simp only [cond_true, Option.some.injEq] at h
        subst h
        exact ⟨(intsFl_flat h1).1, Nat.eq_of_beq_eq_true hb⟩
    · cases h
  · split at h
    · split at h
      · rename_i l h1
        simp only [Option.some.injEq] at h
        subst h
        exact recsFl_flat n h1
      · cases h
    · cases h
  · cases h

def RowA.sub : RowA → Nat → Nat → RowA
  | .ints k l, lo, hi => .ints k ((l.take hi).drop lo)
  | .recs ks l, lo, hi => .recs ks ((l.take hi).drop lo)
theorem RowA.sub_len (ro : RowA) (lo hi : Nat) (h : hi ≤ ro.len) : (ro.sub lo hi).len = hi - lo := by cases ro <;> simp [RowA.sub, RowA.len] at * <;> omega
theorem RowA.sub_width (ro : RowA) (lo hi : Nat) : (ro.sub lo hi).width = ro.width := by cases ro <;> rfl
theorem RowA.sub_cells (ro : RowA) (lo hi i : Nat) (h : lo + i < hi) (h2 : hi ≤ ro.len) : (ro.sub lo hi).cells i = ro.cells (lo + i) := by
  cases ro with
  | ints k l =>
    simp only [RowA.len] at h2
    simp only [RowA.sub, RowA.cells]
    congr 2
    simp [h]
  | recs ks l =>
    simp only [RowA.len] at h2
    simp only [RowA.sub, RowA.cells]
    congr 1
    simp [h]

end Go.Proofs.Ytoklfnonbfcdlaa
