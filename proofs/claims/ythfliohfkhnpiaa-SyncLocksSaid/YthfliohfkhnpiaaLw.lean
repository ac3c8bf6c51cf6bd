/- From a contract to the law's walk. No program in sight. -/
import Derived.Test.YthfliohfkhnpiaaEd
import Derived.Test.YthfliohfkhnpiaaBase
namespace Go.Proofs.Ythfliohfkhnpiaa
set_option linter.unusedVariables false
set_option linter.unusedSimpArgs false
open Go.RowKit

def wfI (k : IntKind) (n : Int) : Bool := (Lit.int k n).wf
def wfL (k : IntKind) (l : List Int) : Bool := l.all (wfI k)
theorem wfI64 {n : Int} : wfI .i64 n = true ↔ -9223372036854775808 ≤ n ∧ n ≤ 9223372036854775807 := ⟨i64_bd, i64_wf⟩
theorem wfU8 {n : Int} (h : wfI .u8 n = true) : 0 ≤ n ∧ n ≤ 255 := u8_bd h
theorem wfU16 {n : Int} (h : wfI .u16 n = true) : 0 ≤ n ∧ n ≤ 65535 := u16_bd h
theorem wfU32 {n : Int} (h : wfI .u32 n = true) : 0 ≤ n ∧ n ≤ 4294967295 := u32_bd h
theorem wfL64 {l : List Int} : wfL .i64 l = true ↔ ∀ n ∈ l, -9223372036854775808 ≤ n ∧ n ≤ 9223372036854775807 := by
  simp only [wfL, List.all_eq_true, wfI64]
theorem wfL_of {w : World} {v : Value} {l : List Int} (h : Row w v l) : wfL .i64 l = true := List.all_eq_true.2 fun n hn => h.wf n hn
theorem rowOk_of {w : World} {v : Value} {l : List Int} (h : Row w v l) : RowOk w v (.ints .i64 l) := by
  obtain ⟨⟨a, cap, h1, h2, h3, h4⟩, _⟩ := h
  refine ⟨a, cap, h1, h2, h3, fun hl => ?_⟩
  have hne : l ≠ [] := fun e => by subst e; exact absurd hl (Nat.lt_irrefl _)
  obtain ⟨b, off, h5, h6, h7⟩ := h4 hne
  refine ⟨b, off, h5, h6, fun i hi j c hc => ?_⟩
  have hi : i < l.length := hi
  have hc : [CV.int .i64 (l.getD i 0)][j]? = some c := hc
  cases j with
  | zero =>
    simp only [List.getElem?_cons_zero, Option.some.injEq] at hc
    subst hc
    refine ⟨_, ?_, fun κ => rfl⟩
    have := h7 i hi
    simpa [RowA.width] using this
  | succ j => simp at hc

theorem walk_of {P : Program} {e : Ent} (h : SoundEnt P e) {args : List TV} {rows : List RowA} {res : CRes} (hgo : e.go args rows [] = some res) (hpre : AllB res.pre) (hv : res.val = .one (.cel (.bool true))) {W : World} {ρ vs : List Value} (hrows : RowsAre rows W ρ) (hargs : DenT ⟨W, [], [], ρ⟩ args vs) :
    Calls P e.f vs.toArray W fun en w' => en = .returned (.bool true) ∧ Below W.heap.size W w' := by
  refine (h args rows [] res hgo hpre W ρ [] vs hrows ⟨rfl, fun j b cs h => (by simp at h), List.nodup_nil, fun _ _ _ _ _ _ _ _ => (by simp)⟩ hargs).2.mono fun en w' hp => ?_
  obtain ⟨x, ρ', h1, h2, h3, _⟩ := hp
  rw [hv] at h3
  have h3 : x = .bool true := h3
  exact ⟨by rw [h1, h3], h2⟩
theorem rowsAre0 (W : World) : RowsAre [] W [] := ⟨rfl, fun r ro v h => by simp at h⟩
theorem rowsAre_cons {W : World} {ro : RowA} {v : Value} {rows : List RowA} {ρ : List Value} (h : RowOk W v ro) (hr : RowsAre rows W ρ) : RowsAre (ro :: rows) W (v :: ρ) := by
  refine ⟨by simp [hr.1], fun r ro' v' h1 h2 => ?_⟩
  cases r with
  | zero =>
    simp only [List.getElem?_cons_zero, Option.some.injEq] at h1 h2
    subst h1; subst h2; exact h
  | succ r => exact hr.2 r ro' v' (by simpa using h1) (by simpa using h2)
theorem den_row {κ : Ctx} {r : Nat} {v : Value} {ro : RowA} {w : World} (h : RowOk w v ro) (hr : κ.ρ[r]? = some v) : (TV.cel (.row r)).Den κ v := by
  obtain ⟨a, c, h1, _⟩ := h
  exact ⟨hr, _, _, _, h1⟩

/-- A list that can lie in memory. -/
def lenB {α : Type} (l : List α) : Bool := Nat.ble l.length 9223372036854775807
theorem lenB_iff {α : Type} {l : List α} : lenB l = true ↔ l.length ≤ 9223372036854775807 := by unfold lenB; rw [Nat.ble_eq]
theorem lenB_of {w : World} {v : Value} {k : IntKind} {l : List Int} (h : RowOk w v (.ints k l)) : lenB l = true := by
  obtain ⟨a, cap, h1, h2, h3, _⟩ := h
  have h2 : l.length ≤ cap := h2
  unfold maxLen at h3
  exact lenB_iff.2 (by omega)
theorem lenB_ofR {w : World} {v : Value} {ks : List CK} {l : List (List Int)} (h : RowOk w v (.recs ks l)) : lenB l = true := by
  obtain ⟨a, cap, h1, h2, h3, _⟩ := h
  have h2 : l.length ≤ cap := h2
  unfold maxLen at h3
  exact lenB_iff.2 (by omega)
end Go.Proofs.Ythfliohfkhnpiaa
