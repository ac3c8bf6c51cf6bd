/- The states of synchronization behind each edge of a list: plain laws. -/
import Derived.Test.YtcaadikffaflnaaV6
import Derived.Test.YtcaadikffaflnaaV7
namespace Go.Proofs.Ytcaadikffaflnaa
open Go.RowKit Go.Sort

def SyS.cells (s : SyS) : List Value := [.int .i64 s.m, .int .i64 s.th, .int .i64 s.la, .int .i64 s.pe, .int .i64 s.no, .int .i64 s.te]
theorem SyS.cells_length (s : SyS) : s.cells.length = 6 := rfl
def lost : SyS := ⟨0, 0, 0, 0, 0, 0⟩
def stepT (T M : Int) (s : SyS) (t : Int) : SyS := stepS T M s.m s.th s.la s.no s.te t
def validS (T M : Int) (s : SyS) : Bool := svld T M s.m s.th s.la s.pe s.no s.te
def runS (T M : Int) : SyS → List Int → List SyS
  | _, [] => []
  | s, t :: r => stepT T M s t :: runS T M (stepT T M s t) r

theorem lost_valid {T M : Int} (h : wvld T M = true) : validS T M lost = true := by simp [validS, svld, lost, h]

theorem gap_half {M n p : Int} (hM : M = 1 ∨ M = 2) (hn : 1 ≤ n) (h : gapB M n p = true) : 1 ≤ p / (M + 1) ∧ p / (M + 1) ≤ p := by
  rcases hM with rfl | rfl <;> simp [gapB] at h <;> omega

theorem fits_part {M n p : Int} (hM : M = 1 ∨ M = 2) (hn : 1 ≤ n) (h : fitsB p ((M + 1) * n) = true) : 1 ≤ p / (M + 1) ∧ p / (M + 1) ≤ p := by
  rcases hM with rfl | rfl <;> simp [fitsB] at h <;> omega

theorem stepS_valid {T M m th la pe no te t : Int} (hv : svld T M m th la pe no te = true) (ht : isTime t = true) (hlt : m ≠ 0 → la < t) :
    validS T M (stepS T M m th la no te t) = true ∧ ((stepS T M m th la no te t).m ≠ 0 → (stepS T M m th la no te t).la = t) := by
  obtain ⟨hw, hc⟩ := svld_cases hv
  obtain ⟨h1, h2, h3, h4, _⟩ := wvld_bd hw
  have hM : M = 1 ∨ M = 2 := by omega
  obtain ⟨t0, t1⟩ := time_bd ht
  unfold validS
  rcases hc with ⟨rfl, rfl, rfl, rfl, rfl, rfl⟩ | ⟨rfl, rfl, l0, l1, hc⟩ | ⟨rfl, th0, th1, l0, l1, p0, p1, n0, n1, rfl⟩
  · refine ⟨?_, fun _ => rfl⟩
    simp [stepS, svld, hw]; omega
  · have hlt := hlt (by decide)
    unfold stepS
    rw [if_pos rfl]
    by_cases hg : te = 2 ∧ gapB M no (t - la) = true
    · rw [if_pos hg]
      refine ⟨?_, fun _ => rfl⟩
      have hte := hg.1
      have := gap_half hM (show 1 ≤ no by omega) hg.2
      simp [svld, hw]; omega
    · rw [if_neg hg]
      refine ⟨?_, fun _ => rfl⟩
      by_cases hq : te ≠ 0 ∧ fitsB (t - la) no = true
      · rw [if_pos hq]; simp [svld, hw]; omega
      · rw [if_neg hq]; simp [svld, hw]; omega
  · have hlt := hlt (by decide)
    unfold stepS
    rw [if_neg (by decide), if_pos rfl]
    by_cases hf : fitsB (t - la) (expc T M th no) = false
    · rw [if_pos hf]
      refine ⟨by simp [svld, hw], fun h => absurd rfl h⟩
    · rw [if_neg hf]
      have hf' : fitsB (t - la) (expc T M th no) = true := by simpa using hf
      by_cases hl : th = T - M - 1
      · rw [if_pos hl]
        refine ⟨?_, fun _ => rfl⟩
        have he : expc T M th no = (M + 1) * no := by unfold expc; rw [if_pos hl]
        rw [he] at hf'
        have := fits_part hM n0 hf'
        simp [svld, hw]; omega
      · rw [if_neg hl]
        refine ⟨?_, fun _ => rfl⟩
        simp [svld, hw]; omega

theorem stepT_valid {T M : Int} {s : SyS} {t : Int} (hv : validS T M s = true) (ht : isTime t = true) (hlt : s.m ≠ 0 → s.la < t) : validS T M (stepT T M s t) = true ∧ ((stepT T M s t).m ≠ 0 → (stepT T M s t).la = t) :=
  stepS_valid hv ht hlt

/-- The loop of Run: behind k edges. -/
structure RelS (T M : Int) (l : List Int) (k : Nat) (s : SyS) (pre : List SyS) : Prop where
  vd : validS T M s = true
  bef : s.m ≠ 0 → ∃ j, j < k ∧ s.la = l.getD j 0
  all : pre ++ runS T M s (l.drop k) = runS T M lost l
  len : pre.length = k

theorem RelS.start {T M : Int} (l : List Int) (h : wvld T M = true) : RelS T M l 0 lost [] := ⟨lost_valid h, fun h => absurd rfl h, by simp, rfl⟩

theorem RelS.before {T M : Int} {l : List Int} {k : Nat} {s : SyS} {pre : List SyS} (h : RelS T M l k s pre) (hk : k < l.length) (hok : OkUpto l l.length) : isTime (l.getD k 0) = true ∧ (s.m ≠ 0 → s.la < l.getD k 0) := by
  refine ⟨by have := edge_time (hok k hk); simpa [isTime] using this, fun hm => ?_⟩
  obtain ⟨j, hj, e⟩ := h.bef hm
  rw [e]; exact mono_lt hok k hk j hj

theorem RelS.next {T M : Int} {l : List Int} {k : Nat} {s : SyS} {pre : List SyS} (h : RelS T M l k s pre) (hk : k < l.length) (hok : OkUpto l l.length) :
    RelS T M l (k + 1) (stepT T M s (l.getD k 0)) (pre ++ [stepT T M s (l.getD k 0)]) := by
  obtain ⟨h1, h2⟩ := h.before hk hok
  obtain ⟨h3, h4⟩ := stepT_valid h.vd h1 h2
  refine ⟨h3, fun hm => ⟨k, by omega, h4 hm⟩, ?_, by have := h.len; simp; omega⟩
  rw [← h.all, drop_cons l k hk, runS]; simp

theorem RelS.finish {T M : Int} {l : List Int} {s : SyS} {pre : List SyS} (h : RelS T M l l.length s pre) : pre = runS T M lost l := by
  have := h.all; simpa [runS] using this

theorem runS_length (T M : Int) (l : List Int) : ∀ s, (runS T M s l).length = l.length := by
  induction l with
  | nil => intro s; rfl
  | cons t r ih => intro s; simp [runS, ih]

end Go.Proofs.Ytcaadikffaflnaa
