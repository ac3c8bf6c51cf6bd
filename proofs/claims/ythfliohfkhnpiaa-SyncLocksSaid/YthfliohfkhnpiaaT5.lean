/- Tolerated noise: the spaces, the teeth, and what the filter accepts. -/
import Derived.Test.YthfliohfkhnpiaaT4
namespace Go.Proofs.Ythfliohfkhnpiaa
set_option linter.unusedVariables false
set_option linter.unusedSimpArgs false
open Go.RowKit

/-- The tooth of an edge. -/
def tauN (T M s : Int) (m : List (List Int)) (e : Int) (n : Nat) : Int := tthAt T M ((eL T M s (posOf s m e)).getD n 0)
theorem eL_next {T M s b : Int} (hw : wValid T M = true) (hs : 0 ≤ s) {n : Nat} (hn : n < (eL T M s b).length) : ∃ y, 0 ≤ y ∧ (eL T M s b).getD n 0 = nxA T M y ∧ (n = 0 → y = s) ∧ (∀ k, n = k + 1 → y = (eL T M s b).getD k 0) := by
  cases n with
  | zero => exact ⟨s, hs, edg_head _ _ _ hn, fun _ => rfl, fun k h => by omega⟩
  | succ n =>
    have h := (eL_spec (b := b) hw hs).1 _ (memD (show n < (eL T M s b).length by omega))
    exact ⟨(eL T M s b).getD n 0, h.2.2.1, edg_step _ _ _ n hn, fun h => by omega, fun k h => by rw [show k = n by omega]⟩
theorem tau_bd {T M s b : Int} (hw : wValid T M = true) (hs : 0 ≤ s) {n : Nat} (hn : n < (eL T M s b).length) : 0 ≤ tthAt T M ((eL T M s b).getD n 0) ∧ tthAt T M ((eL T M s b).getD n 0) < T - M := by
  obtain ⟨y, y0, y1, _⟩ := eL_next (b := b) hw hs hn
  obtain ⟨h1, h2, h3⟩ := nx_tooth hw y0
  rw [y1, h1]
  exact ⟨h2, h3⟩
theorem mul_cancel {a b c : Int} (hc : 0 < c) (h : a * c = b * c) : a = b := Int.eq_of_mul_eq_mul_right (by omega) h
/-- Each space is one or the gap; the teeth come in turn. -/
theorem tau_step {T M s b : Int} (hw : wValid T M = true) (hs : 0 ≤ s) {n : Nat} (hn : n + 1 < (eL T M s b).length) :
    (spsL T M (eL T M s b)).getD n 0 = (if tthAt T M ((eL T M s b).getD (n + 1) 0) = 0 then M + 1 else 1) ∧ tthAt T M ((eL T M s b).getD (n + 1) 0) = (if tthAt T M ((eL T M s b).getD n 0) = T - M - 1 then 0 else tthAt T M ((eL T M s b).getD n 0) + 1) := by
  obtain ⟨b0, b1, b2, b3⟩ := spc_bd hw
  obtain ⟨t1, t2⟩ := tau_bd (b := b) hw hs (show n < (eL T M s b).length by omega)
  have he := (eL_spec (b := b) hw hs).1 _ (memD (show n < (eL T M s b).length by omega))
  have hk := (k_step (b := b) hw hs hn).1
  have hst : (eL T M s b).getD (n + 1) 0 = nxA T M ((eL T M s b).getD n 0) := edg_step _ _ _ n hn
  obtain ⟨g1, g2, g3⟩ := nx_step hw he.2.2 t2
  have g4 := (nx_tooth hw he.2.2.1).1
  rw [hst] at hk ⊢
  rw [g4, ← g2]
  exact ⟨mul_cancel (c := spc T M) (by omega) (by rw [hk, g1]), rfl⟩
/-- Edges are at least 24 ticks apart. -/
theorem gap24 {T M s : Int} {m : List (List Int)} {e : Int} (z : crG T M s m e = 0) {n : Nat} (hn : n + 1 < (ctG T M s m e).length) : 24 ≤ (ctG T M s m e).getD (n + 1) 0 - (ctG T M s m e).getD n 0 := by
  obtain ⟨f1, f2, f3, f4, f5, f6, f7, f8, f9⟩ := cr_factsG z
  obtain ⟨c1, c2, c3⟩ := cr_validG z
  have hV := (mV_iff.1 f2).2.2
  have hP : cpG T M s m e = eL T M s (posOf s m e) := by unfold cpG; rw [if_pos z]
  obtain ⟨e1, e2, e3⟩ := eL_spec (b := posOf s m e) f1 f4.1
  have hW : ∀ i, i < (ctG T M s m e).length → 1 ≤ (ctG T M s m e).getD i 0 ∧ ((eL T M s (posOf s m e)).getD i 0 - s) * 65536 ≤ way ((ctG T M s m e).getD i 0) m ∧ way ((ctG T M s m e).getD i 0 - 1) m < ((eL T M s (posOf s m e)).getD i 0 - s) * 65536 := by
    intro i hi
    have q1 := memD (l := eL T M s (posOf s m e)) (n := i) (by omega)
    have q2 : (ctG T M s m e).getD i 0 = (tmOf s m ((eL T M s (posOf s m e)).getD i 0)).1 := by
      unfold ctG
      rw [hP, List.getD_eq_getElem?_getD, List.getElem?_map, List.getD_eq_getElem?_getD, List.getElem?_eq_getElem (show i < (eL T M s (posOf s m e)).length by omega)]
      rfl
    obtain ⟨g1, g2, g3, g4, g5, g6, g7⟩ := cr_timeG z q1
    rw [pos_at g3] at g5
    rw [pos_at g4] at g6
    rw [q2]
    refine ⟨g1, by omega, by omega⟩
  obtain ⟨x1, x2, x3⟩ := hW n (by omega)
  obtain ⟨y1, y2, y3⟩ := hW (n + 1) hn
  have l0 := incr_get (j := n) (vE_iff.1 c1).2.2 hn
  have hsp : (eL T M s (posOf s m e)).getD n 0 + 192 ≤ (eL T M s (posOf s m e)).getD (n + 1) 0 := by
    have := List.pairwise_iff_getElem.1 e2 n (n + 1) (by omega) (by omega) (by omega)
    rw [List.getD_eq_getElem?_getD, List.getD_eq_getElem?_getD, List.getElem?_eq_getElem (show n + 1 < (eL T M s (posOf s m e)).length by omega), List.getElem?_eq_getElem (show n < (eL T M s (posOf s m e)).length by omega)]
    exact this
  have hl := way_lip m 0 ((ctG T M s m e).getD n 0 - 1) ((ctG T M s m e).getD (n + 1) 0 - (ctG T M s m e).getD n 0 + 1) hV (by omega) (by omega)
  rw [show (ctG T M s m e).getD n 0 - 1 + ((ctG T M s m e).getD (n + 1) 0 - (ctG T M s m e).getD n 0 + 1) = (ctG T M s m e).getD (n + 1) 0 by omega] at hl
  omega
/-- The time of a space, the number of its spaces, and the tooth behind it. -/
def dN (l : List Int) (n : Nat) : Int := l.getD (n + 1) 0 - l.getD n 0
theorem sp_bothG {T M s : Int} {m : List (List Int)} {e : Int} (z : crG T M s m e = 0) (hs : stdB (ctG T M s m e) m = true) {n : Nat} (hn : n + 2 < (ctG T M s m e).length)
    (k0 : 1 ≤ (spsL T M (cpG T M s m e)).getD n 0) (k1 : 1 ≤ (spsL T M (cpG T M s m e)).getD (n + 1) 0) :
    16 * (spsL T M (cpG T M s m e)).getD (n + 1) 0 * (dN (ctG T M s m e) n - 1) ≤ 17 * (spsL T M (cpG T M s m e)).getD n 0 * (dN (ctG T M s m e) (n + 1) + 1) ∧
    16 * (spsL T M (cpG T M s m e)).getD n 0 * (dN (ctG T M s m e) (n + 1) - 1) ≤ 17 * (spsL T M (cpG T M s m e)).getD (n + 1) 0 * (dN (ctG T M s m e) n + 1) := by
  obtain ⟨lo, hi, S, h0, h1, h2, h3, h4, h5, h6, h7⟩ := sp_factsG z hs hn
  have g0 := gap24 z (n := n) (by omega)
  have g1 := gap24 z (n := n + 1) (by omega)
  unfold dN
  exact ⟨sp_mul h0 (by omega) (by omega) (by omega) h4 h7 h2, sp_mul h0 (by omega) (by omega) (by omega) h6 h5 h2⟩
/-- All that is known of the moved edges of a tolerated signal: the spaces, and their times. -/
structure Tol (T M : Int) (l j : List Int) (k tau : Nat → Int) : Prop where
  val : wValid T M = true
  vE : vE l = true
  far : ∀ n, n + 1 < l.length → 24 ≤ dN l n
  calm : ∀ n, n + 1 < l.length → 64 * aab (mvd j (n : Int)) * k n ≤ dN l n ∧ 64 * aab (mvd j ((n + 1 : Nat) : Int)) * k n ≤ dN l n
  knd : ∀ n, n + 1 < l.length → k n = (if tau (n + 1) = 0 then M + 1 else 1)
  next : ∀ n, n + 1 < l.length → tau (n + 1) = (if tau n = T - M - 1 then 0 else tau n + 1)
  bd : ∀ n, n < l.length → 0 ≤ tau n ∧ tau n < T - M
  std : ∀ n, n + 2 < l.length → 16 * k (n + 1) * (dN l n - 1) ≤ 17 * k n * (dN l (n + 1) + 1) ∧ 16 * k n * (dN l (n + 1) - 1) ≤ 17 * k (n + 1) * (dN l n + 1)
theorem tol_of {T M s : Int} {m : List (List Int)} {j d u : List Int} {e : Int} (z : crG T M s m e = 0) (hT : toBG T M s m j d u e = true) :
    Tol T M (ctG T M s m e) j (fun n => (spsL T M (cpG T M s m e)).getD n 0) (tauN T M s m e) := by
  obtain ⟨t1, t2, t3, t4, t5⟩ := tb_factsG hT
  obtain ⟨f1, f2, f3, f4, f5, f6, f7, f8, f9⟩ := cr_factsG z
  obtain ⟨c1, c2, c3⟩ := cr_validG z
  obtain ⟨hP, hc, hk⟩ := quiet_factsG z hT
  refine ⟨f1, c1, fun n hn => gap24 z hn, fun n hn => (hc n hn).2, fun n hn => ?_, fun n hn => ?_, fun n hn => tau_bd f1 f4.1 (by omega), fun n hn => sp_bothG z t5 hn (hk n (by omega)).2.1 (hk (n + 1) (by omega)).2.1⟩
  · have := (tau_step (b := posOf s m e) f1 f4.1 (n := n) (by omega)).1
    rw [hP]
    exact this
  · exact (tau_step (b := posOf s m e) f1 f4.1 (n := n) (by omega)).2
section
variable {T M : Int} {l j : List Int} {k tau : Nat → Int}
theorem Tol.k3 (h : Tol T M l j k tau) {n : Nat} (hn : n + 1 < l.length) : k n = 1 ∨ k n = 2 ∨ k n = 3 := by
  have h1 := h.knd n hn
  have h2 := (wValid_iff.1 h.val).1
  split at h1 <;> omega
theorem Tol.calmF (h : Tol T M l j k tau) {K : List Int} (hk : ∀ n, k n = K.getD n 0) : calmF l K j := fun n hn => by
  have h1 := h.k3 hn
  have h2 := h.calm n hn
  rw [hk] at h1 h2
  exact ⟨by omega, h2.1, h2.2⟩
/-- The moved edges' times. -/
theorem Tol.gap (h : Tol T M l j k tau) {n : Nat} (hn : n + 1 < l.length) : 31 * dN l n ≤ 32 * (mvT l j (n + 1) - mvT l j n) ∧ 32 * (mvT l j (n + 1) - mvT l j n) ≤ 33 * dN l n := by
  have h1 := h.k3 hn
  obtain ⟨h2, h3⟩ := h.calm n hn
  have a1 := aab_le (mvd j (n : Int))
  have a2 := aab_le (mvd j ((n + 1 : Nat) : Int))
  have b1 := mul_one_le a1.2.2 (show 1 ≤ k n by omega) h2
  have b2 := mul_one_le a2.2.2 (show 1 ≤ k n by omega) h3
  unfold mvT dN at *
  omega
theorem Tol.incr (h : Tol T M l j k tau) : incr (kpt j [] 0 l) = true := by
  have v := vE_iff.1 h.vE
  refine incr_step fun n hn => ?_
  rw [kpt_len0] at hn
  rw [kpt_mv (by omega), kpt_mv hn]
  have := h.gap hn
  have := h.far n hn
  omega
end
end Go.Proofs.Ythfliohfkhnpiaa

