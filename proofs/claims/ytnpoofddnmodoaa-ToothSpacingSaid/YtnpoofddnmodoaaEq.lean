/- The contract of slices.Equal at []int, and of awake. -/
import Derived.Test.YtnpoofddnmodoaaW3
import Derived.WalkSmall
namespace Go.Proofs.Ytnpoofddnmodoaa
open Go.RowKit Go.Sort

def SameUpto (l m : List Int) (k : Nat) : Prop := ∀ j, j < k → l.getD j 0 = m.getD j 0
theorem SameUpto.zero (l m : List Int) : SameUpto l m 0 := fun _ h => absurd h (Nat.not_lt_zero _)
theorem SameUpto.succ {l m : List Int} {k : Nat} (h : SameUpto l m k) (hk : l.getD k 0 = m.getD k 0) : SameUpto l m (k + 1) := fun j hj => by
  by_cases e : j = k
  · subst e; exact hk
  · exact h j (by omega)
theorem SameUpto.eq {l m : List Int} (h : SameUpto l m l.length) (he : l.length = m.length) : l = m := by
  apply List.ext_getElem he
  intro i h1 h2
  have := h i h1
  simpa [List.getElem?_eq_getElem h1, List.getElem?_eq_getElem h2] using this

theorem ret_b {a b : Bool} (h : a = b) : Ending.returned (.bool a) = .returned (.bool b) := by rw [h]

theorem equal_any (v1 v2 : Value) (l m : List Int) (w : World) (h1 : Row w v1 l) (h2 : Row w v2 m) :
    Calls Try.prog 17 #[v1, v2] w fun e w' => e = .returned (.bool (decide (l = m))) ∧ Below w.heap.size w w' := by
  obtain ⟨⟨a, cap, rfl, hlc, hcm, hcell⟩, hwf⟩ := h1
  obtain ⟨⟨a2, cap2, rfl, hlc2, hcm2, hcell2⟩, hwf2⟩ := h2
  unfold maxLen at hcm hcm2
  by_cases hlen : l.length = m.length
  · have hl2 : ((l.length : Int) != (m.length : Int)) = false := by rw [bne_eq_false_iff_eq]; omega
    have hm1 : (m.length : Int) ≤ 9223372036854775807 := by omega
    have hm2 : (l.length : Int) ≤ 9223372036854775807 := by omega
    have HL := Lib.hid hlen
    clear hlen
    go_enter Try.func17, Try.ntmps17
    go_wp2
    go_loopw [13] (fun i wr => ∃ k : Nat, k ≤ l.length ∧ i = .int .i64 k ∧ SameUpto l m k ∧ Below w.heap.size w wr) (fun i _ => l.length - (intOf i).toNat)
    case atStart => exact ⟨0, Nat.zero_le _, rfl, SameUpto.zero _ _, Below.refl _ _⟩
    case round =>
      obtain ⟨k, hk, rfl, hs, hb⟩ := hrel
      by_cases hlt : k < l.length
      · obtain ⟨b, off, rfl, hbs, hc⟩ := hcell (by intro h; subst h; simp at hlt)
        obtain ⟨b2, off2, rfl, hbs2, hc2⟩ := hcell2 (by have := HL.out; intro h; rw [h, List.length_nil] at this; omega)
        have hlt2 : k < m.length := by have := HL.out; omega
        have c1 := (hb.cell hbs).trans (hc k hlt)
        have c2 := (hb.cell hbs2).trans (hc2 k hlt2)
        obtain ⟨x, hx⟩ : ∃ x, x = l.getD k 0 := ⟨_, rfl⟩
        obtain ⟨y, hy⟩ : ∃ y, y = m.getD k 0 := ⟨_, rfl⟩
        rw [← hx] at c1
        rw [← hy] at c2
        have HX := Lib.hid hx
        have HY := Lib.hid hy
        clear hx hy hc hc2 hcell hcell2
        have j0 : (0 : Int) ≤ (k : Int) := by omega
        have j1 : (k : Int) < (l.length : Int) := by omega
        have j2 : (k : Int) < (m.length : Int) := by omega
        by_cases hxy : x = y
        · subst hxy
          have hs1 := hs.succ (HX.out.symm.trans HY.out)
          clear hs
          go_wp2
          go_quiet (fail)
          go_wp2
          go_round
          case rel => exact ⟨k + 1, by omega, by go_num, hs1, below_drewN hb _⟩
          case measure => simp [intOf]; omega
        · have hne : decide (l = m) = false := by
            rw [decide_eq_false_iff_not]; intro h; subst h; exact hxy (HX.out.trans HY.out.symm)
          have hb2 : (x != y) = true := by rw [bne_iff_ne]; exact hxy
          have HN := Lib.hid hne
          clear hs hne hxy
          go_wp2
          go_quiet (fail)
          go_wp2
          go_ret
          exact ⟨ret_b HN.out.symm, below_drewN hb _⟩
      · obtain rfl : k = l.length := by omega
        have he := hs.eq HL.out
        have HN := Lib.hid (show decide (l = m) = true from by rw [decide_eq_true_eq]; exact he)
        clear he
        go_wp2
        go_ret
        exact ⟨ret_b HN.out.symm, hb⟩
  · have hl2 : ((l.length : Int) != (m.length : Int)) = true := by rw [bne_iff_ne]; omega
    have hne : decide (l = m) = false := by
      rw [decide_eq_false_iff_not]; intro h; subst h; exact hlen rfl
    rw [hne]
    clear hlen hne
    go_enter Try.func17, Try.ntmps17
    go_wp2
    go_ret
    exact ⟨rfl, Below.refl _ _⟩

theorem Row.lit {w : World} {cs : Array Value} {T : TypeId} {B n c : Nat} (l : List Int) (h1 : cs = (l.map (Value.int .i64)).toArray) (hB : B = w.heap.size) (h2 : n = l.length) (h3 : c = l.length) (hm : l.length ≤ maxLen) (hw : ∀ n ∈ l, (Lit.int .i64 n).wf = true) :
    Row (w.alloc (.cells cs T)) (.slice (some ⟨B, 0, none⟩) n c) l := by
  subst h1 h2 h3 hB
  refine ⟨⟨_, _, rfl, Nat.le_refl _, hm, fun _ => ⟨_, 0, rfl, by simp, fun i hi => ?_⟩⟩, hw⟩
  rw [World.cell?_alloc_at _ _ _ _ rfl]
  simp [hi]

theorem run_ok (v : Value) (l : List Int) (w : World) (hr : Row w v l) (he : edgesB l = true) : Calls Try.prog 15 #[v] w fun e w' => ∃ r, e = .returned (.tuple #[r, .int .i64 0]) ∧ Row w' r (runL l) ∧ Below w.heap.size w w' :=
  (run_any v l w hr).mono fun e w' ⟨r, h1, h2, h3⟩ => ⟨r, by rw [h1, if_pos he], by rw [if_pos he] at h2; exact h2, h3⟩
theorem run_err (v : Value) (l : List Int) (w : World) (hr : Row w v l) (he : edgesB l = false) : Calls Try.prog 15 #[v] w fun e w' => ∃ a c, e = .returned (.tuple #[.slice a 0 c, .int .i64 1]) ∧ Below w.heap.size w w' :=
  (run_any v l w hr).mono fun e w' ⟨r, h1, h2, h3⟩ => by
    rw [if_neg (by rw [he]; exact Bool.false_ne_true)] at h1 h2
    obtain ⟨⟨a, c, h4, _⟩, _⟩ := h2
    exact ⟨a, c, by rw [h1, h4]; rfl, h3⟩

theorem awakeEdges : edgesB [100, 110, 200, 224, 300] = true := by decide
theorem awakeRun : runL [100, 110, 200, 224, 300] = [100, 200, 300] := by decide

theorem awake_any (w : World) : Calls Try.prog 10 #[] w fun e w' => e = .returned (.bool true) ∧ Below w.heap.size w w' := by
  go_enter Try.func10, Try.ntmps10
  go_wp2_with (fail)
  refine (run_ok _ _ _ (Row.lit [100, 110, 200, 224, 300] (by rfl) (by rfl) (by rfl) (by rfl) (by decide) (by decide)) awakeEdges).mono ?_
  rintro e w1 ⟨r, rfl, hr, hb⟩
  rw [awakeRun] at hr
  go_wp2_with (fail)
  refine (equal_any _ _ _ _ _ (hr.below ((Below.refl _ _).alloc (Nat.le_refl _) _)) (Row.lit [100, 200, 300] (by rfl) (by rfl) (by rfl) (by rfl) (by decide) (by decide))).mono ?_
  rintro e w2 ⟨rfl, hb2⟩
  go_wp2
  go_ret
  refine ⟨rfl, ?_⟩
  have hz := hb.size
  simp at hz
  repeat' (first | exact Below.refl _ _ | assumption | (refine Below.setCell ?_ (by first | omega | (simp <;> omega)) _) | (refine Below.alloc ?_ (by first | omega | (simp <;> omega)) _) | (refine Below.drew ?_) | (refine Below.trans ?_ (Below.mono (by assumption) (by first | omega | (simp <;> omega)))))

end Go.Proofs.Ytnpoofddnmodoaa
