/- ToothMoves: moving all edges by the same time moves the accepted edges by it. No conditions. The walk of the law. -/
import Derived.Test.YtnpoofddnmodoaaCln
import Derived.Test.YtnpoofddnmodoaaPl
namespace Go.Proofs.Ytnpoofddnmodoaa
open Go.RowKit Go.Sort

theorem Row.form {w : World} {v : Value} {l : List Int} (h : Row w v l) : ∃ a c, v = .slice a l.length c ∧ l.length ≤ c ∧ c ≤ 9223372036854775807 := by
  obtain ⟨⟨a, c, h1, h2, h3, _⟩, _⟩ := h
  exact ⟨a, c, h1, h2, by unfold maxLen at h3; omega⟩

/-- A store into a row that is owned. -/
theorem owns_set {w : World} {base : Nat} {E : TypeId} {g n c k : Nat} {xs : List Value} (h : w.ownsRow base E 1 (.slice (some ⟨g, 0, none⟩) n c) n xs) (u : Value) :
    (w.setCell ⟨g, k, none⟩ u).ownsRow base E 1 (.slice (some ⟨g, 0, none⟩) n c) n (xs.set k u) := by
  obtain ⟨h1, h2⟩ := h
  refine ⟨by simpa using h1, ?_⟩
  rcases h2 with ⟨h2, _⟩ | ⟨g', cap, cur, h2, h3, h4, h5, h6, h7, h8⟩
  · cases h2
  · simp only [Value.slice.injEq, Option.some.injEq, Addr.mk.injEq, true_and, and_true] at h2
    obtain ⟨rfl, rfl⟩ := h2
    refine .inr ⟨g, c, cur.setIfInBounds k u, rfl, h3, ?_, h5, h6, by simpa using h7, ?_⟩
    · simp [World.setCell, Array.getElem?_modify, h4]
    · rw [Array.toList_setIfInBounds, ← h8, List.take_set]

/-- The edges, the first k of them moved. -/
def mov (l : List Int) (b : Int) (k : Nat) : List Int := (l.take k).map (· + b) ++ l.drop k
theorem mov_zero (l : List Int) (b : Int) : mov l b 0 = l := by simp [mov]
theorem mov_length (l : List Int) (b : Int) (k : Nat) (hk : k ≤ l.length) : (mov l b k).length = l.length := by simp [mov]; omega
theorem mov_all (l : List Int) (b : Int) : mov l b l.length = l.map (· + b) := by simp [mov]
theorem mov_get (l : List Int) (b : Int) (k : Nat) (hk : k < l.length) : (mov l b k)[k]? = some (l.getD k 0) := by
  unfold mov
  rw [List.getElem?_append_right (by simp; omega)]
  simp [List.getElem?_eq_getElem hk, Nat.min_eq_left (Nat.le_of_lt hk)]
theorem mov_succ (l : List Int) (b : Int) (k : Nat) (hk : k < l.length) : (mov l b k).set k (l.getD k 0 + b) = mov l b (k + 1) := by
  unfold mov
  rw [List.set_append_right _ _ (by simp; omega)]
  rw [List.take_succ_eq_append_getElem hk, List.map_append, List.append_assoc]
  congr 1
  have e : k - ((l.take k).map (· + b)).length = 0 := by simp; omega
  have e2 := List.drop_eq_getElem_cons hk
  rw [e, e2, List.set_cons_zero]
  simp [List.getElem?_eq_getElem hk]

theorem law_moves (v : Value) (l : List Int) (by' : Int) (w : World) (hr : Row w v l) (hn : (Lit.int .u32 by').wf = true) : Calls Try.prog 9 #[v, .int .u32 by'] w fun e w' => e = .returned (.bool true) ∧ Below w.heap.size w w' := by
  have hn0 : 0 ≤ by' ∧ by' ≤ 4294967295 := by simp [Lit.wf, IntKind.min, IntKind.max, IntKind.signed, IntKind.bits] at hn; omega
  obtain ⟨hn0, hn1⟩ := hn0
  clear hn
  by_cases he : edgesB l = true
  · have HE := Lib.hid he
    have hlen := ((edgesB_iff l).1 he).1
    obtain ⟨a, c, rfl, hlc, hcm⟩ := hr.form
    go_enter Try.func9, Try.ntmps9
    go_wp2_with (go_at_call 10; refine (awake_any _).mono ?_; rintro e w1 ⟨rfl, hbw1⟩; obtain ⟨hcw1, hfw1⟩ := bcell hbw1; have hzw1 := hbw1.size; (try simp at hzw1); (try have hs0w1 : w.heap.size < w1.heap.size := by omega); (try have hs1w1 : w.heap.size + 1 < w1.heap.size := by omega); (try have hs2w1 : w.heap.size + 1 + 1 < w1.heap.size := by omega); (try have hs3w1 : w.heap.size + 1 + 1 + 1 < w1.heap.size := by omega); (try have hs_w1_w1 : w1.heap.size < w1.heap.size := by omega); (try have hs_w1p_w1 : w1.heap.size + 1 < w1.heap.size := by omega); (try have hs_w2_w1 : w2.heap.size < w1.heap.size := by omega); (try have hs_w2p_w1 : w2.heap.size + 1 < w1.heap.size := by omega); (try have hs_w3_w1 : w3.heap.size < w1.heap.size := by omega); (try have hs_w3p_w1 : w3.heap.size + 1 < w1.heap.size := by omega); (try have hs_w4_w1 : w4.heap.size < w1.heap.size := by omega); (try have hs_w4p_w1 : w4.heap.size + 1 < w1.heap.size := by omega); (try have hs_w5_w1 : w5.heap.size < w1.heap.size := by omega); (try have hs_w5p_w1 : w5.heap.size + 1 < w1.heap.size := by omega); (try have hs_w6_w1 : w6.heap.size < w1.heap.size := by omega); (try have hs_w6p_w1 : w6.heap.size + 1 < w1.heap.size := by omega))
    have hr1 := hr.below hbw1
    refine (run_ok _ _ _ hr1 HE.out).mono ?_
    rintro e w2 ⟨x, rfl, hx, hbw2⟩
    obtain ⟨xa, xc, rfl, hxc, hxm⟩ := hx.form
    have hall : (∃ p b off, a = some ⟨b, off, none⟩ ∧ w2.cell? ⟨b, off + (l.length - 1), none⟩ = some (.int .i64 p) ∧ (0 : Int) < (l.length : Int) ∧ 0 ≤ p ∧ p ≤ 1099511627776 ∧ ((1099511627776 - by' < p) ∨ (p ≤ 1099511627776 - by' ∧ ∀ x ∈ l, x + by' ≤ 1099511627776))) ∨ (decide (0 < l.length) = false ∧ ∀ x ∈ l, x + by' ≤ 1099511627776) := by
      by_cases h0 : l = []
      · right; subst h0; simp
      · left
        have hpos : 0 < l.length := List.length_pos_iff.2 h0
        obtain ⟨⟨a', c', q1, _, _, q4⟩, _⟩ := hr1.below hbw2
        simp only [Value.slice.injEq] at q1
        obtain ⟨rfl, _, rfl⟩ := q1
        obtain ⟨b, off, q5, q6, q7⟩ := q4 h0
        have hok := ((edgesB_iff l).1 HE.out).2
        have ht := edge_time (hok (l.length - 1) (by omega))
        refine ⟨l.getD (l.length - 1) 0, b, off, q5, q7 (l.length - 1) (by omega), by omega, ht.1, ht.2, ?_⟩
        by_cases hp : 1099511627776 - by' < l.getD (l.length - 1) 0
        · exact .inl hp
        · right
          refine ⟨by omega, fun x hx => ?_⟩
          obtain ⟨i, hi, rfl⟩ := List.getElem_of_mem hx
          have e1 : l[i] = l.getD i 0 := by simp [List.getElem?_eq_getElem hi]
          rw [e1]
          by_cases hil : i = l.length - 1
          · subst hil; omega
          · have := mono_lt hok (l.length - 1) (by omega) i (by omega)
            omega
    have hidx : ((l.length : Int) - 1).toNat = l.length - 1 := by omega
    rcases hall with ⟨p, b, off, rfl, hcp, hpos, hp0, hp1, hlast | ⟨hlast, hall⟩⟩ | ⟨hpos, hall⟩
    · clear hx
      go_wp2
      go_ret
      have z1 := hbw1.size
      refine ⟨rfl, ?_⟩
      repeat' (first | exact Below.refl _ _ | assumption | (refine Below.setCell ?_ (by first | omega | (simp <;> omega)) _) | (refine Below.alloc ?_ (by first | omega | (simp <;> omega)) _) | (refine Below.drew ?_) | (refine Below.trans ?_ (Below.mono (by assumption) (by first | omega | (simp <;> omega)))))
    all_goals
      go_wp2_with fail
      refine (clone_any _ _ _ (hr1.below hbw2) hlen).mono ?_
      rintro e w3 ⟨r, rfl, hown, hbw3⟩
      have hrf : ∃ ra rc, r = .slice ra l.length rc ∧ (0 < l.length → ∃ g, ra = some ⟨g, 0, none⟩ ∧ w2.heap.size ≤ g ∧ g < w3.heap.size) := by
        rcases hown.2 with ⟨rfl, h⟩ | ⟨g, cap, cur, rfl, h1, h2, _⟩
        · exact ⟨none, 0, by rw [h], fun h' => by omega⟩
        · exact ⟨_, cap, rfl, fun _ => ⟨g, rfl, h1, (Array.getElem?_eq_some_iff.1 h2).1⟩⟩
      obtain ⟨ra, rc, rfl, hrg⟩ := hrf
      have hx3 := hx.below hbw3
      have z1 := hbw1.size
      have z2 := hbw2.size
      have z3 := hbw3.size
      have hb3 : Below w.heap.size w w3 := (hbw1.trans (hbw2.mono z1)).trans (hbw3.mono (Nat.le_trans z1 z2))
      have HA := Lib.hid hall
      have hown0 : w3.ownsRow w2.heap.size 3 1 (.slice ra l.length rc) l.length ((mov l by' 0).map (Value.int .i64)) := by rw [mov_zero]; exact hown
      have hlen1 : (l.length : Int) ≤ 1000 := by omega
      clear hall hown
      go_wp2_with fail
      go_loopw [42] (fun i wr => ∃ k : Nat, k ≤ l.length ∧ i = .int .i64 k ∧ wr.ownsRow w2.heap.size 3 1 (.slice ra l.length rc) l.length ((mov l by' k).map (Value.int .i64)) ∧ Below w2.heap.size w2 wr) (fun i _ => l.length - (intOf i).toNat)
      case atStart => exact ⟨0, Nat.zero_le _, rfl, hown0, hbw3⟩
      case round =>
        obtain ⟨k, hk, rfl, hown, hb⟩ := hrel
        by_cases hlt : k < l.length
        · obtain ⟨g, rfl, hg1, hg2⟩ := hrg (by omega)
          have hok := ((edgesB_iff l).1 HE.out).2
          obtain ⟨t, ht⟩ : ∃ t, t = l.getD k 0 := ⟨_, rfl⟩
          have htt := edge_time (hok k hlt)
          have hc := hown.cells (g := g) rfl k (.int .i64 t) (by rw [List.getElem?_map, mov_get l by' k hlt, ht]; rfl)
          have e : (⟨g, 0, none⟩ : Addr).add k = ⟨g, k, none⟩ := by unfold Addr.add; split <;> simp_all
          rw [e] at hc
          rw [← ht] at htt
          obtain ⟨t0, t1⟩ := htt
          have hf : wr.frozen? ⟨g, k, none⟩ = false := by
            rcases hown.2 with ⟨h, _⟩ | ⟨g', cap, cur, h, _, h4, _⟩
            · cases h
            · simp only [Value.slice.injEq, Option.some.injEq, Addr.mk.injEq, true_and, and_true] at h
              obtain ⟨rfl, _⟩ := h
              simp [World.frozen?, h4]
          have hs := owns_set (k := k) hown (.int .i64 (t + by'))
          have em : ((mov l by' k).map (Value.int .i64)).set k (.int .i64 (t + by')) = (mov l by' (k + 1)).map (Value.int .i64) := by
            rw [← mov_succ l by' k hlt, List.map_set, ht]
          rw [em] at hs
          have HS := Lib.hid hs
          have HT := Lib.hid ht
          have j0 : (0 : Int) ≤ (k : Int) := by omega
          have j1 : (k : Int) < (l.length : Int) := by omega
          clear ht hs em e hown hok
          go_wp2
          go_round
          case rel => exact ⟨k + 1, by omega, by go_num, HS.out, hb.setCell (p := ⟨g, k, none⟩) hg1 _⟩
          case measure => simp [intOf]; omega
        · obtain rfl : k = l.length := by omega
          rw [mov_all] at hown
          have hgood := edgesB_shift by' HE.out hn0 HA.out
          have hrm : Row wr (.slice ra l.length rc) (l.map (· + by')) := Row.of_owns (B := w2.heap.size) (E := 3) (by simpa using hown) (fun x hx => by
            obtain ⟨y, hy, rfl⟩ := List.mem_map.1 hx
            have h1 := HA.out y hy
            have h2 := ((edgesB_pair l).1 HE.out).2.1 y hy
            simp only [isTime, decide_eq_true_eq] at h2
            simp [Lit.wf, IntKind.min, IntKind.max, IntKind.signed, IntKind.bits]; omega)
          have hxr := hx.below hb
          have HG := Lib.hid hgood
          have hzr := hb.size
          clear hown hgood hrg hown0
          go_wp2_with fail
          refine (run_ok _ _ _ hrm HG.out).mono ?_
          rintro e w4 ⟨y, rfl, hy, hbw4⟩
          rw [runL_shift by' HE.out HG.out] at hy
          have hx4 := hxr.below hbw4
          obtain ⟨ya, yc, hyf, hyc, hym⟩ := hy.form
          rw [List.length_map] at hyf hyc
          subst hyf
          have hb4 : Below w.heap.size w w4 := ((hbw1.trans (hbw2.mono z1)).trans (hb.mono (Nat.le_trans z1 z2))).trans (hbw4.mono (by omega))
          have hxl : ((runL l).length : Int) ≤ 1000 := by have := (runF_sub l false 0 0).length_le; unfold runL; omega
          obtain ⟨m, hm⟩ : ∃ m, m = runL l := ⟨_, rfl⟩
          rw [← hm] at hx4 hy hxl
          have hne : (((runL l).length : Int) != ((runL l).length : Int)) = false := by simp
          rw [← hm] at hne hxc hyc
          have HM := Lib.hid hm
          have hmm : ∀ x ∈ m, 0 ≤ x ∧ x ≤ 1099511627776 := fun x hx => by
            rw [hm] at hx
            have h2 := ((edgesB_pair l).1 HE.out).2.1 x ((runF_sub l false 0 0).subset hx)
            simpa [isTime] using h2
          have HMM := Lib.hid hmm
          rw [← hm]
          clear hm hmm hx hxr hrm hb
          go_wp2_with fail
          go_loopw [70] (fun i wr => ∃ k : Nat, k ≤ m.length ∧ i = .int .i64 k ∧ Below w4.heap.size w4 wr) (fun i _ => m.length - (intOf i).toNat)
          case atStart => exact ⟨0, Nat.zero_le _, rfl, Below.refl _ _⟩
          case round =>
            obtain ⟨k, hk, rfl, hb⟩ := hrel
            by_cases hlt : k < m.length
            · obtain ⟨⟨a1, c1, q1, _, _, q4⟩, _⟩ := hx4.below hb
              simp only [Value.slice.injEq, true_and] at q1
              obtain ⟨rfl, rfl⟩ := q1
              obtain ⟨b1, off1, rfl, q6, q7⟩ := q4 (by intro h; subst h; simp at hlt)
              obtain ⟨⟨a2, c2, q1, _, _, q5⟩, _⟩ := hy.below hb
              simp only [Value.slice.injEq, List.length_map, true_and] at q1
              obtain ⟨rfl, rfl⟩ := q1
              obtain ⟨b2, off2, rfl, q8, q9⟩ := q5 (by intro h; have := congrArg List.length h; rw [List.length_map, List.length_nil] at this; omega)
              have d1 := q7 k hlt
              have d2 := q9 k (by simpa using hlt)
              obtain ⟨t, ht⟩ : ∃ t, t = m.getD k 0 := ⟨_, rfl⟩
              have e2 : (m.map (· + by')).getD k 0 = t + by' := by rw [ht]; simp [List.getElem?_eq_getElem hlt]
              rw [e2] at d2
              rw [← ht] at d1
              have htt := HMM.out t (by rw [ht]; simp [List.getElem?_eq_getElem hlt])
              obtain ⟨t0, t1⟩ := htt
              have hb2 : (t + by' != t + by') = false := by simp
              have j0 : (0 : Int) ≤ (k : Int) := by omega
              have j1 : (k : Int) < (m.length : Int) := by omega
              clear ht e2 q4 q5 q7 q9 hx4 hy
              go_wp2
              go_quiet (fail)
              go_wp2
              go_round
              case rel => exact ⟨k + 1, by omega, by go_num, below_drewN hb _⟩
              case measure => simp [intOf]; omega
            · obtain rfl : k = m.length := by omega
              clear hx4 hy
              go_wp2
              go_ret
              exact ⟨rfl, hb4.trans (hb.mono hb4.size)⟩
  · have he' : edgesB l = false := by simpa using he
    have HE := Lib.hid he'
    go_enter Try.func9, Try.ntmps9
    go_wp2_with (go_at_call 10; refine (awake_any _).mono ?_; rintro e w1 ⟨rfl, hbw1⟩; obtain ⟨hcw1, hfw1⟩ := bcell hbw1; have hzw1 := hbw1.size; (try simp at hzw1); (try have hs0w1 : w.heap.size < w1.heap.size := by omega); (try have hs1w1 : w.heap.size + 1 < w1.heap.size := by omega); (try have hs2w1 : w.heap.size + 1 + 1 < w1.heap.size := by omega); (try have hs3w1 : w.heap.size + 1 + 1 + 1 < w1.heap.size := by omega); (try have hs_w1_w1 : w1.heap.size < w1.heap.size := by omega); (try have hs_w1p_w1 : w1.heap.size + 1 < w1.heap.size := by omega); (try have hs_w2_w1 : w2.heap.size < w1.heap.size := by omega); (try have hs_w2p_w1 : w2.heap.size + 1 < w1.heap.size := by omega); (try have hs_w3_w1 : w3.heap.size < w1.heap.size := by omega); (try have hs_w3p_w1 : w3.heap.size + 1 < w1.heap.size := by omega); (try have hs_w4_w1 : w4.heap.size < w1.heap.size := by omega); (try have hs_w4p_w1 : w4.heap.size + 1 < w1.heap.size := by omega); (try have hs_w5_w1 : w5.heap.size < w1.heap.size := by omega); (try have hs_w5p_w1 : w5.heap.size + 1 < w1.heap.size := by omega); (try have hs_w6_w1 : w6.heap.size < w1.heap.size := by omega); (try have hs_w6p_w1 : w6.heap.size + 1 < w1.heap.size := by omega))
    have hr1 := hr.below hbw1
    refine (run_err _ _ _ hr1 HE.out).mono ?_
    rintro e w2 ⟨a, c, rfl, hbw2⟩
    go_wp2
    go_ret
    have z1 := hbw1.size
    have z2 := hbw2.size
    refine ⟨rfl, ?_⟩
    repeat' (first | exact Below.refl _ _ | assumption | (refine Below.setCell ?_ (by first | omega | (simp <;> omega)) _) | (refine Below.alloc ?_ (by first | omega | (simp <;> omega)) _) | (refine Below.drew ?_) | (refine Below.trans ?_ (Below.mono (by assumption) (by first | omega | (simp <;> omega)))))

end Go.Proofs.Ytnpoofddnmodoaa
