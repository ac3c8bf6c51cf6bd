/- The contracts of the reference's Edges and Run. -/
import Derived.Test.YtnpoofddnmodoaaW4
import Derived.Deep.DeepCutAuto
namespace Go.Proofs.Ytnpoofddnmodoaa
open Go.RowKit Go.Sort

theorem rtime_q (t : Int) (w : World) : Calls Try.prog 13 #[.int .i64 t] w fun e w' => e = .returned (.bool (isTime t)) ∧ w' = w :=
  (rtime_any t w).mono fun _ _ ⟨h1, h2⟩ => ⟨h1, h2.symm⟩

theorem redges_any (v : Value) (l : List Int) (w : World) (hr : Row w v l) : Calls Try.prog 16 #[v] w fun e w' => e = .returned (.bool (edgesB l)) ∧ Below w.heap.size w w' := by
  obtain ⟨⟨a, cap, rfl, hlc, hcm, hcell⟩, hwf⟩ := hr
  unfold maxLen at hcm
  by_cases hlen : l.length ≤ 1000
  · go_enter Try.func16, Try.ntmps16
    go_wp2
    go_loopw [3] (fun i wr => ∃ k : Nat, k ≤ l.length ∧ i = .int .i64 k ∧ OkUpto l k ∧ Below w.heap.size w wr) (fun i _ => l.length - (intOf i).toNat)
    case atStart => exact ⟨0, Nat.zero_le _, rfl, OkUpto.zero _, Below.refl _ _⟩
    case round =>
      obtain ⟨k, hk, rfl, hok, hb⟩ := hrel
      by_cases hlt : k < l.length
      · obtain ⟨b, off, rfl, hbs, hc⟩ := hcell (by intro h; subst h; simp at hlt)
        obtain ⟨t, ht⟩ : ∃ t, t = l.getD k 0 := ⟨_, rfl⟩
        have c0 := (hb.cell hbs).trans (hc k hlt)
        rw [← ht] at c0
        have HT := Lib.hid ht
        clear ht
        cases k with
        | zero =>
          rw [Nat.add_zero] at c0
          have j1 : (0 : Int) < (l.length : Int) := by omega
          by_cases hti : isTime t = true
          · have he : edgeAt l 0 = true := by simp only [edgeAt, ← HT.out, hti]; rfl
            have hok1 := hok.succ he
            clear hok he hc hcell
            go_wp2
            go_quiet ((go_at_call 13; exact Calls.quiet_of_same (rtime_q _ _)))
            go_wp2
            go_round
            case rel => exact ⟨1, by omega, by go_num, hok1, below_drewN hb _⟩
            case measure => simp [intOf]; omega
          · have hti' : isTime t = false := by simpa using hti
            have hbad : edgesB l = false := edgesB_false_of l 0 hlt (by simp only [edgeAt, ← HT.out, hti']; rfl)
            have HB := Lib.hid hbad
            clear hok hc hcell hti hbad
            go_wp2
            go_quiet ((go_at_call 13; exact Calls.quiet_of_same (rtime_q _ _)))
            go_wp2
            go_ret
            exact ⟨ret_b HB.out.symm, below_drewN hb _⟩
        | succ m =>
          obtain ⟨p, hp⟩ : ∃ p, p = l.getD m 0 := ⟨_, rfl⟩
          have c1 := (hb.cell hbs).trans (hc m (by omega))
          rw [← hp] at c1
          have HP := Lib.hid hp
          clear hp
          have j0 : (0 : Int) ≤ (m : Int) := by omega
          have j1 : (m : Int) + 1 < (l.length : Int) := by omega
          have j2 : (m : Int) < (l.length : Int) := by omega
          by_cases hti : isTime t = true
          · by_cases hpt : p < t
            · have he : edgeAt l (m + 1) = true := by simp only [edgeAt, ← HT.out, hti, Nat.add_sub_cancel, ← HP.out, hpt]; simp
              have hok1 := hok.succ he
              clear hok he hc hcell
              go_wp2
              go_quiet ((go_at_call 13; exact Calls.quiet_of_same (rtime_q _ _)))
              go_wp2
              go_round
              case rel => exact ⟨m + 1 + 1, by omega, by go_num, hok1, below_drewN hb _⟩
              case measure => simp [intOf]; omega
            · have hbad : edgesB l = false := edgesB_false_of l (m + 1) hlt (by simp only [edgeAt, ← HT.out, hti, Nat.add_sub_cancel, ← HP.out, hpt]; simp)
              have HB := Lib.hid hbad
              have hpt2 : t ≤ p := by omega
              clear hok hc hcell hbad hpt
              go_wp2
              go_quiet ((go_at_call 13; exact Calls.quiet_of_same (rtime_q _ _)))
              go_wp2
              go_ret
              exact ⟨ret_b HB.out.symm, below_drewN hb _⟩
          · have hti' : isTime t = false := by simpa using hti
            have hbad : edgesB l = false := edgesB_false_of l (m + 1) hlt (by simp only [edgeAt, ← HT.out, hti']; rfl)
            have HB := Lib.hid hbad
            clear hok hc hcell hti hbad
            go_wp2
            go_quiet ((go_at_call 13; exact Calls.quiet_of_same (rtime_q _ _)))
            go_wp2
            go_ret
            exact ⟨ret_b HB.out.symm, below_drewN hb _⟩
      · obtain rfl : k = l.length := by omega
        have HG := Lib.hid ((edgesB_iff l).2 ⟨hlen, hok⟩)
        go_wp2
        go_ret
        exact ⟨ret_b HG.out.symm, hb⟩
  · have hbad : edgesB l = false := by simp [edgesB]; omega
    have HB := Lib.hid hbad
    clear hbad
    go_enter Try.func16, Try.ntmps16
    go_wp2
    go_ret
    exact ⟨ret_b HB.out.symm, Below.refl _ _⟩

/-- What the reference's loop holds of memory: the state's block F, the slice of the accepted edges, old memory. -/
structure MemW (w : World) (F : Nat) (sn : Bool) (la pe : Int) (xs : List Int) (o : Value) (wr : World) : Prop where
  own : wr.ownsRow (F + 1) 3 1 o xs.length (xs.map (Value.int .i64))
  c0 : wr.cell? ⟨F, 0, none⟩ = some (.bool sn)
  c1 : wr.cell? ⟨F, 1, none⟩ = some (.int .i64 la)
  c2 : wr.cell? ⟨F, 2, none⟩ = some (.int .i64 pe)
  f0 : ∀ i, wr.frozen? ⟨F, i, none⟩ = false
  hF : w.heap.size ≤ F
  hlt : F < wr.heap.size
  bel : Below w.heap.size w wr

theorem MemW.later {w : World} {F : Nat} {sn : Bool} {la pe : Int} {xs : List Int} {o : Value} {wr w2 : World} (h : MemW w F sn la pe xs o wr) (hb : Below wr.heap.size wr w2) : MemW w F sn la pe xs o w2 :=
  ⟨h.own.kept (row := none) ⟨hb.os, hb.tape, hb.output, hb.size, fun k hk _ => hb.block k hk⟩ (by cases o.ownBlock <;> simp), (hb.cell h.hlt).trans h.c0, (hb.cell h.hlt).trans h.c1, (hb.cell h.hlt).trans h.c2, fun i => (hb.frozen h.hlt).trans (h.f0 i), h.hF, Nat.lt_of_lt_of_le h.hlt hb.size, h.bel.trans (hb.mono h.bel.size)⟩

theorem MemW.set {w : World} {F : Nat} {sn : Bool} {la pe : Int} {xs : List Int} {o : Value} {wx : World} (h : MemW w F sn la pe xs o wx) (sn' : Bool) (la' pe' : Int) :
    MemW w F sn' la' pe' xs o (((wx.setCell ⟨F, 0, none⟩ (.bool sn')).setCell ⟨F, 1, none⟩ (.int .i64 la')).setCell ⟨F, 2, none⟩ (.int .i64 pe')) := by
  have x0 := h.c0
  have x1 := h.c1
  have x2 := h.c2
  refine ⟨?_, ?_, ?_, ?_, fun i => ?_, h.hF, ?_, ?_⟩
  · exact ownsRow_setCell_below (ownsRow_setCell_below (ownsRow_setCell_below h.own (a := ⟨F, 0, none⟩) (Nat.lt_succ_self F) (.bool sn')) (a := ⟨F, 1, none⟩) (Nat.lt_succ_self F) (.int .i64 la')) (a := ⟨F, 2, none⟩) (Nat.lt_succ_self F) (.int .i64 pe')
  · rw [World.cell?_setCell_other _ _ _ _ (by simp), World.cell?_setCell_other _ _ _ _ (by simp), World.cell?_setCell_same _ _ _ x0]
  · rw [World.cell?_setCell_other _ _ _ _ (by simp), World.cell?_setCell_same (h := (World.cell?_setCell_other _ _ _ _ (by simp)).trans x1)]
  · rw [World.cell?_setCell_same (h := (World.cell?_setCell_other _ _ _ _ (by simp)).trans ((World.cell?_setCell_other _ _ _ _ (by simp)).trans x2))]
  · rw [World.frozen?_setCell, World.frozen?_setCell, World.frozen?_setCell, h.f0 i]
  · have := h.hlt; simp [World.setCell]; omega
  · exact ((h.bel.setCell (p := ⟨F, 0, none⟩) h.hF _).setCell (p := ⟨F, 1, none⟩) h.hF _).setCell (p := ⟨F, 2, none⟩) h.hF _

theorem MemW.append {w : World} {F : Nat} {sn : Bool} {la pe t : Int} {xs : List Int} {o v : Value} {w2 wx : World} {o1 : Obj} (h : MemW w F sn la pe xs o w2) (hg : (w2.alloc o1).grownBy wx o.ownBlock)
    (hown : wx.ownsRow (F + 1) 3 1 v (xs.length + 1) (xs.map (Value.int .i64) ++ [.int .i64 t])) : MemW w F sn la pe (xs ++ [t]) v wx := by
  have hne : o.ownBlock ≠ some F := fun e => by have := h.own.lt _ e; omega
  have hs : F < (w2.alloc o1).heap.size := by have := h.hlt; simp; omega
  have f (i : Nat) : wx.cell? ⟨F, i, none⟩ = w2.cell? ⟨F, i, none⟩ ∧ wx.frozen? ⟨F, i, none⟩ = w2.frozen? ⟨F, i, none⟩ := by
    refine ⟨(hg.cell_far _ hs (Ne.symm hne)).trans ?_, (hg.frozen_far _ hs (Ne.symm hne)).trans ?_⟩
    · rw [World.cell?_alloc_past _ _ _ h.hlt]
    · rw [World.frozen?_alloc_past _ _ _ h.hlt]
  refine ⟨by simpa using hown, (f 0).1.trans h.c0, (f 1).1.trans h.c1, (f 2).1.trans h.c2, fun i => (f i).2.trans (h.f0 i), h.hF, ?_, ?_⟩
  · have := hg.size; simp at this; have := h.hlt; omega
  · exact (h.bel.alloc h.bel.size o1).grown hg (by have := h.bel.size; simp; omega) (fun j hj => by have := (h.own.lt j hj).1; have := h.hF; omega)

set_option maxHeartbeats 2000000 in
theorem rrun_any (v : Value) (l : List Int) (w : World) (hr : Row w v l) (hgood : edgesB l = true) : Calls Try.prog 18 #[v] w fun e w' => ∃ r, e = .returned r ∧ Row w' r (runL l) ∧ Below w.heap.size w w' := by
  obtain ⟨⟨a, cap, rfl, hlc, hcm, hcell⟩, hwf⟩ := hr
  unfold maxLen at hcm
  obtain ⟨i0, hi0, hz0, hz1, hz2⟩ := info_parts Try.infoInt
  obtain ⟨hlen, hok⟩ := (edgesB_iff l).1 hgood
  clear hgood
  go_enter Try.func18, Try.ntmps18
  go_wp2_with fail
  obtain ⟨F, hF⟩ : ∃ F, F = w.heap.size := ⟨_, rfl⟩
  obtain ⟨wl, hwl⟩ : ∃ wl, wl = w.alloc (Obj.cells #[Value.bool false, Value.int IntKind.i64 0, Value.int IntKind.i64 0] 23) := ⟨_, rfl⟩
  rw [← hwl]
  have h0 : MemW w F false 0 0 [] (.slice none 0 0) wl := by
    subst hwl hF
    exact ⟨World.ownsRow_nil _ _ _ _, World.cell?_alloc_at _ _ _ _ rfl, World.cell?_alloc_at _ _ _ _ rfl, World.cell?_alloc_at _ _ _ _ rfl, fun _ => World.frozen?_alloc_at _ _ _ _ rfl, Nat.le_refl _, by simp, (Below.refl _ _).alloc (Nat.le_refl _) _⟩
  rw [← hF]
  clear hwl hF
  go_loopw [4, 5] (fun o i wr => ∃ (k : Nat) (sn : Bool) (la pe : Int) (xs : List Int), k ≤ l.length ∧ i = .int .i64 k ∧ Rel l k sn la pe xs ∧ MemW w F sn la pe xs o wr) (fun _ i _ => l.length - (intOf i).toNat)
  case atStart => exact ⟨0, false, 0, 0, [], Nat.zero_le _, rfl, Rel.start l, h0⟩
  case round =>
    obtain ⟨k, sn, la, pe, xs, hk, rfl, hR, hL⟩ := hrel
    by_cases hlt : k < l.length
    · obtain ⟨b, off, rfl, hbs, hc⟩ := hcell (by intro h; subst h; simp at hlt)
      obtain ⟨t, ht⟩ : ∃ t, t = l.getD k 0 := ⟨_, rfl⟩
      have ct := (hL.bel.cell hbs).trans (hc k hlt)
      rw [← ht] at ct
      have c0 := hL.c0
      have c1 := hL.c1
      have c2 := hL.c2
      have hFw := hL.hlt
      have hBw := hL.bel.size
      have j0 : (0 : Int) ≤ (k : Int) := by omega
      have j1 : (k : Int) < (l.length : Int) := by omega
      have hbw : b < wr.heap.size := by omega
      have nF : ¬ F = wr.heap.size := by omega
      have nF' : ¬ wr.heap.size = F := by omega
      have nb : ¬ b = wr.heap.size := by omega
      have nb' : ¬ wr.heap.size = b := by omega
      obtain ⟨e1, e2, e3⟩ := stepR_err hR hlt hok
      rw [← ht] at e1 e2 e3
      obtain ⟨⟨sn', la', pe', ok', er'⟩, hr⟩ : ∃ r, stepR sn la pe t = r := ⟨_, rfl⟩
      rw [hr] at e1 e2 e3
      obtain rfl : er' = 0 := e1
      have HS := Lib.hid hr
      have HT := Lib.hid ht
      have hv := hR.vd
      have htm : isTime t = true := by have := edge_time (hok k hlt); rw [← ht] at this; simp [isTime]; exact this
      have hle : sn = true → la ≤ t := fun hs => by
        obtain ⟨j, hj, e⟩ := hR.bef hs
        rw [ht, e]; exact Int.le_of_lt (mono_lt hok k hlt j hj)
      have HV := Lib.hid hv
      have HTM := Lib.hid htm
      have HLE := Lib.hid hle
      have E2 := Lib.hid e2
      clear hr ht hcell hv htm hle e2 e3
      go_upto_region 6 with fail
      go_cut [6, 7] (fun s6 s7 wx => ∃ g : Nat, s6 = .pointer (some ⟨g, 0, none⟩) ∧ s7 = .bool ok' ∧ wx.cell? ⟨g, 0, none⟩ = some (.bool sn') ∧ wx.cell? ⟨g, 1, none⟩ = some (.int .i64 la') ∧ wx.cell? ⟨g, 2, none⟩ = some (.int .i64 pe') ∧ Below wr.heap.size wr wx)
      case first =>
        go_region_held3 (fun w' => w'.cell? ⟨F, 0, none⟩ = some (.bool sn) ∧ w'.cell? ⟨F, 1, none⟩ = some (.int .i64 la) ∧ w'.cell? ⟨F, 2, none⟩ = some (.int .i64 pe) ∧ w'.cell? ⟨b, off + k, none⟩ = some (.int .i64 t))
          (go_keep)
          ((first | ((go_at_call 14; refine (rstep_eq HS.out _ HV.out HTM.out HLE.out).mono ?_; rintro e w2 ⟨rfl, hbw2⟩; obtain ⟨hcw2, hfw2⟩ := bcell hbw2; have hzw2 := hbw2.size; (try simp at hzw2); (try have hs0w2 : w.heap.size < w2.heap.size := by omega); (try have hs1w2 : w.heap.size + 1 < w2.heap.size := by omega); (try have hs2w2 : w.heap.size + 1 + 1 < w2.heap.size := by omega); (try have hs3w2 : w.heap.size + 1 + 1 + 1 < w2.heap.size := by omega); (try have hs_w1_w2 : w1.heap.size < w2.heap.size := by omega); (try have hs_w1p_w2 : w1.heap.size + 1 < w2.heap.size := by omega); (try have hs_w2_w2 : w2.heap.size < w2.heap.size := by omega); (try have hs_w2p_w2 : w2.heap.size + 1 < w2.heap.size := by omega); (try have hs_w3_w2 : w3.heap.size < w2.heap.size := by omega); (try have hs_w3p_w2 : w3.heap.size + 1 < w2.heap.size := by omega); (try have hs_w4_w2 : w4.heap.size < w2.heap.size := by omega); (try have hs_w4p_w2 : w4.heap.size + 1 < w2.heap.size := by omega); (try have hs_w5_w2 : w5.heap.size < w2.heap.size := by omega); (try have hs_w5p_w2 : w5.heap.size + 1 < w2.heap.size := by omega); (try have hs_w6_w2 : w6.heap.size < w2.heap.size := by omega); (try have hs_w6p_w2 : w6.heap.size + 1 < w2.heap.size := by omega)); have x0 : w2.cell? ⟨F, 0, none⟩ = some (.bool sn) := (hcw2 (F) (0) (by first | omega | (simp <;> omega))).trans (by go_simp); have x1 : w2.cell? ⟨F, 1, none⟩ = some (.int .i64 la) := (hcw2 (F) (1) (by first | omega | (simp <;> omega))).trans (by go_simp); have x2 : w2.cell? ⟨F, 2, none⟩ = some (.int .i64 pe) := (hcw2 (F) (2) (by first | omega | (simp <;> omega))).trans (by go_simp); have x3 : w2.cell? ⟨b, off + k, none⟩ = some (.int .i64 t) := (hcw2 (b) (off + k) (by first | omega | (simp <;> omega))).trans (by go_simp); have hs7 : F < w2.heap.size := (by omega); have hs8 : b < w2.heap.size := (by omega))))
        all_goals go_wp2_with fail
        all_goals go_meet
        · have x := hbw2
          refine ⟨w2.heap.size, rfl, rfl, by go_simp, by go_simp, by go_simp, ?_⟩
          repeat' (first | exact Below.refl _ _ | assumption | (refine Below.setCell ?_ (by first | omega | (simp <;> omega)) _) | (refine Below.alloc ?_ (by first | omega | (simp <;> omega)) _) | (refine Below.drew ?_) | (refine Below.trans ?_ (Below.mono (by assumption) (by first | omega | (simp <;> omega)))))
        · refine ⟨wr.heap.size, rfl, rfl, by go_simp, by go_simp, by go_simp, ?_⟩
          repeat' (first | exact Below.refl _ _ | assumption | (refine Below.setCell ?_ (by first | omega | (simp <;> omega)) _) | (refine Below.alloc ?_ (by first | omega | (simp <;> omega)) _) | (refine Below.drew ?_) | (refine Below.trans ?_ (Below.mono (by assumption) (by first | omega | (simp <;> omega)))))
      case rest =>
        obtain ⟨g, rfl, rfl, g0, g1, g2, hbc⟩ := hcut
        have hM := hL.later hbc
        have y0 := hM.c0
        have y1 := hM.c1
        have y2 := hM.c2
        have f0 := hM.f0 0
        have f1 := hM.f0 1
        have f2 := hM.f0 2
        have ct2 := (hbc.cell hbw).trans ct
        have hlen2 : xs.length ≤ 1000 := by have := hR.len; omega
        have hM2 := hM.set sn' la' pe'
        have nF2 : ¬ F = b := by have := hL.hF; omega
        have nb2 : ¬ b = F := by have := hL.hF; omega
        have hFo := hM2.own
        have hsz := hM2.bel.size
        simp only [World.setCell] at hsz
        have hM2F : F + 1 ≤ wc.heap.size := by have := hM.hlt; omega
        clear ct c0 c1 c2 hbs hbw nF nF' nb nb' hc hsz
        cases ok' with
        | false =>
          obtain ⟨q1, q2, q3⟩ := E2.out rfl
          have hR2 := hR.skip hlt (by rw [← HT.out, HS.out])
          clear E2
          have Q1 := Lib.hid q1
          have Q2 := Lib.hid q2
          have Q3 := Lib.hid q3
          clear q1 q2 q3
          go_wp2
          go_roundw
          case rel => exact ⟨k + 1, sn, la, pe, xs, by omega, by go_num, hR2, by rw [← Q1.out, ← Q2.out, ← Q3.out]; exact hM2⟩
          case measure => simp [intOf]; omega
        | true =>
          clear E2
          have hR2 := hR.take hlt hok (by rw [← HT.out, HS.out])
          rw [← HT.out, HS.out] at hR2
          go_wp2_with (at_builtin; refine wpList_append_lies _ (by rfl) _ _ _ (by rfl) (F + 1) 3 i0 (.int .i64 0) 1 8 Try.underlying33 hi0 hz0 hz1 hz2 rfl (by omega) u4 xs.length (xs.map (Value.int .i64)) (by rfl) (hFo.alloc _) ⟨wc.heap.size, 0, none⟩ 1 1 [.int .i64 t] (by rfl) (by rfl) ?c1 (by simp [Value.oneCell']) (by omega) (by unfold maxLen; omega) (by omega) ?c2 _ rfl ?_)
          case c2 => omega
          intro gg cap2 wx hown1 hgrow hat hltx
          have hM3 := hM2.append hgrow hown1
          clear hown1 hgrow hat hltx hM2 hFo
          go_wp2
          go_roundw
          case rel => exact ⟨k + 1, sn', la', pe', xs ++ [t], by omega, by go_num, hR2, by simpa using hM3⟩
          case measure => simp [intOf]; omega
    · obtain rfl : k = l.length := by omega
      go_wp2
      go_ret
      exact ⟨_, rfl, by rw [← hR.finish]; exact Row.of_owns hL.own (fun n hn => hwf n (hR.sub n hn)), hL.bel⟩

end Go.Proofs.Ytnpoofddnmodoaa
