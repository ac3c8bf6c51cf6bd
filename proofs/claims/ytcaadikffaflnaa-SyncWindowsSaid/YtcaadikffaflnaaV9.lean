/- The contract of sync.Run. -/
import Derived.Test.YtcaadikffaflnaaV8
import Derived.Test.YtcaadikffaflnaaMem
namespace Go.Proofs.Ytcaadikffaflnaa
open Go.RowKit Go.Sort

theorem Try.infoSync : (Try.prog.info? 34).map (fun i => (i.zero, i.size, i.bytes)) = some (some (sv 0 0 0 0 0 0), 6, 48) := by kernel_rfl

theorem new_any (w : World) : Calls Try.prog 13 #[] w fun e w' => e = .returned (sv 0 0 0 0 0 0) ∧ Below w.heap.size w w' := by
  go_enter Try.func13, Try.ntmps13
  go_wp2
  refine bodyPost_ret (v := sv 0 0 0 0 0 0) (by simp [results, Try.results13, go_sem, *]) rfl ?_
  refine ⟨rfl, ?_⟩
  repeat' (first | (with_reducible refine Below.setCell ?_ ?_ _) | (with_reducible refine Below.alloc ?_ ?_ _) | (with_reducible refine Below.drew ?_) | (with_reducible exact Below.refl _ _) | (with_reducible assumption) | (with_reducible refine Below.trans ?_ (Below.mono (by assumption) ?_)) | omega | (simp <;> omega))

theorem stepT_in {T M : Int} {s : SyS} {t : Int} {m' th' la' pe' no' te' : Int} (h : stepT T M s t = ⟨m', th', la', pe', no', te'⟩) (w : World) (hv : validS T M s = true) (ht : isTime t = true) (hlt : s.m ≠ 0 → s.la < t) :
    Calls Try.prog 32 #[wv T M, sv s.m s.th s.la s.pe s.no s.te, .int .i64 t] w fun e w' => e = .returned (sv m' th' la' pe' no' te') ∧ Below w.heap.size w w' :=
  (step_in T M s.m s.th s.la s.pe s.no s.te t w hv ht hlt).mono fun _ _ ⟨h1, h2⟩ => ⟨by rw [h1]; have h' : stepS T M s.m s.th s.la s.no s.te t = ⟨m', th', la', pe', no', te'⟩ := h; rw [h']; rfl, h2⟩

theorem any_time {l : List Int} (h : edgesB l = true) : l.any (fun t => !isTime t) = false := by
  rw [List.any_eq_false]
  intro x hx
  obtain ⟨i, hi, rfl⟩ := List.getElem_of_mem hx
  have := ((edgesB_iff l).1 h).2 i hi
  simp only [edgeAt, Bool.and_eq_true] at this
  simpa [List.getElem?_eq_getElem hi] using this.1

set_option maxHeartbeats 2000000 in
theorem run_ok (T M : Int) (v : Value) (l : List Int) (w : World) (hr : Row w v l) (hw : wvld T M = true) (he : edgesB l = true) :
    Calls Try.prog 12 #[wv T M, v] w fun e w' => ∃ r, e = .returned (.tuple #[r, .int .i64 0]) ∧ RowOf 6 SyS.cells w' r (runS T M lost l) ∧ Below w.heap.size w w' := by
  obtain ⟨i0, hi0, hz0, hz1, hz2⟩ := info_parts Try.infoSync
  obtain ⟨hlen, hok⟩ := (edgesB_iff l).1 he
  have hany := any_time he
  have HANY := Lib.hid hany
  have HW := Lib.hid hw
  obtain ⟨a, cap, rfl, hlc, hcm⟩ := hr.form
  obtain ⟨wb, hwb⟩ : ∃ wb, wb = w.alloc (Obj.cells #[.int .i64 T, .int .i64 M] 23) := ⟨_, rfl⟩
  have hbb : Below w.heap.size w wb := by rw [hwb]; exact (Below.refl _ _).alloc (Nat.le_refl _) _
  have cT : wb.cell? ⟨w.heap.size, 0, none⟩ = some (.int .i64 T) := by rw [hwb]; exact World.cell?_alloc_at _ _ _ _ rfl
  have cM : wb.cell? ⟨w.heap.size, 1, none⟩ = some (.int .i64 M) := by rw [hwb]; exact World.cell?_alloc_at _ _ _ _ rfl
  have hsb : wb.heap.size = w.heap.size + 1 := by rw [hwb]; simp
  have HSB := Lib.hid hsb
  have hrb := hr.below hbb
  clear he hany hsb
  go_enter Try.func12, Try.ntmps12
  go_wp2_with fail
  rw [← hwb]
  clear hwb
  refine (wvalid_any _ _ _).mono ?_
  rintro e w1 ⟨rfl, hbw1⟩
  rw [HW.out]
  go_wp2_with fail
  refine (idx_run_c _ _ _ (hrb.below hbw1)).mono ?_
  rintro e w2 ⟨rfl, hbw2⟩
  rw [HANY.out]
  have z1 := hbw1.size
  have z2 := hbw2.size
  have hb2 : Below wb.heap.size wb w2 := hbw1.trans (hbw2.mono z1)
  have hrb2 := hrb.below hb2
  clear hbw1 hbw2
  go_wp2_with fail
  go_loopw [6] (fun i wr => ∃ k : Nat, 1 ≤ k ∧ i = .int .i64 k ∧ Below wb.heap.size wb wr) (fun i _ => l.length - (intOf i).toNat)
  case atStart => exact ⟨1, by omega, rfl, hb2⟩
  case round =>
    obtain ⟨k, hk1, rfl, hb⟩ := hrel
    by_cases hlt : k < l.length
    · obtain ⟨m, rfl⟩ : ∃ m, k = m + 1 := ⟨k - 1, by omega⟩
      obtain ⟨⟨a', c', q1, _, _, q4⟩, _⟩ := hrb.below hb
      simp only [Value.slice.injEq, true_and] at q1
      obtain ⟨rfl, rfl⟩ := q1
      obtain ⟨b, off, rfl, hbs, hc⟩ := q4 (by intro h; subst h; simp at hlt)
      have c1 := hc (m + 1) hlt
      have c0 := hc m (by omega)
      have hpt := edge_lt (hok (m + 1) hlt)
      obtain ⟨t, ht⟩ : ∃ t, t = l.getD (m + 1) 0 := ⟨_, rfl⟩
      obtain ⟨p, hp⟩ : ∃ p, p = l.getD m 0 := ⟨_, rfl⟩
      rw [← ht] at c1 hpt
      rw [← hp] at c0 hpt
      have j0 : (0 : Int) ≤ (m : Int) := by omega
      have j1 : (m : Int) + 1 < (l.length : Int) := by omega
      have j2 : (m : Int) < (l.length : Int) := by omega
      clear ht hp hc q4
      go_wp2
      go_quiet (fail)
      go_wp2
      go_round
      case rel => exact ⟨m + 1 + 1, by omega, by go_num, below_drewN hb _⟩
      case measure => simp [intOf]; omega
    · have hnl : ¬ ((k : Int) < (l.length : Int)) := by omega
      go_wp2_with (go_at_call 13; refine (new_any _).mono ?_; rintro e w3 ⟨rfl, hbw3⟩; obtain ⟨hcw3, hfw3⟩ := bcell hbw3; have hzw3 := hbw3.size; (try simp at hzw3); (try have hs0w3 : w.heap.size < w3.heap.size := by omega); (try have hs1w3 : w.heap.size + 1 < w3.heap.size := by omega); (try have hs2w3 : w.heap.size + 1 + 1 < w3.heap.size := by omega); (try have hs3w3 : w.heap.size + 1 + 1 + 1 < w3.heap.size := by omega); (try have hs_w1_w3 : w1.heap.size < w3.heap.size := by omega); (try have hs_w1p_w3 : w1.heap.size + 1 < w3.heap.size := by omega); (try have hs_w2_w3 : w2.heap.size < w3.heap.size := by omega); (try have hs_w2p_w3 : w2.heap.size + 1 < w3.heap.size := by omega); (try have hs_w3_w3 : w3.heap.size < w3.heap.size := by omega); (try have hs_w3p_w3 : w3.heap.size + 1 < w3.heap.size := by omega); (try have hs_w4_w3 : w4.heap.size < w3.heap.size := by omega); (try have hs_w4p_w3 : w4.heap.size + 1 < w3.heap.size := by omega); (try have hs_w5_w3 : w5.heap.size < w3.heap.size := by omega); (try have hs_w5p_w3 : w5.heap.size + 1 < w3.heap.size := by omega); (try have hs_w6_w3 : w6.heap.size < w3.heap.size := by omega); (try have hs_w6p_w3 : w6.heap.size + 1 < w3.heap.size := by omega))
      obtain ⟨F, hF⟩ : ∃ F, F = w3.heap.size := ⟨_, rfl⟩
      have hG : MemG wb F #[.int .i64 0, .int .i64 0, .int .i64 0, .int .i64 0, .int .i64 0, .int .i64 0] 34 34 6 0 [] (.slice none 0 0) (w3.alloc (.cells #[.int .i64 0, .int .i64 0, .int .i64 0, .int .i64 0, .int .i64 0, .int .i64 0] 34)) := by
        rw [hF]; exact MemG.start (hb.trans (hbw3.mono hb.size)) _
      rw [← hF]
      obtain ⟨wl, hwl⟩ : ∃ wl, wl = w3.alloc (.cells #[.int .i64 0, .int .i64 0, .int .i64 0, .int .i64 0, .int .i64 0, .int .i64 0] 34) := ⟨_, rfl⟩
      rw [← hwl] at hG ⊢
      clear hwl hF hbw3 hcw3 hfw3 hzw3 hb hnl hlt hk1
      go_loopw [7, 42] (fun o i wr => ∃ (k : Nat) (s : SyS) (pre : List SyS), k ≤ l.length ∧ i = .int .i64 k ∧ RelS T M l k s pre ∧ MemG wb F s.cells.toArray 34 34 6 k (pre.flatMap SyS.cells) o wr) (fun _ i _ => l.length - (intOf i).toNat)
      case atStart => exact ⟨0, lost, [], Nat.zero_le _, rfl, RelS.start l HW.out, hG⟩
      case round =>
        obtain ⟨k, s, pre, hk, rfl, hR, hL⟩ := hrel
        by_cases hlt : k < l.length
        · obtain ⟨⟨a', c', q1, _, _, q4⟩, _⟩ := hrb.below hL.bel
          simp only [Value.slice.injEq, true_and] at q1
          obtain ⟨rfl, rfl⟩ := q1
          obtain ⟨b, off, rfl, hbs, hc⟩ := q4 (by intro h; subst h; simp at hlt)
          have ct := hc k hlt
          obtain ⟨hB1, hB2⟩ := hR.before hlt hok
          have hRn := hR.next hlt hok
          obtain ⟨t, ht⟩ : ∃ t, t = l.getD k 0 := ⟨_, rfl⟩
          rw [← ht] at ct hB1 hB2 hRn
          obtain ⟨⟨m', th', la', pe', no', te'⟩, hr⟩ : ∃ s', stepT T M s t = s' := ⟨_, rfl⟩
          rw [hr] at hRn
          have HS := Lib.hid hr
          have HV := Lib.hid hR.vd
          have HB1 := Lib.hid hB1
          have HB2 := Lib.hid hB2
          have dT := (hL.bel.cell (p := ⟨w.heap.size, 0, none⟩) (by show w.heap.size < wb.heap.size; have := HSB.out; omega)).trans cT
          have dM := (hL.bel.cell (p := ⟨w.heap.size, 1, none⟩) (by show w.heap.size < wb.heap.size; have := HSB.out; omega)).trans cM
          (have x0a := (hL).cell 0 _ rfl); (have x1a := (hL).cell 1 _ rfl); (have x2a := (hL).cell 2 _ rfl); (have x3a := (hL).cell 3 _ rfl); (have x4a := (hL).cell 4 _ rfl); (have x5a := (hL).cell 5 _ rfl)
          have hpl := hR.len
          have HPL := Lib.hid hpl
          have j1 : (k : Int) < (l.length : Int) := by omega
          clear ht hr hB1 hB2 hc q4 hpl
          go_wp2_with fail
          refine (stepT_in HS.out _ HV.out HB1.out HB2.out).mono ?_
          rintro e w2 ⟨rfl, hbw2⟩
          have hL2 := hL.later hbw2
          clear x0a x1a x2a x3a x4a x5a ct dT dM hbw2
          (have x0b := (hL2).cell 0 _ rfl); (have x1b := (hL2).cell 1 _ rfl); (have x2b := (hL2).cell 2 _ rfl); (have x3b := (hL2).cell 3 _ rfl); (have x4b := (hL2).cell 4 _ rfl); (have x5b := (hL2).cell 5 _ rfl)
          (have y0b := (hL2).free 0); (have y1b := (hL2).free 1); (have y2b := (hL2).free 2); (have y3b := (hL2).free 3); (have y4b := (hL2).free 4); (have y5b := (hL2).free 5)
          have hL3 := hL2.set [.int .i64 m', .int .i64 th', .int .i64 la', .int .i64 pe', .int .i64 no', .int .i64 te'] #[.int .i64 m', .int .i64 th', .int .i64 la', .int .i64 pe', .int .i64 no', .int .i64 te'] rfl
          simp only [setAll] at hL3
          have hFo := hL3.own
          have hlt2 := hL2.hlt
          go_wp2_with (at_builtin; refine wpList_append_lies _ (by rfl) _ _ _ (by rfl) (F + 1) 34 i0 (sv 0 0 0 0 0 0) 6 48 Try.underlying29 hi0 hz0 hz1 hz2 rfl (by omega) u7 k (pre.flatMap SyS.cells) (by rfl) (hFo.alloc _) ⟨w2.heap.size, 0, none⟩ 1 1 [.int .i64 m', .int .i64 th', .int .i64 la', .int .i64 pe', .int .i64 no', .int .i64 te'] (by rfl) (by rfl) ?_ (by simp [Value.oneCell']) (by omega) (by unfold maxLen; omega) (by omega) ?_ _ rfl ?_)
          · exact World.news_of_block (cs := #[.int .i64 m', .int .i64 th', .int .i64 la', .int .i64 pe', .int .i64 no', .int .i64 te']) (t := 34) (fr := (0, 0)) (setAll_new [.int .i64 m', .int .i64 th', .int .i64 la', .int .i64 pe', .int .i64 no', .int .i64 te'] w2 F _)
          · exact Nat.succ_le_of_lt (Nat.lt_of_lt_of_le hL3.hlt ((Below.refl 0 _).alloc (Nat.zero_le _) _).size)
          intro gg cap2 wx hown1 hgrow hat hltx
          have e : (pre ++ [(⟨m', th', la', pe', no', te'⟩ : SyS)]).flatMap SyS.cells = pre.flatMap SyS.cells ++ [.int .i64 m', .int .i64 th', .int .i64 la', .int .i64 pe', .int .i64 no', .int .i64 te'] := by simp [SyS.cells]
          have hM := hL3.append hgrow hown1
          rw [← e] at hM
          have hM2 : MemG wb F (SyS.cells ⟨m', th', la', pe', no', te'⟩).toArray 34 34 6 (k + 1) ((pre ++ [(⟨m', th', la', pe', no', te'⟩ : SyS)]).flatMap SyS.cells) (.slice (some ⟨gg, 0, none⟩) (k + 1) cap2) wx := hM
          clear hM hown1 hgrow hat hltx e hL3 hFo hL2 x0b x1b x2b x3b x4b x5b y0b y1b y2b y3b y4b y5b
          go_wp2
          go_roundw
          case rel => exact ⟨k + 1, ⟨m', th', la', pe', no', te'⟩, pre ++ [⟨m', th', la', pe', no', te'⟩], by omega, by go_num, hRn, hM2⟩
          case measure => simp [intOf]; omega
        · obtain rfl : k = l.length := by omega
          have hfin := hR.finish
          have hpl := hR.len
          go_wp2
          go_ret2
          refine ⟨_, rfl, ?_, hbb.trans (hL.bel.mono (by have := HSB.out; omega))⟩
          rw [← hfin]
          exact RowOf.of_owns (B := F + 1) (E := 34) SyS.cells_length (by rw [hpl]; exact hL.own)

end Go.Proofs.Ytcaadikffaflnaa
