/- The contract of toothfilter.Run. -/
import Derived.Test.YtnpoofddnmodoaaLst
import Derived.Deep.AppendLies
import Derived.Deep.RegionLaw
namespace Go.Proofs.Ytnpoofddnmodoaa
open Go.RowKit Go.Sort

def RunPost (l : List Int) (w : World) (e : Ending) (w' : World) : Prop :=
  ∃ r, e = .returned (.tuple #[r, .int .i64 (if edgesB l = true then 0 else 1)]) ∧ Row w' r (if edgesB l = true then runL l else []) ∧ Below w.heap.size w w'

theorem RunPost.bad {l : List Int} {w : World} (h : edgesB l = false) {w' : World} (hb : Below w.heap.size w w') : RunPost l w (.returned (.tuple #[.slice none 0 0, .int .i64 1])) w' :=
  ⟨.slice none 0 0, by simp [h], by simp [h]; exact Row.nil _, hb⟩

theorem Try.infoInt : (Try.prog.info? 3).map (fun i => (i.zero, i.size, i.bytes)) = some (some (.int .i64 0), 1, 8) := by kernel_rfl

theorem new_any (w : World) : Calls Try.prog 20 #[] w fun e w' => e = .returned (fl false 0 0) ∧ Below w.heap.size w w' := by
  go_enter Try.func20, Try.ntmps20
  go_wp2
  refine bodyPost_ret (v := fl false 0 0) (by simp [results, Try.results20, go_sem, *]) rfl ?_
  refine ⟨rfl, ?_⟩
  repeat' (first | exact Below.refl _ _ | assumption | (refine Below.setCell ?_ (by first | omega | (simp <;> omega)) _) | (refine Below.alloc ?_ (by first | omega | (simp <;> omega)) _) | (refine Below.drew ?_) | (refine Below.trans ?_ (Below.mono (by assumption) (by first | omega | (simp <;> omega)))))

theorem step_eq {sn : Bool} {la pe t : Int} {sn' : Bool} {la' pe' : Int} {ok : Bool} {er : Int} (h : stepR sn la pe t = ⟨sn', la', pe', ok, er⟩) (w : World) :
    Calls Try.prog 11 #[fl sn la pe, .int .i64 t] w fun e w' => e = .returned (.tuple #[fl sn' la' pe', .bool ok, .int .i64 er]) ∧ Below w.heap.size w w' :=
  (step_any sn la pe t w).mono fun e w' ⟨h1, h2⟩ => ⟨by rw [h1, h]; rfl, h2⟩

/-- What the second loop holds: the state's block F, the slice of the accepted edges, old memory. -/
structure LoopW (l : List Int) (w : World) (F : Nat) (k : Nat) (sn : Bool) (la pe : Int) (xs : List Int) (o : Value) (wr : World) : Prop where
  rel : Rel l k sn la pe xs
  own : wr.ownsRow (F + 1) 3 1 o xs.length (xs.map (Value.int .i64))
  c0 : wr.cell? ⟨F, 0, none⟩ = some (.bool sn)
  c1 : wr.cell? ⟨F, 1, none⟩ = some (.int .i64 la)
  c2 : wr.cell? ⟨F, 2, none⟩ = some (.int .i64 pe)
  f0 : ∀ i, wr.frozen? ⟨F, i, none⟩ = false
  hF : w.heap.size ≤ F
  hlt : F < wr.heap.size
  bel : Below w.heap.size w wr

theorem LoopW.later {l : List Int} {w : World} {F k : Nat} {sn : Bool} {la pe : Int} {xs : List Int} {o : Value} {wr w2 : World} (h : LoopW l w F k sn la pe xs o wr) (hb : Below wr.heap.size wr w2) : LoopW l w F k sn la pe xs o w2 :=
  ⟨h.rel, h.own.kept (row := none) ⟨hb.os, hb.tape, hb.output, hb.size, fun k hk _ => hb.block k hk⟩ (by cases o.ownBlock <;> simp), (hb.cell h.hlt).trans h.c0, (hb.cell h.hlt).trans h.c1, (hb.cell h.hlt).trans h.c2, fun i => (hb.frozen h.hlt).trans (h.f0 i), h.hF, Nat.lt_of_lt_of_le h.hlt hb.size, h.bel.trans (hb.mono h.bel.size)⟩

theorem LoopW.skip {l : List Int} {w : World} {F k : Nat} {sn : Bool} {la pe : Int} {xs : List Int} {o : Value} {wr : World} (h : LoopW l w F k sn la pe xs o wr) (hk : k < l.length) (ha : (stepR sn la pe (l.getD k 0)).ok = false) : LoopW l w F (k + 1) sn la pe xs o wr :=
  ⟨h.rel.skip hk ha, h.own, h.c0, h.c1, h.c2, h.f0, h.hF, h.hlt, h.bel⟩

theorem RunPost.good {l : List Int} {w w' : World} {r : Value} (h : edgesB l = true) (hr : Row w' r (runL l)) (hb : Below w.heap.size w w') : RunPost l w (.returned (.tuple #[r, .int .i64 0])) w' :=
  ⟨r, by rw [if_pos h], by rw [if_pos h]; exact hr, hb⟩

theorem LoopW.ne {l : List Int} {w : World} {F k : Nat} {sn : Bool} {la pe : Int} {xs : List Int} {o : Value} {wr : World} (h : LoopW l w F k sn la pe xs o wr) : o.ownBlock ≠ some F ∧ ∀ j, wr.heap.size ≤ j → o.ownBlock ≠ some j :=
  ⟨fun e => by have := h.own.lt _ e; omega, fun j hj e => by have := h.own.lt _ e; omega⟩

theorem far2 {w2 wx : World} {o : Value} {o1 o2 : Obj} {F i : Nat} (hF : F < w2.heap.size) (hg : (((w2.alloc o1).alloc o2).drew).grownBy wx o.ownBlock) (hne : o.ownBlock ≠ some F) :
    wx.cell? ⟨F, i, none⟩ = w2.cell? ⟨F, i, none⟩ ∧ wx.frozen? ⟨F, i, none⟩ = w2.frozen? ⟨F, i, none⟩ := by
  have hs : F < (((w2.alloc o1).alloc o2).drew).heap.size := by simp; omega
  refine ⟨(hg.cell_far _ hs (Ne.symm hne)).trans ?_, (hg.frozen_far _ hs (Ne.symm hne)).trans ?_⟩
  · show ((w2.alloc o1).alloc o2).cell? _ = _
    rw [World.cell?_alloc_past _ _ _ (by simp; omega), World.cell?_alloc_past _ _ _ hF]
  · show ((w2.alloc o1).alloc o2).frozen? _ = _
    rw [World.frozen?_alloc_past _ _ _ (by simp; omega), World.frozen?_alloc_past _ _ _ hF]

theorem heap_new2 (w : World) (o1 o2 : Obj) : ((w.alloc o1).alloc o2).heap[w.heap.size + 1]? = some o2 := by
  have := heap_alloc_new (w.alloc o1) o2
  simpa using this

theorem LoopW.push {l : List Int} {w : World} {F k : Nat} {sn : Bool} {la pe : Int} {xs : List Int} {o v : Value} {w2 wx : World} {sn' : Bool} {la' pe' : Int} {er : Int} {o1 o2 : Obj} (h : LoopW l w F k sn la pe xs o w2) (hk : k < l.length) (hok : OkUpto l l.length)
    (hr : stepR sn la pe (l.getD k 0) = ⟨sn', la', pe', true, er⟩) (hg : (((w2.alloc o1).alloc o2).drew).grownBy wx o.ownBlock)
    (hown : wx.ownsRow (F + 1) 3 1 v (xs.length + 1) (xs.map (Value.int .i64) ++ [.int .i64 (l.getD k 0)])) :
    LoopW l w F (k + 1) sn' la' pe' (xs ++ [l.getD k 0]) v (((wx.setCell ⟨F, 0, none⟩ (.bool sn')).setCell ⟨F, 1, none⟩ (.int .i64 la')).setCell ⟨F, 2, none⟩ (.int .i64 pe')) := by
  have hrel := h.rel.take hk hok (by rw [hr])
  rw [hr] at hrel
  have f (i : Nat) := far2 (i := i) h.hlt hg h.ne.1
  have hbx : Below w.heap.size w wx := ((h.bel.alloc h.bel.size o1).alloc (by have := h.bel.size; simp; omega) o2).drew.grown hg (by have := h.bel.size; simp; omega) (fun j hj => by have := (h.own.lt j hj).1; have := h.hF; omega)
  have x0 := (f 0).1.trans h.c0
  have x1 := (f 1).1.trans h.c1
  have x2 := (f 2).1.trans h.c2
  refine ⟨hrel, ?_, ?_, ?_, ?_, fun i => ?_, h.hF, ?_, ?_⟩
  · have := ownsRow_setCell_below (ownsRow_setCell_below (ownsRow_setCell_below hown (a := ⟨F, 0, none⟩) (Nat.lt_succ_self F) (.bool sn')) (a := ⟨F, 1, none⟩) (Nat.lt_succ_self F) (.int .i64 la')) (a := ⟨F, 2, none⟩) (Nat.lt_succ_self F) (.int .i64 pe')
    simpa using this
  · rw [World.cell?_setCell_other _ _ _ _ (by simp), World.cell?_setCell_other _ _ _ _ (by simp), World.cell?_setCell_same _ _ _ x0]
  · rw [World.cell?_setCell_other _ _ _ _ (by simp), World.cell?_setCell_same (h := (World.cell?_setCell_other _ _ _ _ (by simp)).trans x1)]
  · rw [World.cell?_setCell_same (h := (World.cell?_setCell_other _ _ _ _ (by simp)).trans ((World.cell?_setCell_other _ _ _ _ (by simp)).trans x2))]
  · rw [World.frozen?_setCell, World.frozen?_setCell, World.frozen?_setCell, (f i).2, h.f0 i]
  · have := hg.size; simp at this; have := h.hlt; simp [World.setCell]; omega
  · exact ((hbx.setCell (p := ⟨F, 0, none⟩) h.hF _).setCell (p := ⟨F, 1, none⟩) h.hF _).setCell (p := ⟨F, 2, none⟩) h.hF _

set_option maxHeartbeats 1000000 in
theorem run_any (v : Value) (l : List Int) (w : World) (hr : Row w v l) : Calls Try.prog 15 #[v] w (RunPost l w) := by
  obtain ⟨⟨a, cap, rfl, hlc, hcm, hcell⟩, hwf⟩ := hr
  unfold maxLen at hcm
  obtain ⟨i0, hi0, hz0, hz1, hz2⟩ := info_parts Try.infoInt
  by_cases hlen : l.length ≤ 1000
  · go_enter Try.func15, Try.ntmps15
    go_wp2
    go_loop [18] (fun i => ∃ k : Nat, k ≤ l.length ∧ i = .int .i64 k ∧ OkUpto l k) (fun i => l.length - (intOf i).toNat)
    case atStart => exact ⟨0, Nat.zero_le _, rfl, OkUpto.zero _⟩
    case round =>
      obtain ⟨k, hk, rfl, hok⟩ := hrel
      by_cases hlt : k < l.length
      · obtain ⟨b, off, rfl, hbs, hc⟩ := hcell (by intro h; subst h; simp at hlt)
        obtain ⟨t, ht⟩ : ∃ t, t = l.getD k 0 := ⟨_, rfl⟩
        have c0 := hc k hlt
        rw [← ht] at c0
        have HT := Lib.hid ht
        clear ht
        cases k with
        | zero =>
          rw [Nat.add_zero] at c0
          by_cases hti : isTime t = true
          · have he : edgeAt l 0 = true := by simp only [edgeAt, ← HT.out, hti]; rfl
            have hok1 := hok.succ he
            clear hok he hc hcell
            go_wp2_with (go_at_call 26; refine (time_any _ _).mono ?_; rintro e w1 ⟨rfl, rfl⟩)
            go_round
            case rel => exact ⟨1, by omega, by go_num, hok1⟩
            case measure => simp [intOf]; omega
          · have hti' : isTime t = false := by simpa using hti
            have hbad : edgesB l = false := edgesB_false_of l 0 hlt (by simp only [edgeAt, ← HT.out, hti']; rfl)
            have HB := Lib.hid hbad
            clear hok hc hcell hti hbad
            go_wp2_with (go_at_call 26; refine (time_any _ _).mono ?_; rintro e w1 ⟨rfl, rfl⟩)
            go_ret2
            exact RunPost.bad HB.out (Below.refl _ _)
        | succ m =>
          obtain ⟨p, hp⟩ : ∃ p, p = l.getD m 0 := ⟨_, rfl⟩
          have c1 := hc m (by omega)
          rw [← hp] at c1
          have HP := Lib.hid hp
          clear hp
          by_cases hti : isTime t = true
          · by_cases hpt : p < t
            · have he : edgeAt l (m + 1) = true := by simp only [edgeAt, ← HT.out, hti, Nat.add_sub_cancel, ← HP.out, hpt]; simp
              have hok1 := hok.succ he
              clear hok he hc hcell
              go_wp2_with (go_at_call 26; refine (time_any _ _).mono ?_; rintro e w1 ⟨rfl, rfl⟩)
              go_round
              case rel => exact ⟨m + 1 + 1, by omega, by go_num, hok1⟩
              case measure => simp [intOf]; omega
            · have hbad : edgesB l = false := edgesB_false_of l (m + 1) hlt (by simp only [edgeAt, ← HT.out, hti, Nat.add_sub_cancel, ← HP.out, hpt]; simp)
              have HB := Lib.hid hbad
              clear hok hc hcell hbad
              go_wp2_with (go_at_call 26; refine (time_any _ _).mono ?_; rintro e w1 ⟨rfl, rfl⟩)
              go_ret2
              exact RunPost.bad HB.out (Below.refl _ _)
          · have hti' : isTime t = false := by simpa using hti
            have hbad : edgesB l = false := edgesB_false_of l (m + 1) hlt (by simp only [edgeAt, ← HT.out, hti']; rfl)
            have HB := Lib.hid hbad
            clear hok hc hcell hti hbad
            go_wp2_with (go_at_call 26; refine (time_any _ _).mono ?_; rintro e w1 ⟨rfl, rfl⟩)
            go_ret2
            exact RunPost.bad HB.out (Below.refl _ _)
      · obtain rfl : k = l.length := by omega
        have hgood : edgesB l = true := (edgesB_iff l).2 ⟨hlen, hok⟩
        have HG := Lib.hid hgood
        clear hgood
        go_wp2_with (go_at_call 20; refine (new_any _).mono ?_; rintro e w1 ⟨rfl, hbw1⟩; obtain ⟨hcw1, hfw1⟩ := bcell hbw1; have hzw1 := hbw1.size; (try simp at hzw1); (try have hs0w1 : w.heap.size < w1.heap.size := by omega); (try have hs1w1 : w.heap.size + 1 < w1.heap.size := by omega); (try have hs2w1 : w.heap.size + 1 + 1 < w1.heap.size := by omega); (try have hs3w1 : w.heap.size + 1 + 1 + 1 < w1.heap.size := by omega))
        obtain ⟨F, hF⟩ : ∃ F, F = w1.heap.size := ⟨_, rfl⟩
        rw [← hF]
        obtain ⟨wl, hwl⟩ : ∃ wl, wl = w1.alloc (Obj.cells #[Value.bool false, Value.int IntKind.i64 0, Value.int IntKind.i64 0] 23) := ⟨_, rfl⟩
        rw [← hwl]
        have h0 : LoopW l w F 0 false 0 0 [] (.slice none 0 0) wl := by
          subst hwl hF
          exact ⟨Rel.start l, World.ownsRow_nil _ _ _ _, World.cell?_alloc_at _ _ _ _ rfl, World.cell?_alloc_at _ _ _ _ rfl, World.cell?_alloc_at _ _ _ _ rfl, fun _ => World.frozen?_alloc_at _ _ _ _ rfl, hbw1.size, by simp, hbw1.alloc (by have := hbw1.size; omega) _⟩
        clear hwl hF hbw1 hcw1 hfw1 hzw1
        go_loopw [6, 43] (fun o i wr => ∃ (k : Nat) (sn : Bool) (la pe : Int) (xs : List Int), k ≤ l.length ∧ i = .int .i64 k ∧ LoopW l w F k sn la pe xs o wr) (fun _ i _ => l.length - (intOf i).toNat)
        case atStart => exact ⟨0, false, 0, 0, [], Nat.zero_le _, rfl, h0⟩
        case round =>
          obtain ⟨k, sn, la, pe, xs, hk, rfl, hL⟩ := hrel
          by_cases hlt : k < l.length
          · obtain ⟨b, off, rfl, hbs, hc⟩ := hcell (by intro h; subst h; simp at hlt)
            obtain ⟨t, ht⟩ : ∃ t, t = l.getD k 0 := ⟨_, rfl⟩
            have ct := (hL.bel.cell hbs).trans (hc k hlt)
            rw [← ht] at ct
            have c0 := hL.c0
            have c1 := hL.c1
            have c2 := hL.c2
            obtain ⟨e1, e2, e3⟩ := stepR_err hL.rel hlt hok
            have hSk := fun h => hL.skip hlt h
            rw [← ht] at e1 e2 e3 hSk
            obtain ⟨⟨sn', la', pe', ok', er'⟩, hr⟩ : ∃ r, stepR sn la pe t = r := ⟨_, rfl⟩
            rw [hr] at e1 e2 e3 hSk
            obtain rfl : er' = 0 := e1
            have HS := Lib.hid hr
            have HT := Lib.hid ht
            clear hr ht hc hcell
            cases ok' with
            | false =>
              have hL1 := hSk rfl
              clear e2 e3 hSk hok HT
              go_wp2_with (go_at_call 11; refine (step_eq HS.out _).mono ?_; rintro e w2 ⟨rfl, hbw2⟩; obtain ⟨hcw2, hfw2⟩ := bcell hbw2; have hzw2 := hbw2.size; (try simp at hzw2); (try have hs0w2 : w.heap.size < w2.heap.size := by omega); (try have hs1w2 : w.heap.size + 1 < w2.heap.size := by omega); (try have hs2w2 : w.heap.size + 1 + 1 < w2.heap.size := by omega); (try have hs3w2 : w.heap.size + 1 + 1 + 1 < w2.heap.size := by omega))
              go_roundw
              case rel => exact ⟨k + 1, sn, la, pe, xs, by omega, by go_num, hL1.later (hbw2.alloc (by omega) _)⟩
              case measure => simp [intOf]; omega
            | true =>
              clear e2 e3 hSk
              go_wp2_with (go_at_call 11; refine (step_eq HS.out _).mono ?_; rintro e w2 ⟨rfl, hbw2⟩; obtain ⟨hcw2, hfw2⟩ := bcell hbw2; have hzw2 := hbw2.size; (try simp at hzw2); (try have hs0w2 : w.heap.size < w2.heap.size := by omega); (try have hs1w2 : w.heap.size + 1 < w2.heap.size := by omega); (try have hs2w2 : w.heap.size + 1 + 1 < w2.heap.size := by omega); (try have hs3w2 : w.heap.size + 1 + 1 + 1 < w2.heap.size := by omega))
              have hL2 := hL.later hbw2
              have hlen2 : xs.length ≤ 1000 := by have := hL.rel.len; omega
              have neF := hL2.ne.1
              have neG := hL2.ne.2 w2.heap.size (Nat.le_refl _)
              have hFw := hL2.hlt
              have z0 := hL2.c0
              have z1 := hL2.c1
              have z2 := hL2.c2
              have zf0 := hL2.f0 0
              have zf1 := hL2.f0 1
              have zf2 := hL2.f0 2
              have hBw := hL2.bel.size
              have nFG : ¬ F = w2.heap.size := by omega
              have nGF : ¬ w2.heap.size = F := by omega
              have hFo := hL2.own
              clear hcw2 hfw2 hbw2 c0 c1 c2 ct
              go_region_held3 (fun w' => w'.cell? ⟨w2.heap.size, 0, none⟩ = some (.bool sn') ∧ w'.cell? ⟨w2.heap.size, 1, none⟩ = some (.int .i64 la') ∧ w'.cell? ⟨w2.heap.size, 2, none⟩ = some (.int .i64 pe'))
                (first
                  | go_keep
                  | (go_split_ands
                     refine ⟨?_, ?_, ?_⟩
                     · (rw [hgrow.cell_far ⟨w2.heap.size, 0, none⟩ (by simp; omega) (Ne.symm neG)]; assumption)
                     · (rw [hgrow.cell_far ⟨w2.heap.size, 1, none⟩ (by simp; omega) (Ne.symm neG)]; assumption)
                     · (rw [hgrow.cell_far ⟨w2.heap.size, 2, none⟩ (by simp; omega) (Ne.symm neG)]; assumption)))
                ((refine step_append_lies _ (by rfl) _ _ _ (by rfl) (F + 1) 3 i0 (.int .i64 0) 1 8 Try.underlying33 hi0 hz0 hz1 hz2 rfl (by omega) u6 xs.length (xs.map (Value.int .i64)) (by rfl) (((hFo.alloc _).alloc _).drew)
                    ⟨w2.heap.size + 1, 0, none⟩ 1 1 [.int .i64 t] (by rfl) (by rfl) (World.news_of_block (cs := #[.int .i64 t]) (t := 3) (fr := (0, 0)) (heap_new2 _ _ _)) (by simp [Value.oneCell'])
                    (by omega) (by unfold maxLen; omega) (by omega) (by simp; omega) (w2.heap.size + 2) (by simp) ?_; intro gg cap2 wx hown1 hgrow hat hltx; have x0 := (far2 (i := 0) hFw hgrow neF).1.trans z0; have x1 := (far2 (i := 1) hFw hgrow neF).1.trans z1; have x2 := (far2 (i := 2) hFw hgrow neF).1.trans z2; have y0 := (far2 (i := 0) hFw hgrow neF).2.trans zf0; have y1 := (far2 (i := 1) hFw hgrow neF).2.trans zf1; have y2 := (far2 (i := 2) hFw hgrow neF).2.trans zf2))
              have hF := LoopW.push hL2 hlt hok (HT.out ▸ HS.out) hgrow (HT.out ▸ hown1)
              rw [← HT.out] at hF
              go_wp2
              go_roundw
              case rel => exact ⟨k + 1, sn', la', pe', xs ++ [t], by omega, by go_num, by simpa using hF⟩
              case measure => simp [intOf]; omega
          · obtain rfl : k = l.length := by omega
            go_wp2
            go_ret2
            exact RunPost.good HG.out (by rw [← hL.rel.finish]; exact Row.of_owns hL.own (fun n hn => hwf n (hL.rel.sub n hn))) hL.bel
  · have hbad : edgesB l = false := by simp [edgesB]; omega
    go_enter Try.func15, Try.ntmps15
    go_wp2
    go_ret2
    exact RunPost.bad hbad (Below.refl _ _)

end Go.Proofs.Ytnpoofddnmodoaa
