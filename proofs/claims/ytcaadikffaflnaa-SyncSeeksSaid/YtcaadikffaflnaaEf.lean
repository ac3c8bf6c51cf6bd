/- Regions that draw their order: one run serves every order: the proof. No program in sight. -/
import Derived.Test.YtcaadikffaflnaaEe
namespace Go.Proofs.Ytcaadikffaflnaa
set_option linter.unusedVariables false
set_option linter.unusedSimpArgs false
open Go.RowKit

section
variable {P : Program} {Γ : Con} {κ : Ctx} {s t : St} {a : Act} {w : World} {ops : Array Oper}

/-- What an operation that makes or writes memory does does not depend on the frame but for what it looks at. -/
theorem opE_agree {o : Oper} {ob : List Bool} {v : AV} {s' : St} (h : Agree (tmpsOf o.op.operands.toList) s t) (hk : kK o.op = false) (hn : s.n = t.n) (hb : s.blks = t.blks) (hrw : s.rows = t.rows) (hr : opE P Γ s o.op = some (ob, v, s')) :
    s' = { s with blks := s'.blks, rows := s'.rows } ∧ opE P Γ t o.op = some (ob, v, { t with blks := s'.blks, rows := s'.rows }) := by
  cases hop : o.op with
  | alloc ty =>
    rw [hop] at hr
    simp only [opE, forceL_eq] at hr ⊢
    split at hr
    · split at hr
      · split at hr
        · split at hr
          · rename_i ro _
            cases hc : (eqPl (List.map CV.ofVal _) ro.flat && Nat.ble 2 _ && Nat.ble _ 1000) with
            | false => rw [hc] at hr; cases hr
            | true =>
              rw [hc, cond_true] at hr
              simp only [Option.some.injEq, Prod.mk.injEq] at hr
              obtain ⟨rfl, rfl, rfl⟩ := hr
              refine ⟨rfl, ?_⟩
              rw [cond_true, hb, hrw]
          · cases hr
        · simp only [Option.some.injEq, Prod.mk.injEq] at hr
          obtain ⟨rfl, rfl, rfl⟩ := hr
          refine ⟨rfl, ?_⟩
          rw [hb, hrw]
      · cases hr
    · cases hr
  | box ty x =>
    rw [hop] at h hr
    simp only [opE, TV.force_eq] at hr ⊢
    rw [← rd1_agree h (x := x) (by simp [Op.operands])]
    cases hc : (rd1 s [] x).solid with
    | false => rw [hc] at hr; cases hr
    | true =>
      rw [hc, cond_true] at hr
      simp only [Option.some.injEq, Prod.mk.injEq] at hr
      obtain ⟨rfl, rfl, rfl⟩ := hr
      refine ⟨rfl, ?_⟩
      rw [cond_true, hb, hrw]
  | store ty x y =>
    rw [hop] at h hr
    simp only [opE, TV.force_eq, forceL_eq] at hr ⊢
    rw [← rd1_agree h (x := x) (by simp [Op.operands]), ← rd1_agree h (x := y) (by simp [Op.operands]), ← hb]
    split at hr
    · split at hr
      · rename_i cs hcs
        cases hc : ((rd1 s [] y).solid && (rd1 s [] y).cells.all CV.real && Nat.beq (rd1 s [] y).cells.length _ && Nat.ble (_ + (rd1 s [] y).cells.length) cs.length) with
        | false => rw [hc] at hr; cases hr
        | true =>
          rw [hc, cond_true] at hr
          simp only [Option.some.injEq, Prod.mk.injEq] at hr
          obtain ⟨rfl, rfl, rfl⟩ := hr
          refine ⟨rfl, ?_⟩
          rw [cond_true, hrw]
      · cases hr
    · rw [← hrw]
      split at hr
      · split at hr
        · rename_i ro hro _ _ E rn _ _
          cases hc : ((rd1 s [] y).solid && (rd1 s [] y).cells.all CV.real && Nat.beq (rd1 s [] y).cells.length _ && Nat.beq _ ro.ro.width && Nat.ble (_ + (rd1 s [] y).cells.length) _) with
          | false => rw [hc] at hr; cases hr
          | true =>
            rw [hc, cond_true] at hr
            simp only [Option.some.injEq, Prod.mk.injEq] at hr
            obtain ⟨rfl, rfl, rfl⟩ := hr
            refine ⟨rfl, ?_⟩
            rw [cond_true, hb]
        · cases hr
      · cases hr
    · cases hr
  | buildSlice ty len parts =>
    rw [hop] at h hr
    simp only [opE, forceL_eq] at hr ⊢
    have e : (parts.toList.map fun (i, x) => (i, rd1 t [] x)) = (parts.toList.map fun (i, x) => (i, rd1 s [] x)) := by
      apply List.map_congr_left
      rintro ⟨i, x⟩ hp
      show (i, rd1 t [] x) = (i, rd1 s [] x)
      rw [rd1_agree h (x := x)]
      simp only [Op.operands]
      exact List.mem_map.2 ⟨(i, x), hp, rfl⟩
    rw [e]
    split at hr
    · split at hr
      · split at hr
        · rename_i z hz
          cases hc : (Nat.ble len 1000 && Nat.ble _ 1000 && Nat.ble 1 _ && Nat.beq z.cells.size _) with
          | false => rw [hc] at hr; cases hr
          | true =>
            rw [hc, cond_true] at hr
            rw [cond_true]
            simp only [Option.bind_eq_some_iff] at hr ⊢
            obtain ⟨cs, h1, hr⟩ := hr
            split at hr
            · rename_i ro hro
              cases hw : Nat.beq ro.width _ with
              | false => rw [hw] at hr; cases hr
              | true =>
                rw [hw, cond_true] at hr
                simp only [Option.some.injEq, Prod.mk.injEq] at hr
                obtain ⟨rfl, rfl, rfl⟩ := hr
                refine ⟨rfl, cs, h1, ?_⟩
                rw [hro]
                simp only [hw, cond_true, hb, hrw]
            · rename_i hro
              simp only [Option.some.injEq, Prod.mk.injEq] at hr
              obtain ⟨rfl, rfl, rfl⟩ := hr
              refine ⟨rfl, cs, h1, ?_⟩
              rw [hro]
              simp only [hb, hrw]
        · cases hr
      · cases hr
    · cases hr
  | makeSlice ty x y =>
    rw [hop] at h hr
    simp only [opE] at hr ⊢
    rw [← rd1_agree h (x := x) (by simp [Op.operands]), ← rd1_agree h (x := y) (by simp [Op.operands])]
    split at hr
    · split at hr
      · split at hr
        · rename_i z _
          cases hc : (eqPl (z.cells.toList.map CV.ofVal) _ && Nat.ble 1 _ && Nat.beq _ _ && Nat.ble _ 32768) with
          | false => rw [hc] at hr; cases hr
          | true =>
            rw [hc, cond_true] at hr
            simp only [Option.some.injEq, Prod.mk.injEq] at hr
            obtain ⟨rfl, rfl, rfl⟩ := hr
            refine ⟨rfl, ?_⟩
            rw [cond_true, hb, hrw]
        · cases hr
      · cases hr
    · cases hr
  | slice ty x lo hi mx =>
    rw [hop] at h hr
    cases mx with
    | some m => cases hr
    | none =>
      have hlo : loOf s lo = loOf t lo := by
        cases lo with
        | none => rfl
        | some y => simp only [loOf]; rw [rd1_agree h (x := y) (by simp [Op.operands])]
      have hhi : ∀ n, hiOf s n hi = hiOf t n hi := by
        intro n
        cases hi with
        | none => rfl
        | some y => simp only [hiOf]; rw [rd1_agree h (x := y) (by simp [Op.operands])]
      simp only [opE] at hr ⊢
      rw [← rd1_agree h (x := x) (by simp [Op.operands]), ← hlo, ← hrw]
      split at hr
      · split at hr
        · split at hr
          · rename_i hh hhe
            cases hc : Nat.beq _ _ with
            | false => rw [hc] at hr; cases hr
            | true =>
              rw [hc, cond_true] at hr
              simp only [Option.some.injEq, Prod.mk.injEq] at hr
              obtain ⟨rfl, rfl, rfl⟩ := hr
              refine ⟨rfl, ?_⟩
              rw [← hhi, hhe]
              simp only [hc, cond_true, hb]
          · cases hr
        · cases hr
      · cases hr
  | call c =>
    rw [hop] at h hr hk
    obtain ⟨callee, ⟨args⟩, ⟨tys⟩⟩ := c
    cases callee with
    | invoke r m => cases hr
    | builtin b =>
      cases b <;> first | (cases hr; done) | (cases hk; done) | skip
      simp only [opE] at hr ⊢
      split at hr
      · rename_i x y ty ty'
        rw [← rd1_agree h (x := x) (by simp [Op.operands, Call.operands]), ← rd1_agree h (x := y) (by simp [Op.operands, Call.operands]), ← hrw]
        split at hr
        · split at hr
          · split at hr
            · split at hr
              · split at hr
                · split at hr
                  · cases hc : (!(Nat.beq _ _) && Nat.beq _ 1 && Nat.beq _ 1) with
                    | false => rw [hc] at hr; cases hr
                    | true =>
                      rw [hc, cond_true] at hr
                      simp only [Option.some.injEq, Prod.mk.injEq] at hr
                      obtain ⟨rfl, rfl, rfl⟩ := hr
                      refine ⟨rfl, ?_⟩
                      rw [cond_true, hb]
                  · cases hr
                · cases hr
              · simp only [Option.some.injEq, Prod.mk.injEq] at hr
                obtain ⟨rfl, rfl, rfl⟩ := hr
                refine ⟨rfl, ?_⟩
                simp only [hb, hrw]
              · cases hr
            · cases hr
          · cases hr
        · cases hr
      · cases hr
    | value f =>
      have hmap : args.map (rd1 t []) = args.map (rd1 s []) := List.map_congr_left fun x hx => (rd1_agree h (by simp [Op.operands, Call.operands, hx]) []).symm
      simp only [opE, forceT_eq, AV.force_eq] at hr ⊢
      rw [hmap, ← rd1_agree h (x := f) (by simp [Op.operands, Call.operands]), ← hrw]
      split at hr
      · split at hr
        · simp only [Option.some.injEq, Prod.mk.injEq] at hr
          obtain ⟨rfl, rfl, rfl⟩ := hr
          refine ⟨rfl, ?_⟩
          simp only [hb]
        · cases hr
      · cases hr
  | _ => rw [hop] at hr; cases hr

theorem same_eff {s t : St} (h : Same s t) (b : List (List CV)) (r : List RowS) : Same { s with blks := b, rows := r } { t with blks := b, rows := r } := ⟨h.n, h.get, h.gts, rfl, rfl⟩
theorem same_put {s t : St} (h : Same s t) (d : Option Tmp) (v : AV) : Same (s.put d v) (t.put d v) := by
  obtain ⟨a1, a2, a3, a4⟩ := put_same s d v
  obtain ⟨b1, b2, b3, b4⟩ := put_same t d v
  exact ⟨by rw [a1, b1, h.n], fun k => by rw [put_get, put_get, h.get], fun k => by rw [a4, b4]; exact h.gts k, by rw [a2, b2, h.blks], by rw [a3, b3, h.rows]⟩
theorem same_guardO {s t : St} (h : Same s t) (g : Option Nat) : Same (guardO s g) (guardO t g) := by
  obtain ⟨a1, a2, a3, a4⟩ := guardO_same s g
  obtain ⟨b1, b2, b3, b4⟩ := guardO_same t g
  exact ⟨by rw [a1, b1, h.n], fun k => by rw [guardO_get, guardO_get, h.get], fun k => by rw [a4, b4, h.gts], by rw [a2, b2, h.blks], by rw [a3, b3, h.rows]⟩
theorem same_putOk {s t : St} (h : Same s t) (d : Option Tmp) : s.putOk d = t.putOk d := by
  rw [Bool.eq_iff_iff, putOk_iff, putOk_iff, h.n]
  exact forall_congr' fun k => imp_congr_right fun _ => and_congr_right fun _ => not_congr (h.gts k)

theorem stepA_same {o : Oper} {ob : List Bool} {s' : St} (h : Same s t) (hk : kK o.op = false) (hr : stepA P Γ ops o s = some (ob, s')) : ∃ t', stepA P Γ ops o t = some (ob, t') ∧ Same s' t' := by
  unfold stepA at hr ⊢
  cases hq : (kW o.op || kR P o) with
  | true =>
    rw [hq, cond_true] at hr
    rw [cond_true]
    split at hr
    · rename_i ob' v hv
      rw [valQ_agree (t := t) (fun k _ => h.get k) (.inr ⟨fun i cs hi => by rw [← h.blks]; exact hi, h.rows⟩) hv]
      cases hp : (guardO s (gtOf ops o)).putOk o.dst with
      | false => rw [hp] at hr; cases hr
      | true =>
        rw [hp, cond_true] at hr
        simp only [Option.some.injEq, Prod.mk.injEq] at hr
        obtain ⟨rfl, rfl⟩ := hr
        have hs := same_guardO h (gtOf ops o)
        simp only [← same_putOk hs o.dst, hp, cond_true]
        exact ⟨_, rfl, same_put hs _ _⟩
    · cases hr
  | false =>
    rw [hq, cond_false] at hr
    rw [cond_false]
    split at hr
    · split at hr
      · rename_i ob' v s1 he
        obtain ⟨h1, h2⟩ := opE_agree (t := t) (fun k _ => h.get k) hk h.n h.blks h.rows he
        cases hp : s1.putOk o.dst with
        | false => rw [hp] at hr; cases hr
        | true =>
          rw [hp, cond_true] at hr
          simp only [Option.some.injEq, Prod.mk.injEq] at hr
          obtain ⟨rfl, rfl⟩ := hr
          have hs : Same s1 { t with blks := s1.blks, rows := s1.rows } := by
            have := same_eff h s1.blks s1.rows
            rwa [← h1] at this
          rw [h2]
          simp only [← same_putOk hs o.dst, hp, cond_true]
          exact ⟨_, rfl, same_put hs _ _⟩
      · cases hr
    · cases hr

theorem apartE_spec {x y : Oper} (h : apartE ops x y = true) :
    (∀ d, x.dst = some d → d ∉ looks ops y) ∧ (∀ d, x.dst = some d → y.dst ≠ some d) ∧ (∀ d, y.dst = some d → d ∉ looks ops x) ∧ (∀ d, y.dst = some d → gtOf ops x ≠ some d) ∧ (∀ d, x.dst = some d → gtOf ops y ≠ some d) := by
  simp only [apartE, Bool.and_eq_true] at h
  obtain ⟨⟨⟨h1, h2⟩, h3⟩, h4⟩ := h
  refine ⟨fun d hd hm => ?_, fun d hd hy => ?_, fun d hd hm => ?_, fun d hd hg => ?_, fun d hd hg => ?_⟩
  · rw [hd] at h1
    simp only [Bool.and_eq_true, memN_iff.2 hm] at h1
    simp at h1
  · rw [hd] at h1
    simp only [hy, Bool.and_eq_true] at h1
    simp at h1
  · rw [hd] at h2
    simp only [memN_iff.2 hm] at h2
    simp at h2
  · unfold gtOf at hg
    cases hgd : x.guard with
    | none => rw [hgd] at hg; cases hg
    | some p =>
      obtain ⟨j, q⟩ := p
      rw [hgd] at hg h3
      simp only at hg h3
      rw [hg, hd] at h3
      simp at h3
  · unfold gtOf at hg
    cases hgd : y.guard with
    | none => rw [hgd] at hg; cases hg
    | some p =>
      obtain ⟨j, q⟩ := p
      rw [hgd] at hg h4
      simp only at hg h4
      rw [hg, hd] at h4
      simp at h4

/-- Two neighbors change places. -/
theorem swap {x y : Oper} {obx oby : List Bool} {sx sxy : St} (hp : okPair P ops x y = true) (h1 : stepA P Γ ops x s = some (obx, sx)) (h2 : stepA P Γ ops y sx = some (oby, sxy)) :
    ∃ sy syx, stepA P Γ ops y s = some (oby, sy) ∧ stepA P Γ ops x sy = some (obx, syx) ∧ Same sxy syx := by
  simp only [okPair, Bool.and_eq_true, Bool.or_eq_true] at hp
  obtain ⟨hap, hkind⟩ := hp
  obtain ⟨a1, a2, a3, a4, a5⟩ := apartE_spec hap
  have hqx : (kW x.op || kR P x) = true := by rcases hkind with h | h <;> simp [h.1]
  have hky : kK y.op = false := by
    rcases hkind with h | h
    · simpa using h.2
    · cases hop : y.op with
      | call c =>
        cases hc : c.callee with
        | builtin b =>
          cases b <;> first | rfl | skip
          · simp [kK, hc]
            have h3 := h.2
            simp [hop, kW, kR, kA, hc] at h3
          all_goals simp [kK, hc]
        | _ => simp [kK, hc]
      | _ => rfl
  unfold stepA at h1
  rw [hqx, cond_true] at h1
  split at h1
  · rename_i ob' v hv
    cases hpx : (guardO s (gtOf ops x)).putOk x.dst with
    | false => rw [hpx] at h1; cases h1
    | true =>
      rw [hpx, cond_true] at h1
      simp only [Option.some.injEq, Prod.mk.injEq] at h1
      obtain ⟨rfl, rfl⟩ := h1
      obtain ⟨g1, g2, g3, g4⟩ := guardO_same s (gtOf ops x)
      obtain ⟨p1, p2, p3, p4⟩ := put_same (guardO s (gtOf ops x)) x.dst v
      -- what y looks at is as it was
      have hag : Agree (looks ops y) ((guardO s (gtOf ops x)).put x.dst v) s := fun k hk => by
        rw [put_get, guardO_get, if_neg (fun e => a1 k e hk)]
      have hpo := (putOk_iff _ _).1 hpx
      unfold stepA at h2
      cases hqy : (kW y.op || kR P y) with
      | true =>
        rw [hqy, cond_true] at h2
        split at h2
        · rename_i oby' u hu
          have hu' := valQ_agree hag (.inr ⟨fun i cs hi => by rw [p2, g2] at hi; exact hi, by rw [p3, g3]⟩) hu
          cases hpy : (guardO ((guardO s (gtOf ops x)).put x.dst v) (gtOf ops y)).putOk y.dst with
          | false => rw [hpy] at h2; cases h2
          | true =>
            rw [hpy, cond_true] at h2
            simp only [Option.some.injEq, Prod.mk.injEq] at h2
            obtain ⟨rfl, rfl⟩ := h2
            obtain ⟨q1, q2, q3, q4⟩ := guardO_same ((guardO s (gtOf ops x)).put x.dst v) (gtOf ops y)
            obtain ⟨r1, r2, r3, r4⟩ := guardO_same s (gtOf ops y)
            have hpo2 := (putOk_iff _ _).1 hpy
            have hy1 : (guardO s (gtOf ops y)).putOk y.dst = true := (putOk_iff _ _).2 fun k hk => by
              obtain ⟨m1, m2⟩ := hpo2 k hk
              refine ⟨by rw [r1]; rw [q1, p1, g1] at m1; exact m1, fun hm => m2 ?_⟩
              rw [q4, p4, g4]
              rw [r4] at hm
              rcases hm with hm | hm
              · exact .inl (.inl hm)
              · exact .inr hm
            obtain ⟨t1, t2, t3, t4⟩ := put_same (guardO s (gtOf ops y)) y.dst u
            have hag2 : Agree (looks ops x) s ((guardO s (gtOf ops y)).put y.dst u) := fun k hk => by
              rw [put_get, guardO_get, if_neg (fun e => a3 k e hk)]
            have hv' := valQ_agree (t := (guardO s (gtOf ops y)).put y.dst u) hag2 (.inr ⟨fun i cs hi => by rw [t2, r2]; exact hi, by rw [t3, r3]⟩) hv
            obtain ⟨w1, w2, w3, w4⟩ := guardO_same ((guardO s (gtOf ops y)).put y.dst u) (gtOf ops x)
            have hx1 : (guardO ((guardO s (gtOf ops y)).put y.dst u) (gtOf ops x)).putOk x.dst = true := (putOk_iff _ _).2 fun k hk => by
              obtain ⟨m1, m2⟩ := hpo k hk
              refine ⟨by rw [w1, t1, r1]; rw [g1] at m1; exact m1, fun hm => m2 ?_⟩
              rw [g4]
              rw [w4, t4, r4] at hm
              rcases hm with (hm | hm) | hm
              · exact .inl hm
              · exact absurd hm (a5 k hk)
              · exact .inr hm
            refine ⟨(guardO s (gtOf ops y)).put y.dst u, (guardO ((guardO s (gtOf ops y)).put y.dst u) (gtOf ops x)).put x.dst v, by unfold stepA; rw [hqy, cond_true, hu']; simp only [hy1, cond_true], by unfold stepA; rw [hqx, cond_true, hv']; simp only [hx1, cond_true], ?_⟩
            obtain ⟨z1, z2, z3, z4⟩ := put_same (guardO ((guardO s (gtOf ops y)).put y.dst u) (gtOf ops x)) x.dst v
            obtain ⟨y1, y2, y3, y4⟩ := put_same (guardO ((guardO s (gtOf ops x)).put x.dst v) (gtOf ops y)) y.dst u
            refine ⟨by rw [y1, q1, p1, g1, z1, w1, t1, r1], fun k => ?_, fun k => ?_, by rw [y2, q2, p2, g2, z2, w2, t2, r2], by rw [y3, q3, p3, g3, z3, w3, t3, r3]⟩
            · simp only [put_get, guardO_get]
              by_cases e1 : x.dst = some k
              · have : ¬ y.dst = some k := a2 k e1
                simp [e1, this]
              · simp [e1]
            · rw [y4, q4, p4, g4, z4, w4, t4, r4]
              constructor
              · rintro ((h | h) | h)
                · exact .inl (.inl h)
                · exact .inr h
                · exact .inl (.inr h)
              · rintro ((h | h) | h)
                · exact .inl (.inl h)
                · exact .inr h
                · exact .inl (.inr h)
        · cases h2
      | false =>
        rw [hqy, cond_false] at h2
        split at h2
        · rename_i hgy
          split at h2
          · rename_i oby' u s1 he
            obtain ⟨e1, e2⟩ := opE_agree (t := s) (fun k hk => hag k (List.mem_append_left _ hk)) hky (by rw [p1, g1]) (by rw [p2, g2]) (by rw [p3, g3]) he
            cases hpy : s1.putOk y.dst with
            | false => rw [hpy] at h2; cases h2
            | true =>
              rw [hpy, cond_true] at h2
              simp only [Option.some.injEq, Prod.mk.injEq] at h2
              obtain ⟨rfl, rfl⟩ := h2
              have hpo2 := (putOk_iff _ _).1 hpy
              obtain ⟨sy, hsy⟩ : ∃ sy : St, sy = { s with blks := s1.blks, rows := s1.rows } := ⟨_, rfl⟩
              have en : s1.n = s.n := by rw [e1]; show ((guardO s (gtOf ops x)).put x.dst v).n = _; rw [p1, g1]
              have eg : ∀ k, k ∈ s1.gts ↔ (k ∈ s.gts ∨ gtOf ops x = some k) := fun k => by
                rw [e1]
                show k ∈ ((guardO s (gtOf ops x)).put x.dst v).gts ↔ _
                rw [p4, g4]
              have ege : ∀ k, s1.get k = ((guardO s (gtOf ops x)).put x.dst v).get k := fun k => by rw [e1]; rfl
              have hy1 : sy.putOk y.dst = true := (putOk_iff _ _).2 fun k hk => by
                obtain ⟨m1, m2⟩ := hpo2 k hk
                refine ⟨by rw [hsy]; rw [en] at m1; exact m1, fun hm => m2 ?_⟩
                rw [hsy] at hm
                exact (eg k).2 (.inl hm)
              obtain ⟨t1, t2, t3, t4⟩ := put_same sy y.dst u
              have hag2 : Agree (looks ops x) s (sy.put y.dst u) := fun k hk => by
                rw [put_get, if_neg (fun e => a3 k e hk), hsy]; rfl
              have hmore : kW x.op = true ∨ More s (sy.put y.dst u) := by
                rcases hkind with h | h
                · exact .inl h.1
                · right
                  have hA : kA P y.op = true := by
                    rcases h.2 with (h3 | h3) | h3
                    · rw [h3] at hqy; simp at hqy
                    · rw [h3] at hqy; simp at hqy
                    · exact h3
                  cases hop : y.op with
                  | alloc ty =>
                    rw [hop] at e2 hA
                    have hn : arrOf P ty = none := by simpa [kA] using hA
                    simp only [opE, forceL_eq, hn] at e2
                    split at e2
                    · split at e2
                      · simp only [Option.some.injEq, Prod.mk.injEq] at e2
                        obtain ⟨-, -, e2⟩ := e2
                        have eb : s1.blks = s.blks ++ _ := (congrArg St.blks e2).symm
                        have er : s1.rows = s.rows := (congrArg St.rows e2).symm
                        refine ⟨fun i cs hi => ?_, ?_⟩
                        · rw [t2, hsy]
                          show s1.blks[i]? = some cs
                          rw [eb, List.getElem?_append_left (List.getElem?_eq_some_iff.1 hi).1]; exact hi
                        · rw [t3, hsy]; exact er.symm
                      · cases e2
                    · cases e2
                  | box ty z =>
                    rw [hop] at e2
                    simp only [opE, TV.force_eq] at e2
                    cases hc : (rd1 s [] z).solid with
                    | false => rw [hc] at e2; cases e2
                    | true =>
                      rw [hc, cond_true] at e2
                      simp only [Option.some.injEq, Prod.mk.injEq] at e2
                      obtain ⟨-, -, e2⟩ := e2
                      have eb : s1.blks = s.blks ++ _ := (congrArg St.blks e2).symm
                      have er : s1.rows = s.rows := (congrArg St.rows e2).symm
                      refine ⟨fun i cs hi => ?_, ?_⟩
                      · rw [t2, hsy]
                        show s1.blks[i]? = some cs
                        rw [eb, List.getElem?_append_left (List.getElem?_eq_some_iff.1 hi).1]; exact hi
                      · rw [t3, hsy]; exact er.symm
                  | _ => rw [hop] at hA; cases hA
              have hv' := valQ_agree (t := sy.put y.dst u) hag2 hmore hv
              obtain ⟨w1, w2, w3, w4⟩ := guardO_same (sy.put y.dst u) (gtOf ops x)
              have hx1 : (guardO (sy.put y.dst u) (gtOf ops x)).putOk x.dst = true := (putOk_iff _ _).2 fun k hk => by
                obtain ⟨m1, m2⟩ := hpo k hk
                refine ⟨by rw [w1, t1, hsy]; rw [g1] at m1; exact m1, fun hm => m2 ?_⟩
                rw [g4]
                rw [w4, t4, hsy] at hm
                exact hm
              refine ⟨sy.put y.dst u, (guardO (sy.put y.dst u) (gtOf ops x)).put x.dst v, by unfold stepA; rw [hqy, cond_false, hgy]; simp only [e2, ← hsy, hy1, cond_true], by unfold stepA; rw [hqx, cond_true, hv']; simp only [hx1, cond_true], ?_⟩
              obtain ⟨z1, z2, z3, z4⟩ := put_same (guardO (sy.put y.dst u) (gtOf ops x)) x.dst v
              obtain ⟨y1, y2, y3, y4⟩ := put_same s1 y.dst u
              refine ⟨by rw [y1, en, z1, w1, t1, hsy], fun k => ?_, fun k => ?_, by rw [y2, z2, w2, t2, hsy], by rw [y3, z3, w3, t3, hsy]⟩
              · have es : sy.get k = s.get k := by rw [hsy]; rfl
                simp only [put_get, guardO_get, ege, es]
                by_cases e3 : x.dst = some k
                · have : ¬ y.dst = some k := a2 k e3
                  simp [e3, this]
                · simp [e3]
              · rw [y4, eg, z4, w4, t4, hsy]
          · cases h2
        · cases h2
  · cases h1

end
end Go.Proofs.Ytcaadikffaflnaa
