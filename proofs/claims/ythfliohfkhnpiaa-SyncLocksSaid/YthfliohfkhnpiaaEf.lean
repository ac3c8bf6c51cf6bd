/- Regions that draw their order: one run serves every order: the proof. No program in sight. -/
import Derived.Test.YthfliohfkhnpiaaEe
namespace Go.Proofs.Ythfliohfkhnpiaa
set_option linter.unusedVariables false
set_option linter.unusedSimpArgs false
open Go.RowKit

section
variable {P : Program} {Γ : Con} {κ : Ctx} {s t : St} {a : Act} {w : World} {ops : Array Oper}

/-- What an operation that makes or writes memory does does not depend on the frame but for what it looks at. -/
theorem opE_agree {o : Oper} {ob : List Bool} {v : AV} {s' : St} (h : Agree (tmpsOf o.op.operands.toList) s t) (hk : kK o.op = false) (hn : s.n = t.n) (hb : s.blks = t.blks) (hrw : s.rows = t.rows) (hro : s.ro = t.ro) (hr : opE P Γ s o.op = some (ob, v, s')) :
    s' = { s with blks := s'.blks, rows := s'.rows } ∧ opE P Γ t o.op = some (ob, v, { t with blks := s'.blks, rows := s'.rows }) := by
  cases hop : o.op with
  | alloc ty =>
    rw [hop] at hr
    simp only [opE, forceL_eq] at hr ⊢
    split at hr
    · split at hr
      · split at hr
        · split at hr
          · rename_i ro _
            cases hc : (eqPl (List.map CV.ofVal _) ro.flat && Nat.ble 2 _ && Nat.ble _ 1000) with
            | false => rw [hc] at hr; cases hr
            | true =>
              rw [hc, cond_true] at hr
              simp only [Option.some.injEq, Prod.mk.injEq] at hr
              obtain ⟨rfl, rfl, rfl⟩ := hr
              refine ⟨rfl, ?_⟩
              rw [cond_true, hb, hrw]
          · cases hr
        · simp only [Option.some.injEq, Prod.mk.injEq] at hr
          obtain ⟨rfl, rfl, rfl⟩ := hr
          refine ⟨rfl, ?_⟩
          rw [hb, hrw]
      · cases hr
    · cases hr
  | box ty x =>
    rw [hop] at h hr
    simp only [opE, TV.force_eq] at hr ⊢
    rw [← rd1_agree h (x := x) (by simp [Op.operands])]
    cases hc : (rd1 s [] x).solid with
    | false => rw [hc] at hr; cases hr
    | true =>
      rw [hc, cond_true] at hr
      simp only [Option.some.injEq, Prod.mk.injEq] at hr
      obtain ⟨rfl, rfl, rfl⟩ := hr
      refine ⟨rfl, ?_⟩
      rw [cond_true, hb, hrw]
  | store ty x y =>
    rw [hop] at h hr
    simp only [opE, TV.force_eq, forceL_eq] at hr ⊢
    rw [← rd1_agree h (x := x) (by simp [Op.operands]), ← rd1_agree h (x := y) (by simp [Op.operands]), ← hb, ← hro]
    split at hr
    · split at hr
      · rename_i cs hcs
        cases hc : ((rd1 s [] y).solid && (rd1 s [] y).cells.all CV.real && Nat.beq (rd1 s [] y).cells.length _ && Nat.ble (_ + (rd1 s [] y).cells.length) cs.length && Nat.ble s.ro _) with
        | false => rw [hc] at hr; cases hr
        | true =>
          rw [hc, cond_true] at hr
          simp only [Option.some.injEq, Prod.mk.injEq] at hr
          obtain ⟨rfl, rfl, rfl⟩ := hr
          refine ⟨rfl, ?_⟩
          rw [cond_true, hrw]
      · cases hr
    · rw [← hrw]
      split at hr
      · split at hr
        · rename_i ro hro _ _ E rn _ _
          cases hc : ((rd1 s [] y).solid && (rd1 s [] y).cells.all CV.real && Nat.beq (rd1 s [] y).cells.length _ && Nat.beq _ ro.ro.width && Nat.ble (_ + (rd1 s [] y).cells.length) _) with
          | false => rw [hc] at hr; cases hr
          | true =>
            rw [hc, cond_true] at hr
            simp only [Option.some.injEq, Prod.mk.injEq] at hr
            obtain ⟨rfl, rfl, rfl⟩ := hr
            refine ⟨rfl, ?_⟩
            rw [cond_true, hb]
        · cases hr
      · cases hr
    · cases hr
  | buildSlice ty len parts =>
    rw [hop] at h hr
    simp only [opE, forceL_eq] at hr ⊢
    have e : (parts.toList.map fun (i, x) => (i, rd1 t [] x)) = (parts.toList.map fun (i, x) => (i, rd1 s [] x)) := by
      apply List.map_congr_left
      rintro ⟨i, x⟩ hp
      show (i, rd1 t [] x) = (i, rd1 s [] x)
      rw [rd1_agree h (x := x)]
      simp only [Op.operands]
      exact List.mem_map.2 ⟨(i, x), hp, rfl⟩
    rw [e]
    split at hr
    · split at hr
      · split at hr
        · rename_i z hz
          cases hc : (Nat.ble len 1000 && Nat.ble _ 1000 && Nat.ble 1 _ && Nat.beq z.cells.size _) with
          | false => rw [hc] at hr; cases hr
          | true =>
            rw [hc, cond_true] at hr
            rw [cond_true]
            simp only [Option.bind_eq_some_iff] at hr ⊢
            obtain ⟨cs, h1, hr⟩ := hr
            split at hr
            · rename_i ro hro
              cases hw : Nat.beq ro.width _ with
              | false => rw [hw] at hr; cases hr
              | true =>
                rw [hw, cond_true] at hr
                simp only [Option.some.injEq, Prod.mk.injEq] at hr
                obtain ⟨rfl, rfl, rfl⟩ := hr
                refine ⟨rfl, cs, h1, ?_⟩
                rw [hro]
                simp only [hw, cond_true, hb, hrw]
            · rename_i hro
              simp only [Option.some.injEq, Prod.mk.injEq] at hr
              obtain ⟨rfl, rfl, rfl⟩ := hr
              refine ⟨rfl, cs, h1, ?_⟩
              rw [hro]
              simp only [hb, hrw]
        · cases hr
      · cases hr
    · cases hr
  | makeSlice ty x y =>
    rw [hop] at h hr
    simp only [opE] at hr ⊢
    rw [← rd1_agree h (x := x) (by simp [Op.operands]), ← rd1_agree h (x := y) (by simp [Op.operands])]
    split at hr
    · split at hr
      · split at hr
        · rename_i z _
          cases hc : (eqPl (z.cells.toList.map CV.ofVal) _ && Nat.ble 1 _ && Nat.beq _ _ && Nat.ble _ 32768) with
          | false => rw [hc] at hr; cases hr
          | true =>
            rw [hc, cond_true] at hr
            simp only [Option.some.injEq, Prod.mk.injEq] at hr
            obtain ⟨rfl, rfl, rfl⟩ := hr
            refine ⟨rfl, ?_⟩
            rw [cond_true, hb, hrw]
        · cases hr
      · cases hr
    · cases hr
  | slice ty x lo hi mx =>
    rw [hop] at h hr
    cases mx with
    | some m => cases hr
    | none =>
      have hlo : loOf s lo = loOf t lo := by
        cases lo with
        | none => rfl
        | some y => simp only [loOf]; rw [rd1_agree h (x := y) (by simp [Op.operands])]
      have hhi : ∀ n, hiOf s n hi = hiOf t n hi := by
        intro n
        cases hi with
        | none => rfl
        | some y => simp only [hiOf]; rw [rd1_agree h (x := y) (by simp [Op.operands])]
      simp only [opE] at hr ⊢
      rw [← rd1_agree h (x := x) (by simp [Op.operands]), ← hlo, ← hrw]
      split at hr
      · split at hr
        · split at hr
          · rename_i hh hhe
            cases hc : Nat.beq _ _ with
            | false => rw [hc] at hr; cases hr
            | true =>
              rw [hc, cond_true] at hr
              simp only [Option.some.injEq, Prod.mk.injEq] at hr
              obtain ⟨rfl, rfl, rfl⟩ := hr
              refine ⟨rfl, ?_⟩
              rw [← hhi, hhe]
              simp only [hc, cond_true, hb]
          · cases hr
        · cases hr
      · cases hr
  | call c =>
    rw [hop] at h hr hk
    obtain ⟨callee, ⟨args⟩, ⟨tys⟩⟩ := c
    cases callee with
    | invoke r m => cases hr
    | builtin b =>
      cases b <;> first | (cases hr; done) | (cases hk; done) | skip
      simp only [opE] at hr ⊢
      split at hr
      · rename_i x y ty ty'
        rw [← rd1_agree h (x := x) (by simp [Op.operands, Call.operands]), ← rd1_agree h (x := y) (by simp [Op.operands, Call.operands]), ← hrw]
        split at hr
        · split at hr
          · split at hr
            · split at hr
              · split at hr
                · split at hr
                  · cases hc : (!(Nat.beq _ _) && Nat.beq _ 1 && Nat.beq _ 1) with
                    | false => rw [hc] at hr; cases hr
                    | true =>
                      rw [hc, cond_true] at hr
                      simp only [Option.some.injEq, Prod.mk.injEq] at hr
                      obtain ⟨rfl, rfl, rfl⟩ := hr
                      refine ⟨rfl, ?_⟩
                      rw [cond_true, hb]
                  · cases hr
                · cases hr
              · simp only [Option.some.injEq, Prod.mk.injEq] at hr
                obtain ⟨rfl, rfl, rfl⟩ := hr
                refine ⟨rfl, ?_⟩
                simp only [hb, hrw]
              · cases hr
            · cases hr
          · cases hr
        · cases hr
      · cases hr
    | value f =>
      have hin : fargs s [] f args = fargs t [] f args := by
        unfold fargs
        have hmap : args.map (rd1 t []) = args.map (rd1 s []) := List.map_congr_left fun x hx => (rd1_agree h (by simp [Op.operands, Call.operands, hx]) []).symm
        rw [hmap, ← rd1_agree h (x := f) (by simp [Op.operands, Call.operands])]
      simp only [opE, AV.force_eq] at hr ⊢
      rw [← hin, ← hrw, ← hb]
      split at hr
      · split at hr
        · split at hr
          · simp only [Option.some.injEq, Prod.mk.injEq] at hr
            obtain ⟨rfl, rfl, rfl⟩ := hr
            refine ⟨rfl, ?_⟩
            simp only
          · cases hr
        · cases hr
      · cases hr
  | _ => rw [hop] at hr; cases hr

/-- An operation of opR and the frame. -/
theorem opX_agree {o : Oper} {ob : List Bool} {v : AV} {s' : St} (h : Agree (tmpsOf o.op.operands.toList) s t) (hk : kU Γ.uni o.op = false) (hn : s.n = t.n) (hb : s.blks = t.blks) (hrw : s.rows = t.rows) (hro : s.ro = t.ro) (hr : opX P Γ s o.op = some (ob, v, s')) :
    s' = { s with blks := s'.blks, rows := s'.rows } ∧ opX P Γ t o.op = some (ob, v, { t with blks := s'.blks, rows := s'.rows }) := by
  have hk1 : kK o.op = false := by
    unfold kU at hk
    simp only [Bool.or_eq_false_iff] at hk
    exact hk.1
  have hself : { t with blks := s.blks, rows := s.rows } = t := by rw [hb, hrw]
  cases hR : opR P Γ s o.op with
  | none =>
    have ht : opR P Γ t o.op = none := by
      cases hop : o.op with
      | binOp op ty x y ty' =>
        rw [hop] at h hR
        cases op <;> first | rfl | skip
        simp only [opR] at hR ⊢
        rw [← rd1_agree h (x := x) (by simp [Op.operands]), ← rd1_agree h (x := y) (by simp [Op.operands]), ← hrw]
        split at hR
        · split at hR
          · cases hR
          · rfl
        · rfl
      | slice ty x lo hi mx =>
        rw [hop] at h hR
        cases mx with
        | some _ => cases hi <;> rfl
        | none =>
          cases hi with
          | none => rfl
          | some y =>
            simp only [opR] at hR ⊢
            rw [← rd1_agree h (x := x) (by simp [Op.operands]), ← rd1_agree h (x := y) (by simp [Op.operands]), ← hrw]
            split at hR
            · rename_i e r k hh hu2 h1 h2
              split at hR
              · rename_i ro it hro hi'
                split at hR
                · rename_i E hE
                  generalize hc : (Γ.uni && lo.isNone && Nat.beq it.size ro.ro.width && Nat.ble Γ.lim r) = c at hR ⊢
                  cases c with
                  | true => cases hR
                  | false => rfl
                · rfl
              · rfl
            · split at hR
              · generalize hc : lo.isNone = c at hR ⊢
                cases c with
                | true => cases hR
                | false => rfl
              · rfl
            · rfl
      | call c =>
        rw [hop] at h hR
        obtain ⟨callee, ⟨args⟩, ⟨tys⟩⟩ := c
        cases callee with
        | builtin b =>
          cases b <;> first | rfl | skip
          simp only [opR] at hR ⊢
          split at hR
          · rename_i x ty
            rw [← rd1_agree h (x := x) (by simp [Op.operands, Call.operands])]
            split at hR
            · cases hR
            · rfl
          · rfl
        | _ => rfl
      | _ => rfl
    unfold opX at hr ⊢
    rw [hR] at hr
    rw [ht]
    exact opE_agree h hk1 hn hb hrw hro hr
  | some z =>
    unfold opX at hr ⊢
    rw [hR] at hr
    simp only [Option.some.injEq] at hr
    subst hr
    have key : s' = s ∧ opR P Γ t o.op = some (ob, v, t) := by
      cases hop : o.op with
      | binOp op ty x y ty' =>
        rw [hop] at h hR
        cases op <;> first | (cases hR; done) | skip
        simp only [opR] at hR ⊢
        rw [← rd1_agree h (x := x) (by simp [Op.operands]), ← rd1_agree h (x := y) (by simp [Op.operands]), ← hrw]
        split at hR
        · split at hR
          · simp only [Option.some.injEq, Prod.mk.injEq] at hR
            obtain ⟨rfl, rfl, rfl⟩ := hR
            exact ⟨rfl, rfl⟩
          · cases hR
        · cases hR
      | slice ty x lo hi mx =>
        have hu : Γ.uni = false := by
          unfold kU at hk
          rw [hop] at hk
          simpa [kK, isSl] using hk
        rw [hop] at h hR
        cases mx with
        | some _ => cases hi <;> cases hR
        | none =>
          cases hi with
          | none => cases hR
          | some y =>
            simp only [opR] at hR ⊢
            rw [← rd1_agree h (x := x) (by simp [Op.operands]), ← rd1_agree h (x := y) (by simp [Op.operands]), ← hrw]
            split at hR
            · split at hR
              · split at hR
                · rw [hu] at hR; cases hR
                · cases hR
              · cases hR
            · split at hR
              · generalize hc : lo.isNone = c at hR ⊢
                cases c with
                | false => cases hR
                | true =>
                  simp only [cond_true, Option.some.injEq, Prod.mk.injEq] at hR
                  obtain ⟨rfl, rfl, rfl⟩ := hR
                  exact ⟨rfl, rfl⟩
              · cases hR
            · cases hR
      | call c =>
        rw [hop] at h hR
        obtain ⟨callee, ⟨args⟩, ⟨tys⟩⟩ := c
        cases callee with
        | builtin b =>
          cases b <;> first | (cases hR; done) | skip
          simp only [opR] at hR ⊢
          split at hR
          · rename_i x ty
            rw [← rd1_agree h (x := x) (by simp [Op.operands, Call.operands])]
            split at hR
            · simp only [Option.some.injEq, Prod.mk.injEq] at hR
              obtain ⟨rfl, rfl, rfl⟩ := hR
              exact ⟨rfl, rfl⟩
            · cases hR
          · cases hR
        | _ => cases hR
      | _ => rw [hop] at hR; cases hR
    obtain ⟨rfl, k2⟩ := key
    rw [k2]
    exact ⟨rfl, by rw [hself]⟩

theorem same_eff {s t : St} (h : Same s t) (b : List (List CV)) (r : List RowS) : Same { s with blks := b, rows := r } { t with blks := b, rows := r } := ⟨h.n, h.get, h.gts, rfl, rfl, h.ro⟩
theorem same_put {s t : St} (h : Same s t) (d : Option Tmp) (v : AV) : Same (s.put d v) (t.put d v) := by
  obtain ⟨a1, a2, a3, a4, a5⟩ := put_same s d v
  obtain ⟨b1, b2, b3, b4, b5⟩ := put_same t d v
  exact ⟨by rw [a1, b1, h.n], fun k => by rw [put_get, put_get, h.get], fun k => by rw [a4, b4]; exact h.gts k, by rw [a2, b2, h.blks], by rw [a3, b3, h.rows], by rw [a5, b5, h.ro]⟩
theorem same_guardO {s t : St} (h : Same s t) (g : Option Nat) : Same (guardO s g) (guardO t g) := by
  obtain ⟨a1, a2, a3, a4, a5⟩ := guardO_same s g
  obtain ⟨b1, b2, b3, b4, b5⟩ := guardO_same t g
  exact ⟨by rw [a1, b1, h.n], fun k => by rw [guardO_get, guardO_get, h.get], fun k => by rw [a4, b4, h.gts], by rw [a2, b2, h.blks], by rw [a3, b3, h.rows], by rw [a5, b5, h.ro]⟩
theorem same_putOk {s t : St} (h : Same s t) (d : Option Tmp) : s.putOk d = t.putOk d := by
  rw [Bool.eq_iff_iff, putOk_iff, putOk_iff, h.n]
  exact forall_congr' fun k => imp_congr_right fun _ => and_congr_right fun _ => not_congr (h.gts k)

/-- What a guarded call's step comes to. -/
theorem stepG_eq {o : Oper} {j k : Nat} {p : Bool} {ob : List Bool} {s' : St} (hq : (kW o.op || kR P o) = false) (hg : o.guard = some (j, p)) (hk : (ops[j]?).bind (·.dst) = some k) :
    stepA P Γ ops o s = some (ob, s') ↔ ∃ ob0 v ms rr q, (gpath s 20 k p).all (fun q => memN q.1 (chainG ops 20 j)) = true ∧ gchain s 20 k (chainG ops 20 j) = true ∧ callG Γ s (gpath s 20 k p) o.op = some (ob0, v, ms, rr) ∧ gbs s 20 k p = some q ∧ (s.guard k).putOk o.dst = true ∧ ob = ob0.map (!q || ·) ∧ s' = (withRows (s.guard k) ms (rr.map (gRow q))).put o.dst (.spec k p v) := by
  unfold stepA
  rw [hq, cond_false, hg]
  simp only [hk]
  constructor
  · intro h
    cases hc : ((gpath s 20 k p).all (fun q => memN q.1 (chainG ops 20 j)) && gchain s 20 k (chainG ops 20 j)) with
    | false => rw [hc] at h; cases h
    | true =>
      rw [hc, cond_true] at h
      simp only [Bool.and_eq_true] at hc
      split at h
      · rename_i ob0 v ms rr q h1 h2
        cases hp : (s.guard k).putOk o.dst with
        | false => rw [hp] at h; cases h
        | true =>
          rw [hp, cond_true] at h
          simp only [Option.some.injEq, Prod.mk.injEq] at h
          exact ⟨ob0, v, ms, rr, q, hc.1, hc.2, h1, h2, rfl, h.1.symm, h.2.symm⟩
      · cases h
  · rintro ⟨ob0, v, ms, rr, q, h1, h2, h3, h4, h5, rfl, rfl⟩
    rw [h1, h2, h3, h4, h5]
    rfl
theorem stepG_none {o : Oper} {j : Nat} {p : Bool} (hq : (kW o.op || kR P o) = false) (hg : o.guard = some (j, p)) (hk : (ops[j]?).bind (·.dst) = none) : stepA P Γ ops o s = none := by
  unfold stepA
  rw [hq, cond_false, hg]
  simp only [hk]
theorem looks_op {o : Oper} {x : Nat} (h : x ∈ tmpsOf o.op.operands.toList) : x ∈ looks ops o := List.mem_append_left _ h
theorem looks_guard {o : Oper} {j : Nat} {p : Bool} (hg : o.guard = some (j, p)) {x : Nat} (h : x ∈ chainG ops 20 j) : x ∈ looks ops o := by
  unfold looks
  rw [hg]
  exact List.mem_append_right _ h
/-- A guarded call's step from another state in which it looks at the same. -/
theorem stepG_agree {o : Oper} {ob0 : List Bool} {j k : Nat} {p q : Bool} {v : TV} {ms : List Nat} {rr : List RowA} (hg : o.guard = some (j, p)) (ha : Agree (looks ops o) s t) (hb : s.blks = t.blks) (hr : s.rows = t.rows)
    (h1 : (gpath s 20 k p).all (fun q => memN q.1 (chainG ops 20 j)) = true) (h2 : gchain s 20 k (chainG ops 20 j) = true) (h3 : callG Γ s (gpath s 20 k p) o.op = some (ob0, v, ms, rr)) (h4 : gbs s 20 k p = some q) :
    (gpath t 20 k p).all (fun q => memN q.1 (chainG ops 20 j)) = true ∧ gchain t 20 k (chainG ops 20 j) = true ∧ callG Γ t (gpath t 20 k p) o.op = some (ob0, v, ms, rr) ∧ gbs t 20 k p = some q := by
  have e1 := (gpath_agree (s := s) (t := t) 20 k p (fun x hx => ha x.1 (looks_guard hg (memN_iff.1 (List.all_eq_true.1 h1 x hx))))).1
  obtain ⟨e2, e3⟩ := gbs_agree (s := s) (t := t) 20 k p (chainG ops 20 j) h2 (fun x hx => ha x (looks_guard hg hx))
  refine ⟨e1 ▸ h1, e3, ?_, e2 ▸ h4⟩
  rw [← e1, ← callG_agree (fun x hx => ha x (looks_op hx)) hb hr]
  exact h3
theorem withRows_get (s : St) (k : Nat) (ms : List Nat) (rr : List RowA) (x : Nat) : (withRows (s.guard k) ms rr).get x = s.get x := guardO_get s (some k) x
theorem same_withRows {s t : St} (h : Same s t) (ms : List Nat) (rr : List RowA) : Same (withRows s ms rr) (withRows t ms rr) := by
  unfold withRows
  rw [h.rows, h.blks]
  exact ⟨h.n, h.get, h.gts, rfl, rfl, h.ro⟩
theorem withRows_putOk (s : St) (ms : List Nat) (rr : List RowA) (d : Option Tmp) : (withRows s ms rr).putOk d = s.putOk d := by cases d <;> rfl
theorem gtOf_some {o : Oper} {j : Nat} {p : Bool} {k : Nat} (hg : o.guard = some (j, p)) (hk : (ops[j]?).bind (·.dst) = some k) : gtOf ops o = some k := by unfold gtOf; rw [hg]; exact hk
theorem stepA_same {o : Oper} {ob : List Bool} {s' : St} (h : Same s t) (hk : kU Γ.uni o.op = false) (hr : stepA P Γ ops o s = some (ob, s')) : ∃ t', stepA P Γ ops o t = some (ob, t') ∧ Same s' t' := by
  by_cases hG : (kW o.op || kR P o) = false ∧ ∃ jp, o.guard = some jp
  · obtain ⟨hq, ⟨j, p⟩, hg⟩ := hG
    cases hk2 : (ops[j]?).bind (·.dst) with
    | none => rw [stepG_none hq hg hk2] at hr; cases hr
    | some k =>
      obtain ⟨ob0, v, ms, rr, q, h1, h2, h3, h4, h5, rfl, rfl⟩ := (stepG_eq hq hg hk2).1 hr
      obtain ⟨g1, g2, g3, g4⟩ := stepG_agree (t := t) hg (fun x _ => h.get x) h.blks h.rows h1 h2 h3 h4
      have hs := same_guardO h (some k)
      have h5' : (t.guard k).putOk o.dst = true := (same_putOk hs o.dst).symm.trans h5
      exact ⟨(withRows (t.guard k) ms (rr.map (gRow q))).put o.dst (.spec k p v), (stepG_eq (s := t) hq hg hk2).2 ⟨ob0, v, ms, rr, q, g1, g2, g3, g4, h5', rfl, rfl⟩, same_put (same_withRows hs ms _) _ _⟩
  have hgn : (kW o.op || kR P o) = false → ∀ jp, o.guard ≠ some jp := fun hq jp hg => hG ⟨hq, jp, hg⟩
  unfold stepA at hr ⊢
  cases hq : (kW o.op || kR P o) with
  | true =>
    rw [hq, cond_true] at hr
    rw [cond_true]
    split at hr
    · rename_i ob' v hv
      rw [valQ_agree (t := t) (fun k _ => h.get k) (.inr ⟨fun i cs hi => by rw [← h.blks]; exact hi, h.rows⟩) hv]
      cases hp : (guardO s (gtOf ops o)).putOk o.dst with
      | false => rw [hp] at hr; cases hr
      | true =>
        rw [hp, cond_true] at hr
        simp only [Option.some.injEq, Prod.mk.injEq] at hr
        obtain ⟨rfl, rfl⟩ := hr
        have hs := same_guardO h (gtOf ops o)
        simp only [← same_putOk hs o.dst, hp, cond_true]
        exact ⟨_, rfl, same_put hs _ _⟩
    · cases hr
  | false =>
    rw [hq, cond_false] at hr
    rw [cond_false]
    split at hr
    · split at hr
      · rename_i ob' v s1 he
        obtain ⟨h1, h2⟩ := opX_agree (t := t) (fun k _ => h.get k) hk h.n h.blks h.rows h.ro he
        cases hp : s1.putOk o.dst with
        | false => rw [hp] at hr; cases hr
        | true =>
          rw [hp, cond_true] at hr
          simp only [Option.some.injEq, Prod.mk.injEq] at hr
          obtain ⟨rfl, rfl⟩ := hr
          have hs : Same s1 { t with blks := s1.blks, rows := s1.rows } := by
            have := same_eff h s1.blks s1.rows
            rwa [← h1] at this
          rw [h2]
          simp only [← same_putOk hs o.dst, hp, cond_true]
          exact ⟨_, rfl, same_put hs _ _⟩
      · cases hr
    · rename_i jp hg
      exact absurd hg (hgn hq _)

theorem apartE_spec {x y : Oper} (h : apartE ops x y = true) :
    (∀ d, x.dst = some d → d ∉ looks ops y) ∧ (∀ d, x.dst = some d → y.dst ≠ some d) ∧ (∀ d, y.dst = some d → d ∉ looks ops x) ∧ (∀ d, y.dst = some d → gtOf ops x ≠ some d) ∧ (∀ d, x.dst = some d → gtOf ops y ≠ some d) := by
  simp only [apartE, Bool.and_eq_true] at h
  obtain ⟨⟨⟨h1, h2⟩, h3⟩, h4⟩ := h
  refine ⟨fun d hd hm => ?_, fun d hd hy => ?_, fun d hd hm => ?_, fun d hd hg => ?_, fun d hd hg => ?_⟩
  · rw [hd] at h1
    simp only [Bool.and_eq_true, memN_iff.2 hm] at h1
    simp at h1
  · rw [hd] at h1
    simp only [hy, Bool.and_eq_true] at h1
    simp at h1
  · rw [hd] at h2
    simp only [memN_iff.2 hm] at h2
    simp at h2
  · unfold gtOf at hg
    cases hgd : x.guard with
    | none => rw [hgd] at hg; cases hg
    | some p =>
      obtain ⟨j, q⟩ := p
      rw [hgd] at hg h3
      simp only at hg h3
      rw [hg, hd] at h3
      simp at h3
  · unfold gtOf at hg
    cases hgd : y.guard with
    | none => rw [hgd] at hg; cases hg
    | some p =>
      obtain ⟨j, q⟩ := p
      rw [hgd] at hg h4
      simp only at hg h4
      rw [hg, hd] at h4
      simp at h4

/-- Two neighbors change places. -/
theorem swap {x y : Oper} {obx oby : List Bool} {sx sxy : St} (hp : okPair P Γ.uni ops x y = true) (h1 : stepA P Γ ops x s = some (obx, sx)) (h2 : stepA P Γ ops y sx = some (oby, sxy)) :
    ∃ sy syx, stepA P Γ ops y s = some (oby, sy) ∧ stepA P Γ ops x sy = some (obx, syx) ∧ Same sxy syx := by
  simp only [okPair, Bool.and_eq_true, Bool.or_eq_true] at hp
  obtain ⟨hap, hkind⟩ := hp
  obtain ⟨a1, a2, a3, a4, a5⟩ := apartE_spec hap
  have hqx : (kW x.op || kR P x) = true := by rcases hkind with h | h <;> simp [h.1]
  have hky : kU Γ.uni y.op = false := by
    rcases hkind with h | h
    · simpa using h.2
    · cases hop : y.op with
      | call c =>
        cases hc : c.callee with
        | builtin b =>
          cases b <;> first | (simp [kU, kK, isSl, hc]; done) | skip
          have h3 := h.2
          simp [hop, kW, kR, kA, hc] at h3
        | _ => simp [kU, kK, isSl, hc]
      | slice _ _ _ _ _ =>
        have h3 := h.2
        simp [hop, kW, kR, kA] at h3
      | _ => simp [kU, kK, isSl]
  unfold stepA at h1
  rw [hqx, cond_true] at h1
  split at h1
  · rename_i ob' v hv
    cases hpx : (guardO s (gtOf ops x)).putOk x.dst with
    | false => rw [hpx] at h1; cases h1
    | true =>
      rw [hpx, cond_true] at h1
      simp only [Option.some.injEq, Prod.mk.injEq] at h1
      obtain ⟨rfl, rfl⟩ := h1
      obtain ⟨g1, g2, g3, g4, g5⟩ := guardO_same s (gtOf ops x)
      obtain ⟨p1, p2, p3, p4, p5⟩ := put_same (guardO s (gtOf ops x)) x.dst v
      -- what y looks at is as it was
      have hag : Agree (looks ops y) ((guardO s (gtOf ops x)).put x.dst v) s := fun k hk => by
        rw [put_get, guardO_get, if_neg (fun e => a1 k e hk)]
      have hpo := (putOk_iff _ _).1 hpx
      unfold stepA at h2
      cases hqy : (kW y.op || kR P y) with
      | true =>
        rw [hqy, cond_true] at h2
        split at h2
        · rename_i oby' u hu
          have hu' := valQ_agree hag (.inr ⟨fun i cs hi => by rw [p2, g2] at hi; exact hi, by rw [p3, g3]⟩) hu
          cases hpy : (guardO ((guardO s (gtOf ops x)).put x.dst v) (gtOf ops y)).putOk y.dst with
          | false => rw [hpy] at h2; cases h2
          | true =>
            rw [hpy, cond_true] at h2
            simp only [Option.some.injEq, Prod.mk.injEq] at h2
            obtain ⟨rfl, rfl⟩ := h2
            obtain ⟨q1, q2, q3, q4, q5⟩ := guardO_same ((guardO s (gtOf ops x)).put x.dst v) (gtOf ops y)
            obtain ⟨r1, r2, r3, r4, r5⟩ := guardO_same s (gtOf ops y)
            have hpo2 := (putOk_iff _ _).1 hpy
            have hy1 : (guardO s (gtOf ops y)).putOk y.dst = true := (putOk_iff _ _).2 fun k hk => by
              obtain ⟨m1, m2⟩ := hpo2 k hk
              refine ⟨by rw [r1]; rw [q1, p1, g1] at m1; exact m1, fun hm => m2 ?_⟩
              rw [q4, p4, g4]
              rw [r4] at hm
              rcases hm with hm | hm
              · exact .inl (.inl hm)
              · exact .inr hm
            obtain ⟨t1, t2, t3, t4, t5⟩ := put_same (guardO s (gtOf ops y)) y.dst u
            have hag2 : Agree (looks ops x) s ((guardO s (gtOf ops y)).put y.dst u) := fun k hk => by
              rw [put_get, guardO_get, if_neg (fun e => a3 k e hk)]
            have hv' := valQ_agree (t := (guardO s (gtOf ops y)).put y.dst u) hag2 (.inr ⟨fun i cs hi => by rw [t2, r2]; exact hi, by rw [t3, r3]⟩) hv
            obtain ⟨w1, w2, w3, w4, w5⟩ := guardO_same ((guardO s (gtOf ops y)).put y.dst u) (gtOf ops x)
            have hx1 : (guardO ((guardO s (gtOf ops y)).put y.dst u) (gtOf ops x)).putOk x.dst = true := (putOk_iff _ _).2 fun k hk => by
              obtain ⟨m1, m2⟩ := hpo k hk
              refine ⟨by rw [w1, t1, r1]; rw [g1] at m1; exact m1, fun hm => m2 ?_⟩
              rw [g4]
              rw [w4, t4, r4] at hm
              rcases hm with (hm | hm) | hm
              · exact .inl hm
              · exact absurd hm (a5 k hk)
              · exact .inr hm
            refine ⟨(guardO s (gtOf ops y)).put y.dst u, (guardO ((guardO s (gtOf ops y)).put y.dst u) (gtOf ops x)).put x.dst v, by unfold stepA; rw [hqy, cond_true, hu']; simp only [hy1, cond_true], by unfold stepA; rw [hqx, cond_true, hv']; simp only [hx1, cond_true], ?_⟩
            obtain ⟨z1, z2, z3, z4, z5⟩ := put_same (guardO ((guardO s (gtOf ops y)).put y.dst u) (gtOf ops x)) x.dst v
            obtain ⟨y1, y2, y3, y4, y5⟩ := put_same (guardO ((guardO s (gtOf ops x)).put x.dst v) (gtOf ops y)) y.dst u
            refine ⟨by rw [y1, q1, p1, g1, z1, w1, t1, r1], fun k => ?_, fun k => ?_, by rw [y2, q2, p2, g2, z2, w2, t2, r2], by rw [y3, q3, p3, g3, z3, w3, t3, r3], by rw [y5, q5, p5, g5, z5, w5, t5, r5]⟩
            · simp only [put_get, guardO_get]
              by_cases e1 : x.dst = some k
              · have : ¬ y.dst = some k := a2 k e1
                simp [e1, this]
              · simp [e1]
            · rw [y4, q4, p4, g4, z4, w4, t4, r4]
              constructor
              · rintro ((h | h) | h)
                · exact .inl (.inl h)
                · exact .inr h
                · exact .inl (.inr h)
              · rintro ((h | h) | h)
                · exact .inl (.inl h)
                · exact .inr h
                · exact .inl (.inr h)
        · cases h2
      | false =>
        rw [hqy, cond_false] at h2
        split at h2
        · rename_i hgy
          split at h2
          · rename_i oby' u s1 he
            obtain ⟨e1, e2⟩ := opX_agree (t := s) (fun k hk => hag k (List.mem_append_left _ hk)) hky (by rw [p1, g1]) (by rw [p2, g2]) (by rw [p3, g3]) (by rw [p5, g5]) he
            cases hpy : s1.putOk y.dst with
            | false => rw [hpy] at h2; cases h2
            | true =>
              rw [hpy, cond_true] at h2
              simp only [Option.some.injEq, Prod.mk.injEq] at h2
              obtain ⟨rfl, rfl⟩ := h2
              have hpo2 := (putOk_iff _ _).1 hpy
              obtain ⟨sy, hsy⟩ : ∃ sy : St, sy = { s with blks := s1.blks, rows := s1.rows } := ⟨_, rfl⟩
              have er : s1.ro = s.ro := by rw [e1]; show ((guardO s (gtOf ops x)).put x.dst v).ro = _; rw [p5, g5]
              have en : s1.n = s.n := by rw [e1]; show ((guardO s (gtOf ops x)).put x.dst v).n = _; rw [p1, g1]
              have eg : ∀ k, k ∈ s1.gts ↔ (k ∈ s.gts ∨ gtOf ops x = some k) := fun k => by
                rw [e1]
                show k ∈ ((guardO s (gtOf ops x)).put x.dst v).gts ↔ _
                rw [p4, g4]
              have ege : ∀ k, s1.get k = ((guardO s (gtOf ops x)).put x.dst v).get k := fun k => by rw [e1]; rfl
              have hy1 : sy.putOk y.dst = true := (putOk_iff _ _).2 fun k hk => by
                obtain ⟨m1, m2⟩ := hpo2 k hk
                refine ⟨by rw [hsy]; rw [en] at m1; exact m1, fun hm => m2 ?_⟩
                rw [hsy] at hm
                exact (eg k).2 (.inl hm)
              obtain ⟨t1, t2, t3, t4, t5⟩ := put_same sy y.dst u
              have hag2 : Agree (looks ops x) s (sy.put y.dst u) := fun k hk => by
                rw [put_get, if_neg (fun e => a3 k e hk), hsy]; rfl
              have hmore : kW x.op = true ∨ More s (sy.put y.dst u) := by
                rcases hkind with h | h
                · exact .inl h.1
                · right
                  have hA : kA P y.op = true := by
                    rcases h.2 with (h3 | h3) | h3
                    · rw [h3] at hqy; simp at hqy
                    · rw [h3] at hqy; simp at hqy
                    · exact h3
                  cases hop : y.op with
                  | alloc ty =>
                    rw [hop] at e2 hA
                    have hn : arrOf P ty = none := by simpa [kA] using hA
                    simp only [opX, opR, opE, forceL_eq, hn] at e2
                    split at e2
                    · split at e2
                      · simp only [Option.some.injEq, Prod.mk.injEq] at e2
                        obtain ⟨-, -, e2⟩ := e2
                        have eb : s1.blks = s.blks ++ _ := (congrArg St.blks e2).symm
                        have er : s1.rows = s.rows := (congrArg St.rows e2).symm
                        refine ⟨fun i cs hi => ?_, ?_⟩
                        · rw [t2, hsy]
                          show s1.blks[i]? = some cs
                          rw [eb, List.getElem?_append_left (List.getElem?_eq_some_iff.1 hi).1]; exact hi
                        · rw [t3, hsy]; exact er.symm
                      · cases e2
                    · cases e2
                  | box ty z =>
                    rw [hop] at e2
                    simp only [opX, opR, opE, TV.force_eq] at e2
                    cases hc : (rd1 s [] z).solid with
                    | false => rw [hc] at e2; cases e2
                    | true =>
                      rw [hc, cond_true] at e2
                      simp only [Option.some.injEq, Prod.mk.injEq] at e2
                      obtain ⟨-, -, e2⟩ := e2
                      have eb : s1.blks = s.blks ++ _ := (congrArg St.blks e2).symm
                      have er : s1.rows = s.rows := (congrArg St.rows e2).symm
                      refine ⟨fun i cs hi => ?_, ?_⟩
                      · rw [t2, hsy]
                        show s1.blks[i]? = some cs
                        rw [eb, List.getElem?_append_left (List.getElem?_eq_some_iff.1 hi).1]; exact hi
                      · rw [t3, hsy]; exact er.symm
                  | _ => rw [hop] at hA; cases hA
              have hv' := valQ_agree (t := sy.put y.dst u) hag2 hmore hv
              obtain ⟨w1, w2, w3, w4, w5⟩ := guardO_same (sy.put y.dst u) (gtOf ops x)
              have hx1 : (guardO (sy.put y.dst u) (gtOf ops x)).putOk x.dst = true := (putOk_iff _ _).2 fun k hk => by
                obtain ⟨m1, m2⟩ := hpo k hk
                refine ⟨by rw [w1, t1, hsy]; rw [g1] at m1; exact m1, fun hm => m2 ?_⟩
                rw [g4]
                rw [w4, t4, hsy] at hm
                exact hm
              refine ⟨sy.put y.dst u, (guardO (sy.put y.dst u) (gtOf ops x)).put x.dst v, by unfold stepA; rw [hqy, cond_false, hgy]; simp only [e2, ← hsy, hy1, cond_true], by unfold stepA; rw [hqx, cond_true, hv']; simp only [hx1, cond_true], ?_⟩
              obtain ⟨z1, z2, z3, z4, z5⟩ := put_same (guardO (sy.put y.dst u) (gtOf ops x)) x.dst v
              obtain ⟨y1, y2, y3, y4, y5⟩ := put_same s1 y.dst u
              refine ⟨by rw [y1, en, z1, w1, t1, hsy], fun k => ?_, fun k => ?_, by rw [y2, z2, w2, t2, hsy], by rw [y3, z3, w3, t3, hsy], by rw [y5, er, z5, w5, t5, hsy]⟩
              · have es : sy.get k = s.get k := by rw [hsy]; rfl
                simp only [put_get, guardO_get, ege, es]
                by_cases e3 : x.dst = some k
                · have : ¬ y.dst = some k := a2 k e3
                  simp [e3, this]
                · simp [e3]
              · rw [y4, eg, z4, w4, t4, hsy]
          · cases h2
        · rename_i j p hgy
          have hkx : kW x.op = true := by
            rcases hkind with h | h
            · exact h.1
            · exfalso
              rcases h.2 with (h3 | h3) | h3
              · rw [h3] at hqy; simp at hqy
              · rw [h3] at hqy; simp at hqy
              · -- a guarded operation that makes memory is not run
                cases hk2 : (ops[j]?).bind (·.dst) with
                | none => rw [hk2] at h2; cases h2
                | some k =>
                  have hr0 : stepA P Γ ops y ((guardO s (gtOf ops x)).put x.dst v) = some (oby, sxy) := by unfold stepA; rw [hqy, cond_false, hgy]; exact h2
                  obtain ⟨ob0, u, ms, rr, q, _, _, c3, _⟩ := (stepG_eq hqy hgy hk2).1 hr0
                  cases hop : y.op with
                  | call c => rw [hop] at h3; cases h3
                  | _ => rw [hop] at c3; cases c3
          cases hk2 : (ops[j]?).bind (·.dst) with
          | none => rw [hk2] at h2; cases h2
          | some k =>
            have hr0 : stepA P Γ ops y ((guardO s (gtOf ops x)).put x.dst v) = some (oby, sxy) := by unfold stepA; rw [hqy, cond_false, hgy]; exact h2
            obtain ⟨ob0, u, ms, rr, q, c1, c2, c3, c4, c5, rfl, rfl⟩ := (stepG_eq hqy hgy hk2).1 hr0
            obtain ⟨d1, d2, d3, d4⟩ := stepG_agree (t := s) hgy hag (by rw [p2, g2]) (by rw [p3, g3]) c1 c2 c3 c4
            have hgt := gtOf_some hgy hk2
            obtain ⟨sx, hsx⟩ : ∃ sx, sx = (guardO s (gtOf ops x)).put x.dst v := ⟨_, rfl⟩
            rw [← hsx] at c5 ⊢
            obtain ⟨m1, m2, m3, m4, m5⟩ := guardO_same sx (some k)
            obtain ⟨n1, n2, n3, n4, n5⟩ := guardO_same s (some k)
            have hpo2 := (putOk_iff _ _).1 c5
            have hy1 : (s.guard k).putOk y.dst = true := (putOk_iff _ _).2 fun i hi => by
              obtain ⟨l1, l2⟩ := hpo2 i hi
              refine ⟨?_, fun hm => l2 ((m4 i).2 ?_)⟩
              · have l1 : i < (guardO sx (some k)).n := l1
                rw [m1, hsx, p1, g1] at l1
                show i < (guardO s (some k)).n
                rw [n1]; exact l1
              · rcases (n4 i).1 hm with hm | hm
                · left; rw [hsx, p4, g4]; exact .inl hm
                · exact .inr hm
            obtain ⟨sy, hsy⟩ : ∃ sy, sy = (withRows (s.guard k) ms (rr.map (gRow q))).put y.dst (.spec k p u) := ⟨_, rfl⟩
            have hsteps : stepA P Γ ops y s = some (ob0.map (!q || ·), sy) := (stepG_eq hqy hgy hk2).2 ⟨ob0, u, ms, rr, q, d1, d2, d3, d4, hy1, rfl, hsy⟩
            obtain ⟨t1, t2, t3, t4, t5⟩ := put_same (withRows (s.guard k) ms (rr.map (gRow q))) y.dst (.spec k p u)
            rw [← hsy] at t1 t2 t3 t4 t5
            have sygts : ∀ i, i ∈ sy.gts ↔ (i ∈ s.gts ∨ some k = some i) := fun i => by rw [t4]; exact n4 i
            have hag2 : Agree (looks ops x) s sy := fun i hi => by
              rw [hsy, put_get, if_neg (fun e => a3 i e hi), withRows_get]
            have hv' := valQ_agree (t := sy) hag2 (.inl hkx) hv
            obtain ⟨w1, w2, w3, w4, w5⟩ := guardO_same sy (gtOf ops x)
            have syn : sy.n = s.n := t1.trans n1
            have hx1 : (guardO sy (gtOf ops x)).putOk x.dst = true := (putOk_iff _ _).2 fun i hi => by
              obtain ⟨l1, l2⟩ := hpo i hi
              refine ⟨by rw [w1, syn]; rw [g1] at l1; exact l1, fun hm => l2 ?_⟩
              rw [g4]
              rcases (w4 i).1 hm with hm | hm
              · rcases (sygts i).1 hm with hm | hm
                · exact .inl hm
                · exact absurd (hgt.trans hm) (a5 i hi)
              · exact .inr hm
            refine ⟨sy, (guardO sy (gtOf ops x)).put x.dst v, hsteps, by unfold stepA; rw [hqx, cond_true, hv']; simp only [hx1, cond_true], ?_⟩
            obtain ⟨z1, z2, z3, z4, z5⟩ := put_same (guardO sy (gtOf ops x)) x.dst v
            obtain ⟨y1, y2, y3, y4, y5⟩ := put_same (withRows (sx.guard k) ms (rr.map (gRow q))) y.dst (.spec k p u)
            have sxn : sx.n = s.n := by rw [hsx, p1, g1]
            have sxb : sx.blks = s.blks := by rw [hsx, p2, g2]
            have sxr : sx.rows = s.rows := by rw [hsx, p3, g3]
            have sxo : sx.ro = s.ro := by rw [hsx, p5, g5]
            refine ⟨?_, fun i => ?_, fun i => ?_, ?_, ?_, ?_⟩
            · rw [y1, z1, w1, syn]; exact m1.trans sxn
            · rw [put_get, withRows_get, put_get, guardO_get, hsy, put_get, withRows_get, hsx, put_get, guardO_get]
              by_cases e1 : x.dst = some i
              · have : ¬ y.dst = some i := a2 i e1
                simp [e1, this]
              · simp [e1]
            · rw [y4, z4, w4, sygts]
              show i ∈ (guardO sx (some k)).gts ↔ _
              rw [m4, hsx, p4, g4]
              constructor
              · rintro ((h | h) | h)
                · exact .inl (.inl h)
                · exact .inr h
                · exact .inl (.inr h)
              · rintro ((h | h) | h)
                · exact .inl (.inl h)
                · exact .inr h
                · exact .inl (.inr h)
            · rw [y2, z2, w2, t2]
              show (guardO sx (some k)).blks = (guardO s (some k)).blks
              rw [m2, n2, sxb]
            · rw [y3, z3, w3, t3]
              show demote ms 0 (guardO sx (some k)).rows ++ _ = demote ms 0 (guardO s (some k)).rows ++ _
              rw [m3, n3, sxr]
            · rw [y5, z5, w5, t5]
              show (guardO sx (some k)).ro = (guardO s (some k)).ro
              rw [m5, n5, sxo]
  · cases h1

end
end Go.Proofs.Ythfliohfkhnpiaa
