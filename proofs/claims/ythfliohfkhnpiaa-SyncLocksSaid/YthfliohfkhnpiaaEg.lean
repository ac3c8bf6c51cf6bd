/- Regions that draw their order: every order ends as the one that was run. No program in sight. -/
import Derived.Test.YthfliohfkhnpiaaEf
namespace Go.Proofs.Ythfliohfkhnpiaa
set_option linter.unusedVariables false
set_option linter.unusedSimpArgs false
open Go.RowKit

/-- Every order's run. -/
def absAny (P : Program) (Γ : Con) (ops : Array Oper) : Nat → Array Bool → St → (St → Prop) → Prop
  | 0, listed, s, K => Region.ready .any ops listed = [] ∧ K s
  | n + 1, listed, s, K => (Region.ready .any ops listed = [] → K s) ∧ ∀ i ∈ Region.ready .any ops listed, ∃ o ob s', ops[i]? = some o ∧ stepA P Γ ops o s = some (ob, s') ∧ AllB ob ∧ absAny P Γ ops n (listed.setIfInBounds i true) s' K

section
variable {P : Program} {Γ : Con} {κ : Ctx} {s t : St} {a : Act} {w : World} {ops : Array Oper}

theorem opE_same {o : Oper} {ob : List Bool} {v : AV} {s' : St} (h : Same s t) (hr : opE P Γ s o.op = some (ob, v, s')) : ∃ t', opE P Γ t o.op = some (ob, v, t') ∧ Same s' t' := by
  cases hk : kK o.op with
  | false =>
    obtain ⟨h1, h2⟩ := opE_agree (t := t) (fun k _ => h.get k) hk h.n h.blks h.rows h.ro hr
    have hs : Same s' { t with blks := s'.blks, rows := s'.rows } := by
      have := same_eff h s'.blks s'.rows
      rwa [← h1] at this
    exact ⟨_, h2, hs⟩
  | true =>
    have hrd : ∀ x, rd1 t [] x = rd1 s [] x := fun x => (rd1_agree (l := [x]) (fun k _ => h.get k) (by simp) []).symm
    cases hop : o.op with
    | call c =>
      rw [hop] at hr hk
      obtain ⟨callee, ⟨args⟩, ⟨tys⟩⟩ := c
      cases callee with
      | invoke r m => cases hk
      | value f => cases hk
      | builtin b =>
        cases b <;> first | (cases hk; done) | skip
        simp only [opE] at hr ⊢
        split at hr
        · rename_i x y ty ty'
          cases hc : Nat.beq ty ty' with
          | false =>
            rw [hc, cond_false] at hr
            rw [hrd x, hrd y, ← h.rows]
            simp only [cond_false]
            split at hr
            · split at hr
              · split at hr
                · rename_i z hz
                  generalize hcc : (eqPl (z.cells.toList.map CV.ofVal) _ && Nat.ble 1 _ && Nat.beq _ _ && Nat.ble _ 32768) = cc at hr ⊢
                  cases cc with
                  | false => cases hr
                  | true =>
                    simp only [cond_true, Option.some.injEq, Prod.mk.injEq] at hr
                    obtain ⟨rfl, rfl, rfl⟩ := hr
                    exact ⟨_, rfl, h.n, h.get, h.gts, h.blks, rfl, h.ro⟩
                · cases hr
              · cases hr
            · cases hr
          | true =>
            rw [hc, cond_true] at hr
            rw [hrd x, hrd y, ← h.blks, ← h.rows]
            simp only [cond_true]
            split at hr
            · split at hr
              · rename_i it rq hit hrq
                generalize hcc : (((it.zero.map (·.cells.size)) == some it.size) && Nat.ble 1 it.size && Nat.ble it.bytes 32768 && Nat.beq it.size rq.ro.width) = cc at hr ⊢
                cases cc with
                | false => cases hr
                | true =>
                  rw [cond_true] at hr
                  rw [cond_true]
                  split at hr
                  · split at hr
                    · split at hr
                      · rename_i r hx _ ro hro _ _ e' rn hown happ
                        cases hcd : (Nat.beq _ e' && !(Nat.beq r _) && Nat.ble Γ.lim r) with
                        | false => rw [hcd] at hr; cases hr
                        | true =>
                          rw [hcd, cond_true] at hr
                          simp only [Option.some.injEq, Prod.mk.injEq] at hr
                          obtain ⟨rfl, rfl, rfl⟩ := hr
                          simp only [hx, hro, hown, happ, hcd, cond_true]
                          refine ⟨_, rfl, h.n, fun k => ?_, h.gts, rfl, rfl, h.ro⟩
                          have e1 := get_kill (s := s) r k
                          have e2 := get_kill (s := t) r k
                          rw [h.get k] at e1
                          exact e1.trans e2.symm
                      · cases hr
                    · cases hr
                  · rename_i hx
                    simp only [Option.some.injEq, Prod.mk.injEq] at hr
                    obtain ⟨rfl, rfl, rfl⟩ := hr
                    exact ⟨_, rfl, h.n, h.get, h.gts, rfl, rfl, h.ro⟩
                  · cases hr
              · cases hr
            · cases hr
        · cases hr
    | _ => rw [hop] at hk; cases hk

theorem opE_same2 {o : Oper} {ob : List Bool} {v : AV} {s' : St} (h : Same s t) (hr : opE P Γ s o.op = some (ob, v, s')) : ∃ t', opE P Γ t o.op = some (ob, v, t') ∧ Same s' t' := opE_same h hr
theorem opX_same {o : Oper} {ob : List Bool} {v : AV} {s' : St} (h : Same s t) (hr : opX P Γ s o.op = some (ob, v, s')) : ∃ t', opX P Γ t o.op = some (ob, v, t') ∧ Same s' t' := by
  cases hk : kU Γ.uni o.op with
  | false =>
    obtain ⟨h1, h2⟩ := opX_agree (t := t) (fun k _ => h.get k) hk h.n h.blks h.rows h.ro hr
    have hs : Same s' { t with blks := s'.blks, rows := s'.rows } := by
      have := same_eff h s'.blks s'.rows
      rwa [← h1] at this
    exact ⟨_, h2, hs⟩
  | true =>
    have hrd : ∀ x, rd1 t [] x = rd1 s [] x := fun x => (rd1_agree (l := [x]) (fun k _ => h.get k) (by simp) []).symm
    cases hop : o.op with
    | call c =>
      have hR : ∀ u : St, opR P Γ u o.op = none := by
        intro u
        unfold kU at hk
        rw [hop] at hk
        cases hc : c.callee with
        | builtin b =>
          cases b <;> first | (simp [kK, isSl, hc] at hk; done) | skip
          rw [hop]; simp [opR, hc]
        | _ => simp [kK, isSl, hc] at hk
      unfold opX at hr ⊢
      rw [hR s] at hr
      rw [← hop, hR t]
      exact opE_same h hr
    | slice ty x lo hi mx =>
      unfold opX at hr ⊢
      cases hR : opR P Γ s o.op with
      | none =>
        rw [hR] at hr
        have ht : opR P Γ t o.op = none := by
          rw [hop] at hR ⊢
          cases mx with
          | some _ => cases hi <;> rfl
          | none =>
            cases hi with
            | none => rfl
            | some y =>
              simp only [opR] at hR ⊢
              rw [hrd x, hrd y, ← h.rows, ← h.blks]
              split at hR
              · rename_i e r k hh hu2 h1 h2
                split at hR
                · rename_i ro it hro hi'
                  split at hR
                  · rename_i E hE
                    generalize hc : (Γ.uni && lo.isNone && Nat.beq it.size ro.ro.width && Nat.ble Γ.lim r) = c at hR ⊢
                    cases c with
                    | true => cases hR
                    | false => rfl
                  · rfl
                · rfl
              · split at hR
                · generalize hc : lo.isNone = c at hR ⊢
                  cases c with
                  | true => cases hR
                  | false => rfl
                · rfl
              · rfl
        rw [← hop, ht]
        exact opE_same h hr
      | some z =>
        rw [hR] at hr
        simp only [Option.some.injEq] at hr
        subst hr
        rw [hop] at hR
        cases mx with
        | some _ => cases hi <;> cases hR
        | none =>
          cases hi with
          | none => cases hR
          | some y =>
            simp only [opR] at hR ⊢
            rw [hrd x, hrd y, ← h.rows, ← h.blks]
            split at hR
            · rename_i e r k hh hu2 h1 h2
              split at hR
              · rename_i ro it hro hi'
                split at hR
                · rename_i E hE
                  generalize hc : (Γ.uni && lo.isNone && Nat.beq it.size ro.ro.width && Nat.ble Γ.lim r) = c at hR ⊢
                  cases c with
                  | false => cases hR
                  | true =>
                    simp only [cond_true, Option.some.injEq, Prod.mk.injEq] at hR
                    obtain ⟨rfl, rfl, rfl⟩ := hR
                    refine ⟨_, rfl, h.n, fun k => ?_, h.gts, rfl, rfl, h.ro⟩
                    have e1 := get_kill (s := s) r k
                    have e2 := get_kill (s := t) r k
                    rw [h.get k] at e1
                    exact e1.trans e2.symm
                · cases hR
              · cases hR
            · split at hR
              · generalize hc : lo.isNone = c at hR ⊢
                cases c with
                | false => cases hR
                | true =>
                  simp only [cond_true, Option.some.injEq, Prod.mk.injEq] at hR
                  obtain ⟨rfl, rfl, rfl⟩ := hR
                  exact ⟨_, rfl, h⟩
              · cases hR
            · cases hR
    | _ => unfold kU at hk; rw [hop] at hk; simp [kK, isSl] at hk

theorem stepA_same2 {o : Oper} {ob : List Bool} {s' : St} (h : Same s t) (hr : stepA P Γ ops o s = some (ob, s')) : ∃ t', stepA P Γ ops o t = some (ob, t') ∧ Same s' t' := by
  cases hk : kU Γ.uni o.op with
  | false => exact stepA_same h hk hr
  | true =>
    unfold kU at hk
    have hq : (kW o.op || kR P o) = false := by
      cases hop : o.op with
      | call c =>
        rw [hop] at hk
        cases hc : c.callee with
        | builtin b =>
          cases b <;> first | (simp [kK, isSl, hc] at hk; done) | skip
          simp [kW, kR, hop, hc]
        | _ => simp [kK, isSl, hc] at hk
      | slice _ _ _ _ _ => simp [kW, kR, hop]
      | _ => rw [hop] at hk; simp [kK, isSl] at hk
    unfold stepA at hr ⊢
    rw [hq, cond_false] at hr
    rw [hq, cond_false]
    split at hr
    · split at hr
      · rename_i ob' v s1 he
        obtain ⟨t1, h2, hs⟩ := opX_same h he
        cases hp : s1.putOk o.dst with
        | false => rw [hp] at hr; cases hr
        | true =>
          rw [hp, cond_true] at hr
          simp only [Option.some.injEq, Prod.mk.injEq] at hr
          obtain ⟨rfl, rfl⟩ := hr
          rw [h2]
          simp only [← same_putOk hs o.dst, hp, cond_true]
          exact ⟨_, rfl, same_put hs _ _⟩
      · cases hr
    · rename_i j p hg
      exfalso
      split at hr
      · cases hc : ((gpath s 20 _ p).all (fun q => memN q.1 (chainG ops 20 j)) && gchain s 20 _ (chainG ops 20 j)) with
        | false => rw [hc] at hr; cases hr
        | true =>
          rw [hc, cond_true] at hr
          split at hr
          · rename_i h1 h2
            cases hop : o.op with
            | call c =>
              rw [hop] at hk h1
              cases hc : c.callee with
              | builtin b => simp [callG, inlC, hc] at h1
              | _ => simp [kK, isSl, hc] at hk
            | slice _ _ _ _ _ => rw [hop] at h1; simp [callG, inlC] at h1
            | _ => rw [hop] at hk; simp [kK, isSl] at hk
          · cases hr
      · cases hr

theorem absAny_same {K : St → Prop} (hK : ∀ s t, Same s t → K s → K t) : ∀ (n : Nat) (listed : Array Bool) (s t : St), Same s t → absAny P Γ ops n listed s K → absAny P Γ ops n listed t K
  | 0, _, s, t, hs, h => ⟨h.1, hK s t hs h.2⟩
  | n + 1, listed, s, t, hs, h => ⟨fun hr => hK s t hs (h.1 hr), fun i hi => by
    obtain ⟨o, ob, s', h1, h2, h3, h4⟩ := h.2 i hi
    obtain ⟨t', h5, h6⟩ := stepA_same2 hs h2
    exact ⟨o, ob, t', h1, h5, h3, absAny_same hK n _ s' t' h6 h4⟩⟩

/-- It waits, directly or not, for i. -/
inductive Waits (ops : Array Oper) (i : Nat) : Nat → Prop where
  | here {j : Nat} {o : Oper} {e : Edge} (ho : ops[j]? = some o) (he : e ∈ o.after) (hb : Region.binds .any e = true) (h : e.on = i) : Waits ops i j
  | there {j : Nat} {o : Oper} {e : Edge} (ho : ops[j]? = some o) (he : e ∈ o.after) (hb : Region.binds .any e = true) (h : Waits ops i e.on) : Waits ops i j
/-- What an operation that has come up waits for has come up. -/
def Closed (ops : Array Oper) (listed : Array Bool) : Prop := ∀ (k : Nat) (o : Oper), ops[k]? = some o → listed.getD k true = true → k < listed.size → ∀ e ∈ o.after, Region.binds .any e = true → listed.getD e.on false = true
theorem getD_ft {l : Array Bool} {k : Nat} (h : l.getD k false = true) : l.getD k true = true := by
  rcases Nat.lt_or_ge k l.size with h' | h'
  · simp [h'] at h ⊢; exact h
  · simp [Array.getElem?_eq_none h'] at h
theorem waiters_spec {i : Nat} : ∀ (l W : List Nat), (∀ j ∈ W, j = i ∨ Waits ops i j) → ∀ j ∈ waiters ops l W, j = i ∨ Waits ops i j
  | [], W, h, j, hj => h j hj
  | k :: r, W, h, j, hj => by
    simp only [waiters] at hj
    split at hj
    · rename_i o ho
      cases hc : o.after.any (fun e => Region.binds .any e && memN e.on W) with
      | false => rw [hc, cond_false] at hj; exact waiters_spec r W h j hj
      | true =>
        rw [hc, cond_true] at hj
        refine waiters_spec r (k :: W) (fun x hx => ?_) j hj
        rcases List.mem_cons.1 hx with rfl | hx
        · right
          obtain ⟨e, he, hb⟩ := Array.any_eq_true'.1 hc
          simp only [Bool.and_eq_true] at hb
          rcases h e.on (memN_iff.1 hb.2) with h1 | h1
          · exact .here ho he hb.1 h1
          · exact .there ho he hb.1 h1
        · exact h x hx
    · exact waiters_spec r W h j hj
/-- An operation that waits for one that has not come up has not come up. -/
theorem waits_not {listed : Array Bool} {i : Nat} (hc : Closed ops listed) (hs : listed.size = ops.size) (hi : listed.getD i true = false) {j : Nat} (h : Waits ops i j) : listed.getD j true = false := by
  induction h with
  | @here j o e ho he hb h =>
    cases hl : listed.getD j true with
    | false => rfl
    | true =>
      have := hc j o ho hl (by rw [hs]; exact (Array.getElem?_eq_some_iff.1 ho).1) e he hb
      have := getD_ft this
      rw [h, hi] at this; cases this
  | @there j o e ho he hb _ ih =>
    cases hl : listed.getD j true with
    | false => rfl
    | true =>
      have := hc j o ho hl (by rw [hs]; exact (Array.getElem?_eq_some_iff.1 ho).1) e he hb
      have := getD_ft this
      rw [ih] at this; cases this
theorem closed_set {listed : Array Bool} {i : Nat} (hc : Closed ops listed) (hr : i ∈ Region.ready .any ops listed) : Closed ops (listed.setIfInBounds i true) := by
  obtain ⟨hiun, oi, hoi, hall⟩ := mem_ready.1 hr
  have hmono : ∀ k, listed.getD k false = true → (listed.setIfInBounds i true).getD k false = true := by
    intro k hk
    have hlt : k < listed.size := by
      rcases Nat.lt_or_ge k listed.size with h' | h'
      · exact h'
      · simp [Array.getElem?_eq_none h'] at hk
    rw [Array.getD_eq_getD_getElem?, Array.getElem?_setIfInBounds]
    by_cases e : i = k
    · subst e; simp [hlt]
    · rw [if_neg e, ← Array.getD_eq_getD_getElem?]; exact hk
  intro k o ho hl hk e he hb
  by_cases e1 : i = k
  · subst e1
    rw [hoi] at ho
    simp only [Option.some.injEq] at ho
    subst ho
    exact hmono _ (hall e he hb)
  · rw [getD_set_ne true e1] at hl
    exact hmono _ (hc k o ho hl (by simpa using hk) e he hb)

theorem absAny_first {K : St → Prop} (hK : ∀ s t, Same s t → K s → K t) {i : Nat} {oi : Oper} (hi : ops[i]? = some oi) :
    ∀ (fuel : Nat) (listed : Array Bool) (s : St) (obi : List Bool) (si : St), Closed ops listed → listed.size = ops.size →
      (∀ j oj, ops[j]? = some oj → j ≠ i → listed.getD j true = false → ¬ Waits ops i j → okPair P Γ.uni ops oi oj = true) →
      i ∈ Region.ready .any ops listed → stepA P Γ ops oi s = some (obi, si) → AllB obi →
      absAny P Γ ops fuel (listed.setIfInBounds i true) si K → absAny P Γ ops (fuel + 1) listed s K := by
  intro fuel
  induction fuel with
  | zero =>
    intro listed s obi si _ _ _ hr hst hob H
    refine ⟨fun h => (by rw [h] at hr; cases hr), fun j hj => ?_⟩
    by_cases hji : j = i
    · subst hji; exact ⟨oi, obi, si, hi, hst, hob, H⟩
    · have := ready_mono hj hji
      rw [H.1] at this
      cases this
  | succ fuel ih =>
    intro listed s obi si hcl hsz hfree hr hst hob H
    refine ⟨fun h => (by rw [h] at hr; cases hr), fun j hj => ?_⟩
    by_cases hji : j = i
    · subst hji; exact ⟨oi, obi, si, hi, hst, hob, H⟩
    · obtain ⟨oj', obj, sij, hoj', hstj, hobj, h1⟩ := H.2 j (ready_mono hj hji)
      obtain ⟨hjun, oj, hoj, hall⟩ := mem_ready.1 hj
      have e := hoj.symm.trans hoj'
      simp only [Option.some.injEq] at e
      subst e
      have hiun := (mem_ready.1 hr).1
      have hnot : ¬ Waits ops i j := by
        intro hw
        have hget : ∀ k, listed.getD k true = false → ∀ e ∈ oj.after, Region.binds .any e = true → e.on = k → False := by
          intro k hk e he hb heq
          have h1 := hall e he hb
          rw [heq] at h1
          rcases Nat.lt_or_ge k listed.size with h' | h'
          · simp [h'] at hk h1; rw [hk] at h1; cases h1
          · simp [Array.getElem?_eq_none h'] at hk
        cases hw with
        | here ho he hb h =>
          have e2 := hoj.symm.trans ho
          simp only [Option.some.injEq] at e2
          subst e2
          exact hget i hiun _ he hb h
        | there ho he hb h =>
          have e2 := hoj.symm.trans ho
          simp only [Option.some.injEq] at e2
          subst e2
          exact hget _ (waits_not hcl hsz hiun h) _ he hb rfl
      obtain ⟨sj, sji, hs1, hs2, hs3⟩ := swap (hfree j oj hoj hji hjun hnot) hst hstj
      have hfree' : ∀ k ok, ops[k]? = some ok → k ≠ i → (listed.setIfInBounds j true).getD k true = false →
          ¬ Waits ops i k → okPair P Γ.uni ops oi ok = true := fun k ok hk hki hun hno => by
        refine hfree k ok hk hki ?_ hno
        by_cases hjk : j = k
        · subst hjk; exact hjun
        · rw [getD_set_ne true hjk] at hun; exact hun
      refine ⟨oj, obj, sj, hoj, hs1, hobj, ih (listed.setIfInBounds j true) sj obi sji (closed_set hcl hj) (by simpa using hsz) hfree' (ready_mono hr (Ne.symm hji)) hs2 hob ?_⟩
      rw [Array.setIfInBounds_comm _ _ hji]
      exact absAny_same hK fuel _ _ _ hs3 h1

theorem okFirst_spec {u : Bool} {listed : Array Bool} {i : Nat} {oi : Oper} (hi : ops[i]? = some oi) (h : okFirst P u ops listed i = true) (j : Nat) (oj : Oper) (hj : ops[j]? = some oj) (hne : j ≠ i) (hun : listed.getD j true = false) (hno : ¬ Waits ops i j) : okPair P u ops oi oj = true := by
  simp only [okFirst, hi, forceN_eq, List.all_eq_true, List.mem_range] at h
  have h1 := h j (Array.getElem?_eq_some_iff.1 hj).1
  simp only [hj, Bool.or_eq_true, hun, Bool.false_eq_true, or_false, Nat.beq_eq] at h1
  rcases h1 with (h1 | h1) | h1
  · exact absurd h1 hne
  · rcases waiters_spec (ops := ops) (i := i) _ [i] (fun x hx => .inl (by simpa using hx)) j (memN_iff.1 h1) with h2 | h2
    · exact absurd h2 hne
    · exact absurd h2 hno
  · exact h1

theorem allD_spec {f : Nat → Prop} : ∀ {l : List Nat}, allD l f → ∀ i ∈ l, f i
  | [i], h, j, hj => by
    rw [List.mem_singleton] at hj
    subst hj; exact h
  | i :: k :: r, h, j, hj => by
    rw [List.mem_cons] at hj
    rcases hj with rfl | hj
    · exact h.1
    · exact allD_spec (l := k :: r) h.2 j hj

/-- What a state that says the same is asked. -/
def SameK (K : St → Prop) (s : St) : Prop := ∃ s0, Same s0 s ∧ K s0
theorem exD_abs {K : St → Prop} : ∀ (n : Nat) (listed : Array Bool) (s : St), Closed ops listed → listed.size = ops.size → exD P Γ ops n listed s K → absAny P Γ ops n listed s (SameK K)
  | 0, listed, s, _, _, h => by
    unfold exD at h
    cases hr : Region.ready .any ops listed with
    | nil => rw [hr] at h; exact ⟨hr, s, Same.refl s, h⟩
    | cons i r => rw [hr] at h; exact h.elim
  | n + 1, listed, s, hcl, hsz, h => by
    have hK : ∀ s t, Same s t → SameK K s → SameK K t := fun s t hs ⟨s0, h1, h2⟩ => ⟨s0, h1.trans hs, h2⟩
    have one : ∀ i, i ∈ Region.ready .any ops listed → (match ops[i]? with
      | some o => match stepA P Γ ops o s with
        | some (ob, s') => conjB ob (exD P Γ ops n (listed.setIfInBounds i true) s' K)
        | none => False
      | none => False) → ∃ o ob s', ops[i]? = some o ∧ stepA P Γ ops o s = some (ob, s') ∧ AllB ob ∧ absAny P Γ ops n (listed.setIfInBounds i true) s' (SameK K) := by
      intro i hir h
      split at h
      · rename_i o ho
        split at h
        · rename_i ob s' hst
          obtain ⟨h1, h2⟩ := conjB_spec h
          exact ⟨o, ob, s', ho, hst, h1, exD_abs n _ s' (closed_set hcl hir) (by simpa using hsz) h2⟩
        · exact h.elim
      · exact h.elim
    unfold exD at h
    cases hr : Region.ready .any ops listed with
    | nil =>
      have hc : choices P Γ.uni ops listed = [] := by unfold choices; rw [hr]
      rw [hc] at h
      exact ⟨fun _ => ⟨s, Same.refl s, h⟩, fun i hi => by rw [hr] at hi; cases hi⟩
    | cons i r =>
      cases r with
      | nil =>
        have hc : choices P Γ.uni ops listed = [i] := by unfold choices; rw [hr]
        rw [hc] at h
        refine ⟨fun h0 => (by rw [hr] at h0; cases h0), fun j hj => ?_⟩
        rw [hr, List.mem_singleton] at hj
        subst hj
        exact one j (by rw [hr]; simp) h
      | cons k r =>
        cases hf : (i :: k :: r).find? (okFirst P Γ.uni ops listed) with
        | some j =>
          have hc : choices P Γ.uni ops listed = [j] := by unfold choices; rw [hr]; simp only [hf]
          rw [hc] at h
          obtain ⟨o, ob, s', ho, hst, hob, h1⟩ := one j (by rw [hr]; exact List.mem_of_find?_eq_some hf) h
          exact absAny_first hK ho n listed s ob s' hcl hsz (okFirst_spec ho (List.find?_some hf)) (by rw [hr]; exact List.mem_of_find?_eq_some hf) hst hob h1
        | none =>
          have hc : choices P Γ.uni ops listed = i :: k :: r := by unfold choices; rw [hr]; simp only [hf]
          rw [hc] at h
          refine ⟨fun h0 => (by rw [hr] at h0; cases h0), fun j hj => ?_⟩
          rw [hr] at hj
          exact one j (by rw [hr]; exact hj) (allD_spec h j hj)

theorem stepA_ok (hΓ : SoundG P Γ) {Q : Exit → Act → World → Prop} {Kc : Act → World → Prop} {i : Nat} {o : Oper} {ob : List Bool} {s' : St} (hi : ops[i]? = some o) (hR : Rep P κ s a w) (h : stepA P Γ ops o s = some (ob, s')) (ho : AllB ob)
    (hK : ∀ (κ' : Ctx) (a' : Act) (w' : World), LeB Γ.lim κ κ' → Rep P κ' s' a' w' → Kc a' w') : wpOp P ops Q i Kc a w := by
  simp only [wpOp, hi]
  unfold stepA at h
  cases hq : (kW o.op || kR P o) with
  | true =>
    rw [hq, cond_true] at h
    split at h
    · rename_i ob' v hv
      cases hp : (guardO s (gtOf ops o)).putOk o.dst with
      | false => rw [hp] at h; cases h
      | true =>
        rw [hp, cond_true] at h
        simp only [Option.some.injEq, Prod.mk.injEq] at h
        obtain ⟨rfl, rfl⟩ := h
        unfold valQ at hv
        split at hv
        · rename_i hgd
          have hgt : gtOf ops o = none := by simp [gtOf, hgd]
          rw [hgt] at hp hK
          have hw : Region.wanted o (yielded ops a.tmps) = true := by simp [Region.wanted, hgd]
          rw [if_pos hw]
          left
          obtain ⟨x, hd, hns, hst⟩ := opQ_ok hΓ hR (holds_nil _) hv ho
          have key : ∀ w', Below w.heap.size w w' → Kc (a.put o.dst x) w' := fun w' hb =>
            hK κ _ w' (LeB.refl _ _) ((hR.later hb).put hp hd (fun t p y e => absurd e (hns t p y)))
          unfold Oper.wp
          rcases hst w (Below.refl _ _) with hrun | ⟨f, vs, hrun, hc⟩
          · rw [hrun]; exact key w (Below.refl _ _)
          · rw [hrun, Oper.upon_enter]
            exact hc.mono fun e w' ⟨he, hb⟩ => by subst he; exact key w' hb
        · rename_i j p hgd
          split at hv
          · rename_i t ht
            have hgt : gtOf ops o = some t := by simp only [gtOf, hgd]; exact ht
            rw [hgt] at hp hK
            cases hall : (gpath s 20 t p).all (fun q => memN q.1 (chainG ops 20 j)) with
            | false => rw [hall] at hv; cases hv
            | true =>
              rw [hall, cond_true] at hv
              split at hv
              · rename_i ob1 v1 hv1
                simp only [Option.some.injEq, Prod.mk.injEq] at hv
                obtain ⟨rfl, rfl⟩ := hv
                by_cases hw : Region.wanted o (yielded ops a.tmps) = true
                · rw [if_pos hw]
                  left
                  have ht2 := (wanted_guard hgd ht).1 hw
                  obtain ⟨x, hd, hns, hst⟩ := opQ_ok hΓ hR (gpath_holds hR 20 t p ht2) hv1 (allB_map (gb_true hR 20 t p ht2) ho)
                  have key : ∀ w', Below w.heap.size w w' → Kc (a.put o.dst x) w' := fun w' hb =>
                    hK κ _ w' (LeB.refl _ _) (((hR.later hb).guard t).put hp (spec_den ht2 hd) (fun t' p' y e => by cases e; exact guard_mem s t))
                  unfold Oper.wp
                  rcases hst w (Below.refl _ _) with hrun | ⟨f, vs, hrun, hc⟩
                  · rw [hrun]; exact key w (Below.refl _ _)
                  · rw [hrun, Oper.upon_enter]
                    exact hc.mono fun e w' ⟨he, hb⟩ => by subst he; exact key w' hb
                · rw [if_neg hw]
                  have ht2 : ¬ a.tmps.getD t undef = .bool p := fun e => hw ((wanted_guard hgd ht).2 e)
                  exact hK κ _ w (LeB.refl _ _) ((hR.guard t).put hp (spec_den_no ht2) (fun t' p' y e => by cases e; exact guard_mem s t))
              · cases hv
          · cases hv
    · cases h
  | false =>
    rw [hq, cond_false] at h
    split at h
    · rename_i hgd
      have hw : Region.wanted o (yielded ops a.tmps) = true := by simp [Region.wanted, hgd]
      rw [if_pos hw]
      split at h
      · rename_i ob' v s1 he
        cases hp : s1.putOk o.dst with
        | false => rw [hp] at h; cases h
        | true =>
          rw [hp, cond_true] at h
          simp only [Option.some.injEq, Prod.mk.injEq] at h
          obtain ⟨rfl, rfl⟩ := h
          left
          refine opX_ok hΓ hR he ho _ _ fun x κ' w' k1 hR' hd hns => ?_
          exact hK κ' _ w' k1 (hR'.put hp hd (fun t p y e => absurd e (hns t p y)))
      · cases h
    · rename_i j p hgd
      cases hk2 : (ops[j]?).bind (·.dst) with
      | none => rw [hk2] at h; cases h
      | some k =>
        rw [hk2] at h
        simp only at h
        cases hc : ((gpath s 20 k p).all (fun q => memN q.1 (chainG ops 20 j)) && gchain s 20 k (chainG ops 20 j)) with
        | false => rw [hc] at h; cases h
        | true =>
          rw [hc, cond_true] at h
          split at h
          · rename_i ob0 v ms rr q h1 h2
            cases hp : (s.guard k).putOk o.dst with
            | false => rw [hp] at h; cases h
            | true =>
              rw [hp, cond_true] at h
              simp only [Option.some.injEq, Prod.mk.injEq] at h
              obtain ⟨rfl, rfl⟩ := h
              obtain ⟨hw1, hw2⟩ := callG_wp (Q := Q) (Kc := Kc) hΓ hR h1 h2 ho hp hK
              by_cases hw : Region.wanted o (yielded ops a.tmps) = true
              · rw [if_pos hw]
                left
                exact hw1 ((wanted_guard hgd hk2).1 hw)
              · rw [if_neg hw]
                exact hw2 fun e => hw ((wanted_guard hgd hk2).2 e)
          · cases h

theorem absAny_wp (hΓ : SoundG P Γ) {K : St → Prop} {Q : Exit → Act → World → Prop} {J : Ctx → Prop} (hJ : ∀ κ κ', J κ → LeB Γ.lim κ κ' → J κ') (hQ : ∀ (κ' : Ctx) (s' : St) (a' : Act) (w' : World), J κ' → Rep P κ' s' a' w' → K s' → Q .normal a' w') :
    ∀ (n : Nat) (listed : Array Bool) (κ : Ctx) (s : St) (a : Act) (w : World), J κ → Rep P κ s a w → absAny P Γ ops n listed s K → wpAny P .any ops Q n listed a w
  | 0, _, κ, s, a, w, h1, hR, h => ⟨h.1, hQ κ s a w h1 hR h.2⟩
  | n + 1, listed, κ, s, a, w, h1, hR, h => by
    refine ⟨fun hr => hQ κ s a w h1 hR (h.1 hr), fun i hi => ?_⟩
    obtain ⟨o, ob, s', ho, hst, hob, h3⟩ := h.2 i hi
    exact stepA_ok hΓ ho hR hst hob fun κ' a' w' k1 hR' => absAny_wp hΓ hJ hQ n _ κ' s' a' w' (hJ _ _ h1 k1) hR' h3

/-- A region that draws its order. -/
theorem exD_ok (hΓ : SoundG P Γ) (hm : P.follows .mixedOrders = true) {K : St → Prop} {Q : Exit → Act → World → Prop} {J : Ctx → Prop} (hJ : ∀ κ κ', J κ → LeB Γ.lim κ κ' → J κ') (hQ : ∀ (κ' : Ctx) (s' : St) (a' : Act) (w' : World), J κ' → Rep P κ' s' a' w' → K s' → Q .normal a' w')
    {id : Nat} (h1 : J κ) (hR : Rep P κ s a w) (h : exD P Γ ops ops.size (Array.replicate ops.size false) s K) : (Code.region id ops true).wp P Q a w := by
  refine wp_region_any hm ?_
  refine absAny_wp hΓ hJ (fun κ' s' a' w' k1 hR' ⟨s0, hs, hk⟩ => hQ κ' s0 a' w' k1 (hs.symm.rep hR') hk) ops.size _ κ s a _ h1 (hR.later ?_) (exD_abs _ _ _ (fun k o ho hl hk => ?_) (by simp) h)
  · exact ⟨rfl, rfl, rfl, Nat.le_refl _, fun _ _ => rfl⟩
  · simp at hl hk
    simp [hk] at hl

end
end Go.Proofs.Ythfliohfkhnpiaa
