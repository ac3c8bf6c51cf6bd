/- The operations that make memory or write it. No program in sight. -/
import Derived.Test.YtoklfnonbfcdlaaE6
namespace Go.Proofs.Ytoklfnonbfcdlaa
set_option linter.unusedVariables false
set_option linter.unusedSimpArgs false
open Go.RowKit

def CV.kill (r : Nat) : CV → CV
  | .row r' => bif Nat.beq r r' then .junk else .row r'
  | .elt r' i c o => bif Nat.beq r r' then .junk else .elt r' i c o
  | c => c
def TV.kill (r : Nat) : TV → TV
  | .cel c => .cel (c.kill r)
  | .agg l => .agg (l.map (CV.kill r))
def AV.kill (r : Nat) : AV → AV
  | .one t => .one (t.kill r)
  | .tup l => .tup (l.map (TV.kill r))
  | .spec t p x => .spec t p (x.kill r)
def killFr (r : Nat) (fr : List (Nat × AV)) : List (Nat × AV) := fr.map fun p => (p.1, p.2.kill r)

def rowsFrom (l : List RowA) : List RowS := l.map (⟨·, none⟩)

/-- A Nat out of an optional operand of a slice expression. -/
def loOf (s : St) : Option Operand → Option Int
  | none => some 0
  | some x => match rd1 s [] x with
    | .cel (.int _ n) => some n
    | _ => none
def hiOf (s : St) (n : Nat) : Option Operand → Option Int
  | none => some n
  | some x => match rd1 s [] x with
    | .cel (.int _ n) => some n
    | _ => none

/-- The operations that make memory or write it. -/
def opE (P : Program) (Γ : Con) (s : St) : Op → Option (List Bool × AV × St)
  | .alloc t =>
    match P.info? t with
    | some it => match it.zero with
      | some z => forceL (z.cells.toList.map CV.ofVal) fun cs => some ([], .one (.cel (.ptr s.blks.length 0)), { s with blks := s.blks ++ [cs] })
      | none => none
    | none => none
  | .box _ x => (rd1 s [] x).force fun v => bif v.solid then some ([], .one (.cel (.ptr s.blks.length 0)), { s with blks := s.blks ++ [v.cells] }) else none
  | .store t x y =>
    match rd1 s [] x, P.info? t with
    | .cel (.ptr i off), some it =>
      (rd1 s [] y).force fun v =>
      match s.blks[i]? with
      | some cs => bif v.solid && v.cells.all CV.real && Nat.beq v.cells.length it.size && Nat.ble (off + v.cells.length) cs.length then
          forceL (setAt cs off v.cells) fun cs' => some ([], .one (.cel .junk), { s with blks := s.blks.set i cs' }) else none
      | none => none
    | _, _ => none
  | .buildSlice t len parts =>
    match P.underlying t with
    | some (.slice e) =>
      match P.info? e with
      | some it =>
        match it.zero with
        | some z =>
          bif Nat.ble len 1000 && Nat.ble it.size 1000 && Nat.ble 1 it.size && Nat.beq z.cells.size it.size then
            (fillE ((List.range len).map fun i => (i * it.size, it.size)) ((List.range (len * it.size)).map fun i => CV.ofVal z.cells[i % z.cells.size]!) (parts.toList.map fun (i, x) => (i, rd1 s [] x))).bind fun cs =>
            forceL cs fun cs => match mkRow P e len cs with
            | some ro => bif Nat.beq ro.width it.size then some ([], .one (.cel (.row s.rows.length)), { s with rows := s.rows ++ [⟨ro, some e⟩] }) else none
            | none => none
          else none
        | none => none
      | none => none
    | _ => none
  | .slice t x lo hi none =>
    match P.underlying t, rd1 s [] x with
    | some (.slice e), .cel (.row r) =>
      match s.rows[r]?, loOf s lo, P.info? e with
      | some ro, some l, some it => match hiOf s ro.ro.len hi with
        | some h => bif Nat.beq it.size ro.ro.width then some ([decide (0 ≤ l), decide (l ≤ h), decide (h ≤ (ro.ro.len : Int))], .one (.cel (.row s.rows.length)), { s with rows := demote [r] 0 s.rows ++ [⟨ro.ro.sub l.toNat h.toNat, none⟩] }) else none
        | none => none
      | _, _, _ => none
    | _, _ => none
  | .call c =>
    match c.callee with
    | .value f =>
      match rd1 s [] f with
      | .cel (.fn g) => forceT (c.args.toList.map (rd1 s [])) fun args =>
        match Γ g args s.rows with
        | some r => r.val.force fun v => some (r.pre, v, { s with rows := demote (args.flatMap TV.rowsOf) 0 s.rows ++ rowsFrom r.rows })
        | none => none
      | _ => none
    | .builtin .append =>
      match c.args.toList, c.argTypes.toList with
      | [x, y], [t, t'] =>
        bif Nat.beq t t' then
          match P.underlying t, rd1 s [] y with
          | some (.slice e), .cel (.row q) =>
            match P.info? e, s.rows[q]? with
            | some it, some rq =>
              bif (it.zero.map (·.cells.size)) == some it.size && Nat.ble 1 it.size && Nat.ble it.bytes 32768 && Nat.beq it.size rq.ro.width then
                match rd1 s [] x with
                | .cel (.row r) =>
                  match s.rows[r]? with
                  | some ro =>
                    match ro.own, ro.ro.append rq.ro with
                    | some e', some rn => bif Nat.beq e e' && !(Nat.beq r q) then some ([decide (rn.len ≤ 4294967296)], .one (.cel (.row r)), { s with fr := killFr r s.fr, blks := s.blks.map (List.map (CV.kill r)), rows := s.rows.set r ⟨rn, some e⟩ }) else none
                    | _, _ => none
                  | none => none
                | .cel .nilS => some ([decide (rq.ro.len ≤ 4294967296)], .one (.cel (.row s.rows.length)), { s with rows := s.rows ++ [⟨rq.ro, some e⟩] })
                | _ => none
              else none
            | _, _ => none
          | _, _ => none
        else none
      | _, _ => none
    | _ => none
  | _ => none

section
variable {P : Program} {Γ : Con} {κ : Ctx} {s s' : St} {a : Act} {w : World} {o : Oper} {ob : List Bool} {v : AV}

def EOk (P : Program) (κ : Ctx) (s' : St) (a : Act) (w : World) (o : Oper) (v : AV) : Prop :=
  ∀ (K : Act → World → Prop) (Q : Exit → Act → World → Prop), (∀ x κ' w', κ'.W0 = κ.W0 → κ'.B0 = κ.B0 → Rep P κ' s' a w' → v.Den κ' a.tmps x → (∀ t p y, v ≠ .spec t p y) → K (a.put o.dst x) w') → o.wp P a w K Q

theorem holds_nil (tm : Array Value) : Holds [] tm := fun _ _ h => by cases h

theorem eok_of {t : TV} {x : Value} {κ' : Ctx} {w' : World} (hrun : (execOp a.eval o).run P w = .ok (.value x) w') (hR : Rep P κ' s' a w') (h0 : κ'.W0 = κ.W0) (h1 : κ'.B0 = κ.B0) (hd : t.Den κ' x) : EOk P κ s' a w o (.one t) := by
  intro K Q hK
  unfold Oper.wp
  rw [hrun]
  exact hK x κ' w' h0 h1 hR hd (fun _ _ _ => by simp)

theorem e_alloc (hR : Rep P κ s a w) (t : TypeId) (hop : o.op = .alloc t) (h : opE P Γ s o.op = some (ob, v, s')) : EOk P κ s' a w o v := by
  rw [hop] at h
  simp only [opE, forceL_eq] at h
  split at h
  · rename_i it hi
    split at h
    · rename_i z hz
      simp only [Option.some.injEq, Prod.mk.injEq] at h
      obtain ⟨-, rfl, rfl⟩ := h
      obtain ⟨h2, h3⟩ := hR.newBlk (cs := z.cells.toList.map CV.ofVal) (xs := z.cells.toList) t (DenL.ofVal κ _)
      refine eok_of (x := .pointer (some ⟨w.heap.size, 0, none⟩)) ?_ h2 rfl rfl ⟨w.heap.size, ?_, rfl⟩
      · simp [execOp, hop, Instr.alloc, zeroValue, typeInfo, hi, hz, newVar, newRow]
      · show (κ.β ++ [w.heap.size])[s.blks.length]? = _
        rw [← hR.blkN]; simp
    · cases h
  · cases h

theorem e_box (hR : Rep P κ s a w) (t : TypeId) (x : Operand) (hop : o.op = .box t x) (h : opE P Γ s o.op = some (ob, v, s')) : EOk P κ s' a w o v := by
  rw [hop] at h
  simp only [opE, TV.force_eq] at h
  cases hs : (rd1 s [] x).solid with
  | false => rw [hs] at h; cases h
  | true =>
    rw [hs, cond_true] at h
    simp only [Option.some.injEq, Prod.mk.injEq] at h
    obtain ⟨-, rfl, rfl⟩ := h
    have hd := TV.cells_den (rd1_den hR (holds_nil _) x) hs
    obtain ⟨h2, h3⟩ := hR.newBlk t hd
    refine eok_of (x := .pointer (some ⟨w.heap.size, 0, none⟩)) ?_ h2 rfl rfl ⟨w.heap.size, ?_, rfl⟩
    · simp [execOp, hop, Instr.box, newVar, newRow]
    · show (κ.β ++ [w.heap.size])[s.blks.length]? = _
      rw [← hR.blkN]; simp

theorem setCells_heap (b : Nat) : ∀ (vs : List Value) (o : Nat) (w : World) (xs : List Value) (T : TypeId), w.heap[b]? = some (.cells xs.toArray T (0, 0)) →
    (w.setCells b o vs).heap[b]? = some (.cells ((vs.zipIdx).foldl (fun acc (p : Value × Nat) => acc.set (o + p.2) p.1) xs).toArray T (0, 0))
  | [], _, _, _, _, h => h
  | v :: r, o, w, xs, T, h => by
    have h1 : (w.setCell ⟨b, o, none⟩ v).heap[b]? = some (.cells (xs.set o v).toArray T (0, 0)) := by
      simp [World.setCell, Array.getElem?_modify, h]
    have := setCells_heap b r (o + 1) _ _ T h1
    rw [World.setCells, this]
    rw [List.zipIdx_cons, List.foldl_cons, Nat.zero_add]
    have e : ∀ (l : List Value) (k : Nat) (zs : List Value), (l.zipIdx (k + 1)).foldl (fun acc (p : Value × Nat) => acc.set (o + p.2) p.1) zs = (l.zipIdx k).foldl (fun acc (p : Value × Nat) => acc.set (o + 1 + p.2) p.1) zs := by
      intro l
      induction l with
      | nil => intro k zs; rfl
      | cons y r ih => intro k zs; rw [List.zipIdx_cons, List.zipIdx_cons, List.foldl_cons, List.foldl_cons, ih]; rw [show o + (k + 1) = o + 1 + k by omega]
    rw [e]
    rfl
theorem setCells_other (b : Nat) : ∀ (vs : List Value) (o : Nat) (w : World), (∀ k, k ≠ b → (w.setCells b o vs).heap[k]? = w.heap[k]?) ∧ (w.setCells b o vs).heap.size = w.heap.size ∧ (w.setCells b o vs).os = w.os ∧ (w.setCells b o vs).tape = w.tape ∧ (w.setCells b o vs).output = w.output
  | [], _, _ => ⟨fun _ _ => rfl, rfl, rfl, rfl, rfl⟩
  | v :: r, o, w => by
    obtain ⟨h1, h2, h3, h4, h5⟩ := setCells_other b r (o + 1) (w.setCell ⟨b, o, none⟩ v)
    refine ⟨fun k hk => ?_, ?_, h3, h4, h5⟩
    · rw [World.setCells, h1 k hk]; exact Below.heap_setCell _ _ _ _ hk
    · rw [World.setCells, h2]; simp [World.setCell]

theorem e_store (hR : Rep P κ s a w) (t : TypeId) (x y : Operand) (hop : o.op = .store t x y) (h : opE P Γ s o.op = some (ob, v, s')) : EOk P κ s' a w o v := by
  rw [hop] at h
  simp only [opE, TV.force_eq, forceL_eq] at h
  have hx := rd1_den hR (holds_nil _) x
  have hy := rd1_den hR (holds_nil _) y
  split at h
  · rename_i i off it h1 hi
    rw [h1] at hx
    obtain ⟨b, hb, hx⟩ := hx
    split at h
    · rename_i cs hcs
      cases hc : ((rd1 s [] y).solid && (rd1 s [] y).cells.all CV.real && Nat.beq (rd1 s [] y).cells.length it.size && Nat.ble (off + (rd1 s [] y).cells.length) cs.length) with
      | false => rw [hc] at h; cases h
      | true =>
        rw [hc, cond_true] at h
        simp only [Option.some.injEq, Prod.mk.injEq] at h
        obtain ⟨-, rfl, rfl⟩ := h
        simp only [Bool.and_eq_true] at hc
        obtain ⟨⟨⟨h2, h3⟩, h4⟩, h5⟩ := hc
        have h4 := Nat.eq_of_beq_eq_true h4
        have h5 := Nat.le_of_ble_eq_true h5
        have hd := TV.cells_den hy h2
        obtain ⟨xs, T, h6, h7⟩ := hR.blk i cs b hcs hb
        have hl := hd.length
        have hl2 := h7.length
        have hone : ∀ u ∈ (a.eval y).cells.toList, u.oneCell' = true := by
          intro u hu
          obtain ⟨j, hj⟩ := List.getElem?_of_mem hu
          have hlt : j < (rd1 s [] y).cells.length := by
            have := (List.getElem?_eq_some_iff.1 hj).1
            omega
          obtain ⟨u', hu1, hu2⟩ := hd.get j _ (List.getElem?_eq_getElem hlt)
          rw [hj] at hu1
          simp only [Option.some.injEq] at hu1
          subst hu1
          exact hu2.one (List.all_eq_true.1 h3 _ (List.getElem_mem hlt))
        have hcell : ∀ j, j < (a.eval y).cells.toList.length → (w.cell? ⟨b, off + 0 + j, none⟩).isSome = true := by
          intro j hj
          rw [cell_of_row w b _ _ T (0, 0) h6]
          simp; omega
        have hfr : ∀ j, j < (a.eval y).cells.toList.length → w.frozen? ⟨b, off + 0 + j, none⟩ = false := by
          intro j hj
          simp [World.frozen?, h6]
        have hst := run_storeCells_cells (P := P) b off (a.eval y).cells.toList 0 w hcell hfr hone
        rw [Nat.add_zero] at hst
        obtain ⟨k1, k2, k3, k4, k5⟩ := setCells_other b (a.eval y).cells.toList off w
        have hR2 := hR.setBlk (i := i) (List.getElem?_eq_some_iff.1 hcs).1 hb (setAt_den off h7 hd) (setCells_heap b _ off w xs T h6) k1 k2 k3 k4 k5
        intro K Q hK
        unfold Oper.wp
        have hrun : (execOp a.eval o).run P w = .ok .skip (w.setCells b off (a.eval y).cells.toList) := by
          have hsz : (a.eval y).cells.size = it.size := by rw [← Array.length_toList]; omega
          simp [execOp, hop, hx, Instr.storeAt, Instr.sureAddr, storeVar, sizeOf, typeInfo, hi, hsz, hst]
        rw [hrun]
        exact hK undef κ _ rfl rfl hR2 trivial (fun _ _ _ => by simp)
    · cases h
  · cases h

theorem Rep.addRows : ∀ (l : List RowA) (vs : List Value) {κ : Ctx} {s : St} {w : World}, Rep P κ s a w → vs.length = l.length →
    (∀ (i : Nat) (ro : RowA) (u : Value), l[i]? = some ro → vs[i]? = some u → RowOk w u ro ∧ (0 < ro.len → ∀ g, u.ownBlock = some g → g ∉ κ.β ∧ (κ.W0.heap.size ≤ g ∨ g ∈ κ.B0) ∧
      ∀ (r' : Nat) (ro' : RowS) (v' : Value), s.rows[r']? = some ro' → κ.ρ[r']? = some v' → ro'.own ≠ none → v'.ownBlock ≠ some g)) →
    Rep P (κ.with vs) { s with rows := s.rows ++ rowsFrom l } a w
  | [], [], κ, s, w, h, _, _ => by simpa [Ctx.with, rowsFrom] using h
  | [], _ :: _, _, _, _, _, h, _ => by simp at h
  | _ :: _, [], _, _, _, _, h, _ => by simp at h
  | ro :: l, u :: vs, κ, s, w, h, hl, hv => by
    obtain ⟨h1, h2⟩ := hv 0 ro u rfl rfl
    obtain ⟨h3, h4⟩ := h.addRow (v := u) (ro := ro) (own := none) h1 (fun hp g hg => ⟨(h2 hp g hg).1, (h2 hp g hg).2.1⟩) (fun E he => by cases he)
      (fun r' ro' v' g h5 h6 h7 h8 h9 h10 => by
        rcases h9 with h9 | h9
        · exact (h2 h9 g h10).2.2 r' ro' v' h5 h6 h7 h8
        · exact h9 rfl)
    have h5 := Rep.addRows l vs h3 (by simpa using hl) (fun i ro' u' h6 h7 => by
      obtain ⟨h8, h9⟩ := hv (i + 1) ro' u' (by simpa using h6) (by simpa using h7)
      refine ⟨h8, fun hp g hg => ?_⟩
      obtain ⟨h10, h11, h12⟩ := h9 hp g hg
      refine ⟨h10, h11, fun r'' ro'' v'' h13 h14 h15 h16 => ?_⟩
      by_cases hi : r'' < s.rows.length
      · rw [List.getElem?_append_left hi] at h13
        simp only [Ctx.with] at h14
        rw [List.getElem?_append_left (by rw [h.rowN]; exact hi)] at h14
        exact h12 r'' ro'' v'' h13 h14 h15 h16
      · rw [List.getElem?_append_right (by omega)] at h13
        have hz : r'' - s.rows.length = 0 := by
          have := (List.getElem?_eq_some_iff.1 h13).1
          simp at this; omega
        rw [hz] at h13
        simp at h13
        subst h13
        exact h15 rfl)
    have e1 : (κ.with [u]).with vs = κ.with (u :: vs) := by simp [Ctx.with]
    have e2 : ({ s with rows := s.rows ++ [⟨ro, none⟩] ++ rowsFrom l } : St) = { s with rows := s.rows ++ rowsFrom (ro :: l) } := by simp [rowsFrom]
    rw [e1] at h5
    rw [← e2]
    exact h5

theorem e_call (hΓ : SoundG P Γ) (hR : Rep P κ s a w) (args : List Operand) (tys : Array TypeId) (f : Operand) (hop : o.op = .call ⟨.value f, ⟨args⟩, tys⟩) (h : opE P Γ s o.op = some (ob, v, s')) (ho : AllB ob) : EOk P κ s' a w o v := by
  rw [hop] at h
  simp only [opE, forceT_eq] at h
  have hf := rd1_den hR (holds_nil _) f
  have hargs := args_den hR (holds_nil _) args
  split at h
  · rename_i g h1
    rw [h1] at hf
    have hf : a.eval f = .func (.func g) #[] #[] := hf
    split at h
    · rename_i r hr
      rw [AV.force_eq] at h
      simp only [Option.some.injEq, Prod.mk.injEq] at h
      obtain ⟨rfl, rfl, rfl⟩ := h
      obtain ⟨hcf, hc⟩ := hΓ g _ _ r hr ho κ w _ hR.rowsOk hargs
      intro K Q hK
      unfold Oper.wp
      have hrun : (execOp a.eval o).run P w = .ok (.enter g (args.map a.eval).toArray) w := by
        simp [execOp, hop, resolve, Deferred.ofValue, hf, invoke, hcf]
      rw [hrun, Oper.upon_enter]
      refine hc.mono fun e w1 hpost => ?_
      obtain ⟨x, ρ', rfl, hb, hd, hns, hl, hrows⟩ := hpost
      have hR1 := (hR.later hb).demote ((args.map (rd1 s [])).flatMap TV.rowsOf)
      have hR2 := Rep.addRows r.rows ρ' hR1 hl (fun i ro u h2 h3 => by
        obtain ⟨h4, h5⟩ := hrows i ro u h2 h3
        refine ⟨h4, fun hp g' hg' => ?_⟩
        have hold : ∀ (r' : Nat) (ro' : RowS) (v' : Value), (demote ((args.map (rd1 s [])).flatMap TV.rowsOf) 0 s.rows)[r']? = some ro' → κ.ρ[r']? = some v' → ro'.own ≠ none → ∃ (ro0 : RowS) (E : TypeId), s.rows[r']? = some ro0 ∧ ro0.own = some E ∧ r' ∉ (args.map (rd1 s [])).flatMap TV.rowsOf := by
          intro r' ro' v' h6 h7 h8
          obtain ⟨ro0, h9, h10, h11⟩ := demote_of h6
          obtain ⟨h12, h13⟩ := h11 h8
          rw [h12] at h8
          cases hE : ro0.own with
          | none => exact absurd hE h8
          | some E => exact ⟨ro0, E, h9, hE, h13⟩
        rcases h5 g' hp hg' with h6 | ⟨r0, ro0, u0, h6, h60, h61, h7, h8⟩
        · refine ⟨fun hm => absurd (hR.blt hm) (by omega), .inl (Nat.le_trans hR.below.size h6), fun r' ro' v' h9 h10 h11 h12 => ?_⟩
          obtain ⟨ro1, E, h13, h14, _⟩ := hold r' ro' v' h9 h10 h11
          obtain ⟨⟨ys, _, hz⟩, _⟩ := hR.own r' ro1 v' E h13 h10 h14
          have := (owns_lt hz h12).1
          omega
        · obtain ⟨h62, h63⟩ := (hR.row r0 ro0 u0 h60 h7).2 h61 g' h8
          refine ⟨h62, h63, fun r' ro' v' h9 h10 h11 h12 => ?_⟩
          obtain ⟨ro1, E, h13, h14, h15⟩ := hold r' ro' v' h9 h10 h11
          obtain ⟨_, h16⟩ := hR.own r' ro1 v' E h13 h10 h14
          exact (h16 g' h12).2 r0 ro0 u0 (fun e => h15 (e ▸ h6)) h60 h7 (.inl h61) h8)
      refine hK x (κ.with ρ') w1 rfl rfl hR2 ?_ hns
      cases hv : r.val with
      | one t => rw [hv] at hd; exact hd
      | tup l => rw [hv] at hd; exact hd
      | spec t p y => exact absurd hv (hns t p y)
    · cases h
  · cases h

end
end Go.Proofs.Ytoklfnonbfcdlaa
