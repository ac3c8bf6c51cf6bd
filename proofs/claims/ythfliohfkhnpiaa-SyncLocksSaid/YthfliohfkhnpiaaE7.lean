/- The operations that make memory or write it. No program in sight. -/
import Derived.Test.YthfliohfkhnpiaaE6
namespace Go.Proofs.Ythfliohfkhnpiaa
set_option linter.unusedVariables false
set_option linter.unusedSimpArgs false
open Go.RowKit

def CV.kill (r : Nat) : CV → CV
  | .row r' => bif Nat.beq r r' then .junk else .row r'
  | .elt r' i c o => bif Nat.beq r r' then .junk else .elt r' i c o
  | c => c
def TV.kill (r : Nat) : TV → TV
  | .cel c => .cel (c.kill r)
  | .agg l => .agg (l.map (CV.kill r))
def AV.kill (r : Nat) : AV → AV
  | .one t => .one (t.kill r)
  | .tup l => .tup (l.map (TV.kill r))
  | .spec t p x => .spec t p (x.kill r)
def killFr (r : Nat) (fr : List (Nat × AV)) : List (Nat × AV) := fr.map fun p => (p.1, p.2.kill r)

def rowsFrom (l : List RowA) : List RowS := l.map (⟨·, none⟩)

/-- A Nat out of an optional operand of a slice expression. -/
def loOf (s : St) : Option Operand → Option Int
  | none => some 0
  | some x => match rd1 s [] x with
    | .cel (.int _ n) => some n
    | _ => none
def hiOf (s : St) (n : Nat) : Option Operand → Option Int
  | none => some n
  | some x => match rd1 s [] x with
    | .cel (.int _ n) => some n
    | _ => none

def eqPl : List CV → List CV → Bool
  | [], [] => true
  | .int k n :: r, .int k' n' :: r' => k == k' && decide (n = n') && eqPl r r'
  | .bool b :: r, .bool b' :: r' => b == b' && eqPl r r'
  | _, _ => false
theorem eqPl_eq : ∀ {l m : List CV}, eqPl l m = true → l = m
  | [], [], _ => rfl
  | [], _ :: _, h => by cases h
  | c :: r, m, h => by
    unfold eqPl at h
    split at h
    · rename_i e; cases e
    · rename_i k n r0 k' n' r' e
      cases e
      simp only [Bool.and_eq_true, beq_iff_eq, decide_eq_true_eq] at h
      rw [h.1.1, h.1.2, eqPl_eq h.2]
    · rename_i b r0 b' r' e
      cases e
      simp only [Bool.and_eq_true, beq_iff_eq] at h
      rw [h.1, eqPl_eq h.2]
    · cases h
def arrOf (P : Program) (t : TypeId) : Option (Nat × TypeId) :=
  match P.underlying t with
  | some (.array n e) => some (n, e)
  | _ => none
/-- The operations that make memory or write it. -/
def opE (P : Program) (Γ : Con) (s : St) : Op → Option (List Bool × AV × St)
  | .alloc t =>
    match P.info? t with
    | some it => match it.zero with
      | some z =>
        match arrOf P t with
        | some (n, e) =>
          match zeroRow P e n with
          | some ro => bif eqPl (z.cells.toList.map CV.ofVal) ro.flat && Nat.ble 2 n && Nat.ble n 1000 then some ([], .one (.cel (.elt s.rows.length 0 ro.width 0)), { s with rows := s.rows ++ [⟨ro, some t⟩] }) else none
          | none => none
        | none => forceL (z.cells.toList.map CV.ofVal) fun cs => some ([], .one (.cel (.ptr s.blks.length 0)), { s with blks := s.blks ++ [cs] })
      | none => none
    | none => none
  | .box _ x => (rd1 s [] x).force fun v => bif v.solid then some ([], .one (.cel (.ptr s.blks.length 0)), { s with blks := s.blks ++ [v.cells] }) else none
  | .store t x y =>
    match rd1 s [] x, P.info? t with
    | .cel (.ptr i off), some it =>
      (rd1 s [] y).force fun v =>
      match s.blks[i]? with
      | some cs => bif v.solid && v.cells.all CV.real && Nat.beq v.cells.length it.size && Nat.ble (off + v.cells.length) cs.length && Nat.ble s.ro i then
          forceL (setAt cs off v.cells) fun cs' => some ([], .one (.cel .junk), { s with blks := s.blks.set i cs' }) else none
      | none => none
    | .cel (.elt r i c off), some it =>
      (rd1 s [] y).force fun v =>
      match s.rows[r]? with
      | some ro =>
        match ro.own, ro.ro.put i.toNat (setAt (ro.ro.cells i.toNat) off v.cells) with
        | some E, some rn => bif v.solid && v.cells.all CV.real && Nat.beq v.cells.length it.size && Nat.beq c ro.ro.width && Nat.ble (off + v.cells.length) c then
            some ([], .one (.cel .junk), { s with rows := s.rows.set r ⟨rn, some E⟩ }) else none
        | _, _ => none
      | none => none
    | _, _ => none
  | .buildSlice t len parts =>
    match P.underlying t with
    | some (.slice e) =>
      match P.info? e with
      | some it =>
        match it.zero with
        | some z =>
          bif Nat.ble len 1000 && Nat.ble it.size 1000 && Nat.ble 1 it.size && Nat.beq z.cells.size it.size then
            (fillE ((List.range len).map fun i => (i * it.size, it.size)) ((List.range (len * it.size)).map fun i => CV.ofVal z.cells[i % z.cells.size]!) (parts.toList.map fun (i, x) => (i, rd1 s [] x))).bind fun cs =>
            forceL cs fun cs => match mkRow P e len cs with
            | some ro => bif Nat.beq ro.width it.size then some ([], .one (.cel (.row s.rows.length)), { s with rows := s.rows ++ [⟨ro, some e⟩] }) else none
            | none => some ([], .one (.cel (.bsl s.blks.length len)), { s with blks := s.blks ++ [cs] })
          else none
        | none => none
      | none => none
    | _ => none
  | .makeSlice t x y =>
    match P.underlying t, rd1 s [] x, rd1 s [] y with
    | some (.slice e), .cel (.int k n), .cel (.int k' m) =>
      match P.info? e, zeroRow P e n.toNat, zeroCs P e with
      | some it, some ro, some zc =>
        match it.zero with
        | some z => bif eqPl (z.cells.toList.map CV.ofVal) zc && Nat.ble 1 it.size && Nat.beq zc.length it.size && Nat.ble it.bytes 32768 then
            some ([decide (0 ≤ n), Nat.ble n.toNat 4294967296, decide (n = m)], .one (.cel (.row s.rows.length)), { s with rows := s.rows ++ [⟨ro, some e⟩] }) else none
        | none => none
      | _, _, _ => none
    | _, _, _ => none
  | .slice t x lo hi none =>
    match P.underlying t, rd1 s [] x with
    | some (.slice e), .cel (.row r) =>
      match s.rows[r]?, loOf s lo, P.info? e with
      | some ro, some l, some it => match hiOf s ro.ro.len hi with
        | some h => bif Nat.beq it.size ro.ro.width then some ([decide (0 ≤ l), decide (l ≤ h), decide (h ≤ (ro.ro.len : Int))], .one (.cel (.row s.rows.length)), { s with rows := demote [r] 0 s.rows ++ [⟨ro.ro.sub l.toNat h.toNat, none⟩] }) else none
        | none => none
      | _, _, _ => none
    | _, _ => none
  | .call c =>
    match c.callee with
    | .value f =>
      match fargs s [] f c.args.toList with
      | some (g, args) =>
        match gath s.blks args with
        | some caps =>
          match Γ.con g args s.rows caps with
          | some r => r.val.force fun v => some (r.pre, v, { s with rows := demote (callRows args caps) 0 s.rows ++ rowsFrom r.rows })
          | none => none
        | none => none
      | none => none
    | .builtin .copy =>
      match c.args.toList, c.argTypes.toList with
      | [x, y], [t, _] =>
        match P.underlying t, rd1 s [] x with
        | some (.slice e), .cel (.row r) =>
          match s.rows[r]?, P.info? e with
          | some ro, some it =>
            match ro.own with
            | some E =>
              match rd1 s [] y with
              | .cel (.row q) =>
                match s.rows[q]? with
                | some rq =>
                  match ro.ro.copyIn rq.ro with
                  | some rn => bif !(Nat.beq r q) && Nat.beq it.size 1 && Nat.beq ro.ro.width 1 then some ([], .one (.cel (.int .i64 ((min rq.ro.len ro.ro.len : Nat) : Int))), { s with rows := s.rows.set r ⟨rn, some E⟩ }) else none
                  | none => none
                | none => none
              | .cel .nilS => some ([], .one (.cel (.int .i64 0)), s)
              | _ => none
            | none => none
          | _, _ => none
        | _, _ => none
      | _, _ => none
    | .builtin .append =>
      match c.args.toList, c.argTypes.toList with
      | [x, y], [t, t'] =>
        bif Nat.beq t t' then
          match P.underlying t, rd1 s [] y with
          | some (.slice e), .cel (.row q) =>
            match P.info? e, s.rows[q]? with
            | some it, some rq =>
              bif (it.zero.map (·.cells.size)) == some it.size && Nat.ble 1 it.size && Nat.ble it.bytes 32768 && Nat.beq it.size rq.ro.width then
                match rd1 s [] x with
                | .cel (.row r) =>
                  match s.rows[r]? with
                  | some ro =>
                    match ro.own, ro.ro.append rq.ro with
                    | some e', some rn => bif Nat.beq e e' && !(Nat.beq r q) && Nat.ble Γ.lim r then some ([decide (rn.len ≤ 4294967296)], .one (.cel (.row r)), { s with fr := killFr r s.fr, blks := s.blks.map (List.map (CV.kill r)), rows := s.rows.set r ⟨rn, some e⟩ }) else none
                    | _, _ => none
                  | none => none
                | .cel .nilS => some ([decide (rq.ro.len ≤ 4294967296)], .one (.cel (.row s.rows.length)), { s with rows := s.rows ++ [⟨rq.ro, some e⟩] })
                | _ => none
              else none
            | _, _ => none
          | _, _ => none
        else
          match P.underlying t, P.underlying t', rd1 s [] x, rd1 s [] y with
          | some (.slice e), some (.int _), .cel .nilS, .cel (.int _ n) =>
            match P.info? e, zeroRow P e n.toNat, zeroCs P e with
            | some it, some ro, some zc =>
              match it.zero with
              | some z => bif eqPl (z.cells.toList.map CV.ofVal) zc && Nat.ble 1 it.size && Nat.beq zc.length it.size && Nat.ble it.bytes 32768 then
                  some ([decide (0 < n), Nat.ble n.toNat 4294967296], .one (.cel (.row s.rows.length)), { s with rows := s.rows ++ [⟨ro, some e⟩] }) else none
              | none => none
            | _, _, _ => none
          | _, _, _, _ => none
      | _, _ => none
    | _ => none
  | _ => none

section
variable {P : Program} {Γ : Con} {κ : Ctx} {s s' : St} {a : Act} {w : World} {o : Oper} {ob : List Bool} {v : AV}

def EOk (P : Program) (m : Nat) (κ : Ctx) (s' : St) (a : Act) (w : World) (o : Oper) (v : AV) : Prop :=
  ∀ (K : Act → World → Prop) (Q : Exit → Act → World → Prop), (∀ x κ' w', LeB m κ κ' → Rep P κ' s' a w' → v.Den κ' a.tmps x → (∀ t p y, v ≠ .spec t p y) → K (a.put o.dst x) w') → o.wp P a w K Q

theorem holds_nil (tm : Array Value) : Holds [] tm := fun _ _ h => by cases h

theorem eok_of {m : Nat} {t : TV} {x : Value} {κ' : Ctx} {w' : World} (hrun : (execOp a.eval o).run P w = .ok (.value x) w') (hR : Rep P κ' s' a w') (h0 : LeB m κ κ') (hd : t.Den κ' x) : EOk P m κ s' a w o (.one t) := by
  intro K Q hK
  unfold Oper.wp
  rw [hrun]
  exact hK x κ' w' h0 hR hd (fun _ _ _ => by simp)

theorem Rep.freshRow (hR : Rep P κ s a w) {ro : RowA} {zs : List Value} {E : TypeId} (hd : DenL κ ro.flat zs) (hm : ro.len ≤ maxLen) :
    Rep P (κ.with [.slice (some ⟨w.heap.size, 0, none⟩) ro.len ro.len]) { s with rows := s.rows ++ [⟨ro, some E⟩] } a (w.alloc (.cells zs.toArray E)) ∧ κ.Le (κ.with [.slice (some ⟨w.heap.size, 0, none⟩) ro.len ro.len]) ∧
      (κ.with [.slice (some ⟨w.heap.size, 0, none⟩) ro.len ro.len]).ρ[s.rows.length]? = some (.slice (some ⟨w.heap.size, 0, none⟩) ro.len ro.len) := by
  have hlen : zs.length = ro.len * ro.width := by rw [hd.length, RowA.flat_length]
  have hbel : Below w.heap.size w (w.alloc (.cells zs.toArray E)) := (Below.refl _ _).alloc (Nat.le_refl _) _
  have hown : (w.alloc (.cells zs.toArray E)).ownsRow κ.W0.heap.size E ro.width (.slice (some ⟨w.heap.size, 0, none⟩) ro.len ro.len) ro.len zs :=
    ⟨hlen, .inr ⟨w.heap.size, ro.len, zs.toArray, rfl, hR.below.size, heap_alloc_new w _, Nat.le_refl _, hm, by simpa using hlen, by rw [← hlen]; simp⟩⟩
  obtain ⟨hR2, hle⟩ := (hR.later hbel).addRow (own := some E) (rowOk_of_owns hd hown) (fun _ g hg => by
      simp only [Value.ownBlock, Option.some.injEq] at hg
      subst hg
      exact ⟨fun hm => absurd (hR.blt hm) (Nat.lt_irrefl _), .inl hR.below.size⟩)
    (fun E' hE => by
      simp only [Option.some.injEq] at hE
      subst hE
      refine ⟨⟨zs, hd, hown⟩, fun g hg => ?_⟩
      simp only [Value.ownBlock, Option.some.injEq] at hg
      subst hg
      refine ⟨fun hm => absurd (hR.blt hm) (Nat.lt_irrefl _), fun r' ro' v' h4 h5 h6 h7 => ?_⟩
      rcases h6 with h6 | h6
      · exact absurd ((hR.row r' ro' v' h4 h5).1.lt h6 h7) (Nat.lt_irrefl _)
      · cases hE : ro'.own with
        | none => exact h6 hE
        | some E' =>
          obtain ⟨⟨ys, _, hz⟩, _⟩ := hR.own r' ro' v' E' h4 h5 hE
          exact absurd (owns_lt hz h7).1 (Nat.lt_irrefl _))
    (fun r' ro' v' g h4 h5 h6 h7 _ h8 => by
      simp only [Value.ownBlock, Option.some.injEq] at h8
      subst h8
      cases hE : ro'.own with
      | none => exact h6 hE
      | some E' =>
        obtain ⟨⟨ys, _, hz⟩, _⟩ := hR.own r' ro' v' E' h4 h5 hE
        exact absurd (owns_lt hz h7).1 (Nat.lt_irrefl _))
  refine ⟨hR2, hle, ?_⟩
  show (κ.ρ ++ [_])[s.rows.length]? = _
  rw [← hR.rowN]; simp

theorem e_alloc (hR : Rep P κ s a w) (t : TypeId) (hop : o.op = .alloc t) (h : opE P Γ s o.op = some (ob, v, s')) : EOk P Γ.lim κ s' a w o v := by
  rw [hop] at h
  simp only [opE, forceL_eq] at h
  split at h
  · rename_i it hi
    split at h
    · rename_i z hz
      split at h
      · rename_i n e _
        split at h
        · rename_i ro hro
          cases hc : (eqPl (z.cells.toList.map CV.ofVal) ro.flat && Nat.ble 2 n && Nat.ble n 1000) with
          | false => rw [hc] at h; cases h
          | true =>
            rw [hc, cond_true] at h
            simp only [Option.some.injEq, Prod.mk.injEq] at h
            obtain ⟨-, rfl, rfl⟩ := h
            simp only [Bool.and_eq_true] at hc
            obtain ⟨⟨c1, c2⟩, c3⟩ := hc
            have c1 := eqPl_eq c1
            have c2 := Nat.le_of_ble_eq_true c2
            have c3 := Nat.le_of_ble_eq_true c3
            obtain ⟨zc, -, -, h4, -⟩ := zeroRow_flat hro
            have hd : DenL κ ro.flat z.cells.toList := by rw [← c1]; exact DenL.ofVal κ _
            obtain ⟨hR2, hle, hv⟩ := hR.freshRow (E := t) hd (by unfold maxLen; omega)
            refine eok_of (x := .pointer (some ⟨w.heap.size, 0, none⟩)) ?_ hR2 (hle.toB _) ⟨w.heap.size, 0, ro.len, ro.len, hv, by simp, by omega, by omega⟩
            simp [execOp, hop, Instr.alloc, zeroValue, typeInfo, hi, hz, newVar, newRow]
        · cases h
      · simp only [Option.some.injEq, Prod.mk.injEq] at h
        obtain ⟨-, rfl, rfl⟩ := h
        obtain ⟨h2, h3⟩ := hR.newBlk (cs := z.cells.toList.map CV.ofVal) (xs := z.cells.toList) t (DenL.ofVal κ _)
        refine eok_of (x := .pointer (some ⟨w.heap.size, 0, none⟩)) ?_ h2 (h3.toB _) ⟨w.heap.size, ?_, rfl⟩
        · simp [execOp, hop, Instr.alloc, zeroValue, typeInfo, hi, hz, newVar, newRow]
        · show (κ.β ++ [w.heap.size])[s.blks.length]? = _
          rw [← hR.blkN]; simp
    · cases h
  · cases h

theorem e_box (hR : Rep P κ s a w) (t : TypeId) (x : Operand) (hop : o.op = .box t x) (h : opE P Γ s o.op = some (ob, v, s')) : EOk P Γ.lim κ s' a w o v := by
  rw [hop] at h
  simp only [opE, TV.force_eq] at h
  cases hs : (rd1 s [] x).solid with
  | false => rw [hs] at h; cases h
  | true =>
    rw [hs, cond_true] at h
    simp only [Option.some.injEq, Prod.mk.injEq] at h
    obtain ⟨-, rfl, rfl⟩ := h
    have hd := TV.cells_den (rd1_den hR (holds_nil _) x) hs
    obtain ⟨h2, h3⟩ := hR.newBlk t hd
    refine eok_of (x := .pointer (some ⟨w.heap.size, 0, none⟩)) ?_ h2 (h3.toB _) ⟨w.heap.size, ?_, rfl⟩
    · simp [execOp, hop, Instr.box, newVar, newRow]
    · show (κ.β ++ [w.heap.size])[s.blks.length]? = _
      rw [← hR.blkN]; simp

theorem setCells_heap (b : Nat) : ∀ (vs : List Value) (o : Nat) (w : World) (xs : List Value) (T : TypeId), w.heap[b]? = some (.cells xs.toArray T (0, 0)) →
    (w.setCells b o vs).heap[b]? = some (.cells ((vs.zipIdx).foldl (fun acc (p : Value × Nat) => acc.set (o + p.2) p.1) xs).toArray T (0, 0))
  | [], _, _, _, _, h => h
  | v :: r, o, w, xs, T, h => by
    have h1 : (w.setCell ⟨b, o, none⟩ v).heap[b]? = some (.cells (xs.set o v).toArray T (0, 0)) := by
      simp [World.setCell, Array.getElem?_modify, h]
    have := setCells_heap b r (o + 1) _ _ T h1
    rw [World.setCells, this]
    rw [List.zipIdx_cons, List.foldl_cons, Nat.zero_add]
    have e : ∀ (l : List Value) (k : Nat) (zs : List Value), (l.zipIdx (k + 1)).foldl (fun acc (p : Value × Nat) => acc.set (o + p.2) p.1) zs = (l.zipIdx k).foldl (fun acc (p : Value × Nat) => acc.set (o + 1 + p.2) p.1) zs := by
      intro l
      induction l with
      | nil => intro k zs; rfl
      | cons y r ih => intro k zs; rw [List.zipIdx_cons, List.zipIdx_cons, List.foldl_cons, List.foldl_cons, ih]; rw [show o + (k + 1) = o + 1 + k by omega]
    rw [e]
    rfl
theorem setCells_other (b : Nat) : ∀ (vs : List Value) (o : Nat) (w : World), (∀ k, k ≠ b → (w.setCells b o vs).heap[k]? = w.heap[k]?) ∧ (w.setCells b o vs).heap.size = w.heap.size ∧ (w.setCells b o vs).os = w.os ∧ (w.setCells b o vs).tape = w.tape ∧ (w.setCells b o vs).output = w.output
  | [], _, _ => ⟨fun _ _ => rfl, rfl, rfl, rfl, rfl⟩
  | v :: r, o, w => by
    obtain ⟨h1, h2, h3, h4, h5⟩ := setCells_other b r (o + 1) (w.setCell ⟨b, o, none⟩ v)
    refine ⟨fun k hk => ?_, ?_, h3, h4, h5⟩
    · rw [World.setCells, h1 k hk]; exact Below.heap_setCell _ _ _ _ hk
    · rw [World.setCells, h2]; simp [World.setCell]

theorem den_one' {l : List CV} (hp : ∀ c ∈ l, c.real = true) {xs : List Value} (hd : DenL κ l xs) : ∀ u ∈ xs, u.oneCell' = true := by
  intro u hu
  obtain ⟨j, hj⟩ := List.getElem?_of_mem hu
  have hlt : j < l.length := by
    have := (List.getElem?_eq_some_iff.1 hj).1
    rw [hd.length] at this; exact this
  obtain ⟨u', hu1, hu2⟩ := hd.get j _ (List.getElem?_eq_getElem hlt)
  rw [hj] at hu1
  simp only [Option.some.injEq] at hu1
  subst hu1
  exact hu2.one (hp _ (List.getElem_mem hlt))
theorem foldl_shift (o : Nat) : ∀ (l : List Value) (k : Nat) (zs : List Value), (l.zipIdx (k + 1)).foldl (fun acc (p : Value × Nat) => acc.set (o + p.2) p.1) zs = (l.zipIdx k).foldl (fun acc (p : Value × Nat) => acc.set (o + 1 + p.2) p.1) zs
  | [], _, _ => rfl
  | y :: r, k, zs => by rw [List.zipIdx_cons, List.zipIdx_cons, List.foldl_cons, List.foldl_cons, foldl_shift o r]; rw [show o + (k + 1) = o + 1 + k by omega]
theorem ownsRow_setCells {base : Nat} {E : TypeId} {size n cap g : Nat} : ∀ {a : List Value} {o : Nat} {w : World} {xs : List Value}, w.ownsRow base E size (.slice (some ⟨g, 0, none⟩) n cap) n xs →
    (w.setCells g o a).ownsRow base E size (.slice (some ⟨g, 0, none⟩) n cap) n ((a.zipIdx).foldl (fun acc (p : Value × Nat) => acc.set (o + p.2) p.1) xs) ∧ w.grownBy (w.setCells g o a) (some g)
  | [], o, w, xs, h => ⟨h, ⟨rfl, rfl, rfl, Nat.le_refl _, fun _ _ _ => rfl⟩⟩
  | v :: r, o, w, xs, h => by
    obtain ⟨h1, h2⟩ := h.stored o v
    obtain ⟨h3, h4⟩ := ownsRow_setCells (a := r) (o := o + 1) h1
    rw [List.zipIdx_cons, List.foldl_cons, Nat.zero_add, foldl_shift]
    refine ⟨h3, ⟨h4.os.trans h2.os, h4.tape.trans h2.tape, h4.output.trans h2.output, Nat.le_trans h2.size h4.size, fun k hk hne => ?_⟩⟩
    rw [World.setCells, h4.block k (Nat.lt_of_lt_of_le hk h2.size) hne, h2.block k hk hne]
theorem split_mid {l C : List CV} {p : Nat} (h : ∀ j c, C[j]? = some c → l[p + j]? = some c) (hl : p + C.length ≤ l.length) : l = l.take p ++ C ++ l.drop (p + C.length) := by
  have e : C = (l.drop p).take C.length := by
    apply List.ext_getElem?
    intro j
    rw [List.getElem?_take, List.getElem?_drop]
    by_cases hj : j < C.length
    · rw [if_pos hj, List.getElem?_eq_getElem hj, h j _ (List.getElem?_eq_getElem hj)]
    · rw [if_neg hj, List.getElem?_eq_none (by omega)]
  conv => lhs; rw [← List.take_append_drop p l, ← List.take_append_drop C.length (l.drop p), ← e, List.drop_drop]
  rw [List.append_assoc]
theorem setAt_mid {A B : List CV} : ∀ (l C : List CV) (off : Nat), off + l.length ≤ C.length → setAt (A ++ C ++ B) (A.length + off) l = A ++ setAt C off l ++ B
  | [], _, _, _ => rfl
  | x :: r, C, off, h => by
    rw [setAt, setAt, Nat.add_assoc, ← setAt_mid r (C.set off x) (off + 1) (by simp at h ⊢; omega)]
    congr 1
    simp only [List.length_cons] at h
    rw [List.append_assoc, List.set_append_right _ _ (by omega), Nat.add_sub_cancel_left, List.set_append_left _ _ (by omega), List.append_assoc]

theorem e_store (hR : Rep P κ s a w) (t : TypeId) (x y : Operand) (hop : o.op = .store t x y) (h : opE P Γ s o.op = some (ob, v, s')) (hset : ∀ {r : Nat} {ro rn : RowA} {E : TypeId} {v : Value} {w' : World} {xs' : List Value}, s.rows[r]? = some ⟨ro, some E⟩ → κ.ρ[r]? = some v → DenL κ rn.flat xs' → w'.ownsRow κ.W0.heap.size E rn.width v rn.len xs' → w.grownBy w' v.ownBlock → Rep P κ { s with rows := s.rows.set r ⟨rn, some E⟩ } a w') : EOk P Γ.lim κ s' a w o v := by
  rw [hop] at h
  simp only [opE, TV.force_eq, forceL_eq] at h
  have hx := rd1_den hR (holds_nil _) x
  have hy := rd1_den hR (holds_nil _) y
  split at h
  · rename_i i off it h1 hi
    rw [h1] at hx
    obtain ⟨b, hb, hx⟩ := hx
    split at h
    · rename_i cs hcs
      cases hc : ((rd1 s [] y).solid && (rd1 s [] y).cells.all CV.real && Nat.beq (rd1 s [] y).cells.length it.size && Nat.ble (off + (rd1 s [] y).cells.length) cs.length && Nat.ble s.ro i) with
      | false => rw [hc] at h; cases h
      | true =>
        rw [hc, cond_true] at h
        simp only [Option.some.injEq, Prod.mk.injEq] at h
        obtain ⟨-, rfl, rfl⟩ := h
        simp only [Bool.and_eq_true] at hc
        obtain ⟨⟨⟨⟨h2, h3⟩, h4⟩, h5⟩, hro⟩ := hc
        have hro := Nat.le_of_ble_eq_true hro
        have h4 := Nat.eq_of_beq_eq_true h4
        have h5 := Nat.le_of_ble_eq_true h5
        have hd := TV.cells_den hy h2
        obtain ⟨xs, T, h6, h7⟩ := hR.blk i cs b hcs hb
        have hl := hd.length
        have hl2 := h7.length
        have hone : ∀ u ∈ (a.eval y).cells.toList, u.oneCell' = true := by
          intro u hu
          obtain ⟨j, hj⟩ := List.getElem?_of_mem hu
          have hlt : j < (rd1 s [] y).cells.length := by
            have := (List.getElem?_eq_some_iff.1 hj).1
            omega
          obtain ⟨u', hu1, hu2⟩ := hd.get j _ (List.getElem?_eq_getElem hlt)
          rw [hj] at hu1
          simp only [Option.some.injEq] at hu1
          subst hu1
          exact hu2.one (List.all_eq_true.1 h3 _ (List.getElem_mem hlt))
        have hcell : ∀ j, j < (a.eval y).cells.toList.length → (w.cell? ⟨b, off + 0 + j, none⟩).isSome = true := by
          intro j hj
          rw [cell_of_row w b _ _ T (0, 0) h6]
          simp; omega
        have hfr : ∀ j, j < (a.eval y).cells.toList.length → w.frozen? ⟨b, off + 0 + j, none⟩ = false := by
          intro j hj
          simp [World.frozen?, h6]
        have hst := run_storeCells_cells (P := P) b off (a.eval y).cells.toList 0 w hcell hfr hone
        rw [Nat.add_zero] at hst
        obtain ⟨k1, k2, k3, k4, k5⟩ := setCells_other b (a.eval y).cells.toList off w
        have hR2 := hR.setBlk (i := i) hro (List.getElem?_eq_some_iff.1 hcs).1 hb (setAt_den off h7 hd) (setCells_heap b _ off w xs T h6) k1 k2 k3 k4 k5
        intro K Q hK
        unfold Oper.wp
        have hrun : (execOp a.eval o).run P w = .ok .skip (w.setCells b off (a.eval y).cells.toList) := by
          have hsz : (a.eval y).cells.size = it.size := by rw [← Array.length_toList]; omega
          simp [execOp, hop, hx, Instr.storeAt, Instr.sureAddr, storeVar, sizeOf, typeInfo, hi, hsz, hst]
        rw [hrun]
        exact hK undef κ _ (LeB.refl _ _) hR2 trivial (fun _ _ _ => by simp)
    · cases h
  · rename_i r i c off it h1 hi
    rw [h1] at hx
    obtain ⟨b, o0, m, cap, hρ, hx, hx0, hx1⟩ := hx
    split at h
    · rename_i ro hro
      split at h
      · rename_i E rn hown hput
        cases hc : ((rd1 s [] y).solid && (rd1 s [] y).cells.all CV.real && Nat.beq (rd1 s [] y).cells.length it.size && Nat.beq c ro.ro.width && Nat.ble (off + (rd1 s [] y).cells.length) c) with
        | false => rw [hc] at h; cases h
        | true =>
          rw [hc, cond_true] at h
          simp only [Option.some.injEq, Prod.mk.injEq] at h
          obtain ⟨-, rfl, rfl⟩ := h
          simp only [Bool.and_eq_true] at hc
          obtain ⟨⟨⟨⟨h2, h3⟩, h4⟩, h4'⟩, h5⟩ := hc
          have h4 := Nat.eq_of_beq_eq_true h4
          have h4' := Nat.eq_of_beq_eq_true h4'
          have h5 := Nat.le_of_ble_eq_true h5
          subst h4'
          have hd := TV.cells_den hy h2
          obtain ⟨⟨xs, hdx, hows⟩, -⟩ := hR.own r ro _ E hro hρ hown
          have hl := hd.length
          have hone := den_one' (List.all_eq_true.1 h3) hd
          obtain ⟨g, hg1, hg2⟩ : o0 = 0 ∧ ro.ro.len = m ∧ ro.ro.len ≤ cap := by
            rcases hows.2 with ⟨h6, _⟩ | ⟨g, cap', cur, h6, _, _, h7, _⟩
            · cases h6
            · simp only [Value.slice.injEq, Option.some.injEq, Addr.mk.injEq, and_true] at h6
              exact ⟨h6.1.2, h6.2.1.symm, by omega⟩
          subst g hg1
          have hit : i.toNat < ro.ro.len := by omega
          obtain ⟨p1, p2⟩ := RowA.put_flat hit hput
          obtain ⟨q1, q2⟩ := RowA.put_len hput
          have hsz : i.toNat * ro.ro.width + ro.ro.width ≤ ro.ro.len * ro.ro.width := by
            rw [← Nat.succ_mul]; exact Nat.mul_le_mul_right _ hit
          obtain ⟨k1, k2⟩ := ownsRow_setCells (a := (a.eval y).cells.toList) (o := i.toNat * ro.ro.width + off) hows
          have hfl : rn.flat = setAt ro.ro.flat (i.toNat * ro.ro.width + off) (rd1 s [] y).cells := by
            rw [p1]
            have e1 := split_mid (l := ro.ro.flat) (C := ro.ro.cells i.toNat) (p := i.toNat * ro.ro.width) (fun j c hj => RowA.cells_flat _ _ _ _ hit hj) (by rw [RowA.flat_length, RowA.cells_length]; exact hsz)
            have e2 : (List.take (i.toNat * ro.ro.width) ro.ro.flat).length = i.toNat * ro.ro.width := by rw [List.length_take, RowA.flat_length]; omega
            conv => rhs; rw [e1]
            rw [RowA.cells_length, ← Nat.succ_mul]
            have := setAt_mid (A := List.take (i.toNat * ro.ro.width) ro.ro.flat) (B := List.drop ((i.toNat + 1) * ro.ro.width) ro.ro.flat) (rd1 s [] y).cells (ro.ro.cells i.toNat) off (by rw [RowA.cells_length]; exact h5)
            rw [e2] at this
            exact this.symm
          have hro' : s.rows[r]? = some ⟨ro.ro, some E⟩ := by rw [hro]; congr 1; cases ro; simp only at hown; rw [hown]
          have hR2 := hset (rn := rn) hro' hρ (by rw [hfl]; exact setAt_den _ hdx hd) (by rw [q1, q2]; exact k1) (by simpa [Value.ownBlock] using k2)
          have hcell : ∀ j, j < (a.eval y).cells.toList.length → (w.cell? ⟨b, (i.toNat * ro.ro.width + off) + 0 + j, none⟩).isSome = true := by
            intro j hj
            rw [hows.cellAt _ (by omega), List.getElem?_eq_getElem (by rw [hdx.length, RowA.flat_length]; omega)]; rfl
          have hfr : ∀ j, j < (a.eval y).cells.toList.length → w.frozen? ⟨b, (i.toNat * ro.ro.width + off) + 0 + j, none⟩ = false := fun j _ => hows.frozenAt _
          have hst := run_storeCells_cells (P := P) b (i.toNat * ro.ro.width + off) (a.eval y).cells.toList 0 w hcell hfr hone
          rw [Nat.add_zero] at hst
          intro K Q hK
          unfold Oper.wp
          have hrun : (execOp a.eval o).run P w = .ok .skip (w.setCells b (i.toNat * ro.ro.width + off) (a.eval y).cells.toList) := by
            have hsz : (a.eval y).cells.size = it.size := by rw [← Array.length_toList]; omega
            have hx : a.eval x = .pointer (some ⟨b, i.toNat * ro.ro.width + off, none⟩) := by rw [hx, Nat.zero_add]
            simp [execOp, hop, hx, Instr.storeAt, Instr.sureAddr, storeVar, sizeOf, typeInfo, hi, hsz, hst]
          rw [hrun]
          exact hK undef κ _ (LeB.refl _ _) hR2 trivial (fun _ _ _ => by simp)
      · cases h
    · cases h
  · cases h

theorem Rep.addRows : ∀ (l : List RowA) (vs : List Value) {κ : Ctx} {s : St} {w : World}, Rep P κ s a w → vs.length = l.length →
    (∀ (i : Nat) (ro : RowA) (u : Value), l[i]? = some ro → vs[i]? = some u → RowOk w u ro ∧ (0 < ro.len → ∀ g, u.ownBlock = some g → g ∉ κ.β ∧ (κ.W0.heap.size ≤ g ∨ g ∈ κ.B0) ∧
      ∀ (r' : Nat) (ro' : RowS) (v' : Value), s.rows[r']? = some ro' → κ.ρ[r']? = some v' → ro'.own ≠ none → v'.ownBlock ≠ some g)) →
    Rep P (κ.with vs) { s with rows := s.rows ++ rowsFrom l } a w
  | [], [], κ, s, w, h, _, _ => by simpa [Ctx.with, rowsFrom] using h
  | [], _ :: _, _, _, _, _, h, _ => by simp at h
  | _ :: _, [], _, _, _, _, h, _ => by simp at h
  | ro :: l, u :: vs, κ, s, w, h, hl, hv => by
    obtain ⟨h1, h2⟩ := hv 0 ro u rfl rfl
    obtain ⟨h3, h4⟩ := h.addRow (v := u) (ro := ro) (own := none) h1 (fun hp g hg => ⟨(h2 hp g hg).1, (h2 hp g hg).2.1⟩) (fun E he => by cases he)
      (fun r' ro' v' g h5 h6 h7 h8 h9 h10 => by
        rcases h9 with h9 | h9
        · exact (h2 h9 g h10).2.2 r' ro' v' h5 h6 h7 h8
        · exact h9 rfl)
    have h5 := Rep.addRows l vs h3 (by simpa using hl) (fun i ro' u' h6 h7 => by
      obtain ⟨h8, h9⟩ := hv (i + 1) ro' u' (by simpa using h6) (by simpa using h7)
      refine ⟨h8, fun hp g hg => ?_⟩
      obtain ⟨h10, h11, h12⟩ := h9 hp g hg
      refine ⟨h10, h11, fun r'' ro'' v'' h13 h14 h15 h16 => ?_⟩
      by_cases hi : r'' < s.rows.length
      · rw [List.getElem?_append_left hi] at h13
        simp only [Ctx.with] at h14
        rw [List.getElem?_append_left (by rw [h.rowN]; exact hi)] at h14
        exact h12 r'' ro'' v'' h13 h14 h15 h16
      · rw [List.getElem?_append_right (by omega)] at h13
        have hz : r'' - s.rows.length = 0 := by
          have := (List.getElem?_eq_some_iff.1 h13).1
          simp at this; omega
        rw [hz] at h13
        simp at h13
        subst h13
        exact h15 rfl)
    have e1 : (κ.with [u]).with vs = κ.with (u :: vs) := by simp [Ctx.with]
    have e2 : ({ s with rows := s.rows ++ [⟨ro, none⟩] ++ rowsFrom l } : St) = { s with rows := s.rows ++ rowsFrom (ro :: l) } := by simp [rowsFrom]
    rw [e1] at h5
    rw [← e2]
    exact h5

/-- Behind a call: its slices. -/
theorem call_rows (hR : Rep P κ s a w) {ms : List Nat} {rr : List RowA} {ρ' : List Value} {w1 : World} (hb : Below w.heap.size w w1) (hl : ρ'.length = rr.length)
    (hrows : ∀ (i : Nat) (ro : RowA) (v : Value), rr[i]? = some ro → ρ'[i]? = some v → RowOk w1 v ro ∧ ∀ g, 0 < ro.len → v.ownBlock = some g → w.heap.size ≤ g ∨ ∃ (r : Nat) (ro' : RowS) (u : Value), r ∈ ms ∧ s.rows[r]? = some ro' ∧ 0 < ro'.ro.len ∧ κ.ρ[r]? = some u ∧ u.ownBlock = some g) :
    Rep P (κ.with ρ') { s with rows := demote ms 0 s.rows ++ rowsFrom rr } a w1 := by
  have hR1 := (hR.later hb).demote (ms)
  exact Rep.addRows rr ρ' hR1 hl (fun i ro u h2 h3 => by
    obtain ⟨h4, h5⟩ := hrows i ro u h2 h3
    refine ⟨h4, fun hp g' hg' => ?_⟩
    have hold : ∀ (r' : Nat) (ro' : RowS) (v' : Value), (demote (ms) 0 s.rows)[r']? = some ro' → κ.ρ[r']? = some v' → ro'.own ≠ none → ∃ (ro0 : RowS) (E : TypeId), s.rows[r']? = some ro0 ∧ ro0.own = some E ∧ r' ∉ ms := by
      intro r' ro' v' h6 h7 h8
      obtain ⟨ro0, h9, h10, h11⟩ := demote_of h6
      obtain ⟨h12, h13⟩ := h11 h8
      rw [h12] at h8
      cases hE : ro0.own with
      | none => exact absurd hE h8
      | some E => exact ⟨ro0, E, h9, hE, h13⟩
    rcases h5 g' hp hg' with h6 | ⟨r0, ro0, u0, h6, h60, h61, h7, h8⟩
    · refine ⟨fun hm => absurd (hR.blt hm) (by omega), .inl (Nat.le_trans hR.below.size h6), fun r' ro' v' h9 h10 h11 h12 => ?_⟩
      obtain ⟨ro1, E, h13, h14, _⟩ := hold r' ro' v' h9 h10 h11
      obtain ⟨⟨ys, _, hz⟩, _⟩ := hR.own r' ro1 v' E h13 h10 h14
      have := (owns_lt hz h12).1
      omega
    · obtain ⟨h62, h63⟩ := (hR.row r0 ro0 u0 h60 h7).2 h61 g' h8
      refine ⟨h62, h63, fun r' ro' v' h9 h10 h11 h12 => ?_⟩
      obtain ⟨ro1, E, h13, h14, h15⟩ := hold r' ro' v' h9 h10 h11
      obtain ⟨_, h16⟩ := hR.own r' ro1 v' E h13 h10 h14
      exact (h16 g' h12).2 r0 ro0 u0 (fun e => h15 (e ▸ h6)) h60 h7 (.inl h61) h8)

theorem e_call (hΓ : SoundG P Γ) (hR : Rep P κ s a w) (args : List Operand) (tys : Array TypeId) (f : Operand) (hop : o.op = .call ⟨.value f, ⟨args⟩, tys⟩) (h : opE P Γ s o.op = some (ob, v, s')) (ho : AllB ob) : EOk P Γ.lim κ s' a w o v := by
  rw [hop] at h
  simp only [opE, forceT_eq] at h
  split at h
  · rename_i g args' hfa
    obtain ⟨cs, hf, hargs⟩ := fargs_den hR (holds_nil _) hfa
    obtain ⟨caps, hcaps⟩ : ∃ caps, gath s.blks args' = some caps := by
      cases hq : gath s.blks args' with
      | none => rw [hq] at h; cases h
      | some c => exact ⟨c, rfl⟩
    rw [hcaps] at h
    simp only at h
    split at h
    · rename_i r hr
      rw [AV.force_eq] at h
      simp only [Option.some.injEq, Prod.mk.injEq] at h
      obtain ⟨rfl, rfl, rfl⟩ := h
      obtain ⟨hcf, hc⟩ := hΓ.con g _ _ _ r hr ho κ w _ (hR.memOk hcaps) hargs
      intro K Q hK
      unfold Oper.wp
      have hrun : (execOp a.eval o).run P w = .ok (.enter g (args.map a.eval ++ cs).toArray) w := by
        simp [execOp, hop, resolve, Deferred.ofValue, hf, invoke, hcf]
      rw [hrun, Oper.upon_enter]
      refine hc.mono fun e w1 hpost => ?_
      obtain ⟨x, ρ', rfl, hb, hd, hns, hl, hrows⟩ := hpost
      have hR2 := call_rows hR hb hl hrows
      refine hK x (κ.with ρ') w1 ⟨rfl, rfl, fun _ _ h => h, fun i v hi hv => by show (κ.ρ ++ ρ')[i]? = _; rw [List.getElem?_append_left (List.getElem?_eq_some_iff.1 hv).1]; exact hv⟩ hR2 ?_ hns
      cases hv : r.val with
      | one t => rw [hv] at hd; exact hd
      | tup l => rw [hv] at hd; exact hd
      | spec t p y => exact absurd hv (hns t p y)
    · cases h
  · cases h

end
end Go.Proofs.Ythfliohfkhnpiaa
