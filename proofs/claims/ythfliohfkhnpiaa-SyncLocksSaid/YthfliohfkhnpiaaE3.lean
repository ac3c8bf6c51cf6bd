/- The operations that leave memory alone do on the machine what they do on states. No program in sight. -/
import Derived.Test.YthfliohfkhnpiaaE2
namespace Go.Proofs.Ythfliohfkhnpiaa
set_option linter.unusedVariables false
set_option linter.unusedSimpArgs false
open Go.RowKit

def QStep (P : Program) (o : Oper) (a : Act) (w : World) (x : Value) : Prop :=
  (execOp a.eval o).run P w = .ok (.value x) w ∨ ∃ f vs, (execOp a.eval o).run P w = .ok (.enter f vs) w ∧ Calls P f vs w (fun e w'' => e = .returned x ∧ Below w.heap.size w w'')

theorem denL_of {κ : Ctx} {C : Nat → Value → Prop} : ∀ (cs : List CV) (k : Nat), (∀ j c, cs[j]? = some c → ∃ x, C (k + j) x ∧ c.Den κ x) → ∃ xs, DenL κ cs xs ∧ ∀ j y, xs[j]? = some y → C (k + j) y
  | [], _, _ => ⟨[], trivial, fun j y h => by simp at h⟩
  | c :: r, k, h => by
    obtain ⟨x, h1, h2⟩ := h 0 c rfl
    obtain ⟨xs, h3, h4⟩ := denL_of r (k + 1) (fun j c' hj => by
      have := h (j + 1) c' (by simpa using hj)
      rw [show k + 1 + j = k + (j + 1) by omega]; exact this)
    refine ⟨x :: xs, ⟨h2, h3⟩, fun j y hj => ?_⟩
    cases j with
    | zero => simp at hj; subst hj; exact h1
    | succ j => rw [show k + (j + 1) = k + 1 + j by omega]; exact h4 j y (by simpa using hj)

theorem ldc_run {P : Program} {κ : Ctx} {t : TypeId} {cs : List CV} {off : Nat} {tv : TV} {b o : Nat} {xs : List Value} (hd : DenL κ cs xs) (h : ldc P t cs off = some tv) :
    ∃ x, tv.Den κ x ∧ ∀ w' : World, (∀ j y, xs[j]? = some y → w'.cell? ⟨b, o + j, none⟩ = some y) → (Instr.loadAt t (.pointer (some ⟨b, o + off, none⟩))).run P w' = .ok x w' := by
  unfold ldc at h
  cases hu : P.underlying t with
  | none => simp [hu] at h
  | some d =>
    simp only [hu] at h
    cases hr : d.isRow with
    | true =>
      rw [hr, cond_true] at h
      cases hi : P.info? t with
      | none => simp [hi] at h
      | some i =>
        simp only [hi] at h
        cases hb : Nat.ble (off + i.size) cs.length with
        | false => rw [hb] at h; simp at h
        | true =>
          rw [hb, cond_true] at h
          simp only [Option.some.injEq] at h
          subst h
          have hlen := Nat.le_of_ble_eq_true hb
          have hl := hd.length
          refine ⟨.agg ((xs.drop off).take i.size).toArray, ⟨_, rfl, (hd.drop off).take i.size⟩, fun w' hc => ?_⟩
          refine run_loadAt_mid w' b (o + off) t _ d (fun j v hj => ?_) hu hr ?_
          · rw [List.getElem?_take] at hj
            split at hj
            · rw [List.getElem?_drop] at hj
              have := hc (off + j) v hj
              rwa [← Nat.add_assoc] at this
            · cases hj
          · simp [hi]; omega
    | false =>
      rw [hr, cond_false] at h
      simp only [Option.map_eq_some_iff] at h
      obtain ⟨c, hc, rfl⟩ := h
      obtain ⟨x, hx, hden⟩ := hd.get off c hc
      refine ⟨x, hden, fun w' hcell => ?_⟩
      have hagg : (isAgg t).run P w' = .ok false w' := by
        unfold isAgg
        rw [Sem.run_bind, run_underlying hu w']
        cases d <;> simp_all
      simp [Instr.loadAt, Instr.sureAddr, loadVar, hagg, hcell off x hx]

theorem blk_cells {P : Program} {κ : Ctx} {s : St} {a : Act} {w : World} (hR : Rep P κ s a w) {i b : Nat} {cs : List CV} (hcs : s.blks[i]? = some cs) (hb : κ.β[i]? = some b) :
    ∃ xs : List Value, DenL κ cs xs ∧ ∀ w' : World, Below w.heap.size w w' → ∀ j y, xs[j]? = some y → w'.cell? ⟨b, 0 + j, none⟩ = some y := by
  obtain ⟨xs, T, h1, h2⟩ := hR.blk i cs b hcs hb
  have hlt : b < w.heap.size := by
    rcases Nat.lt_or_ge b w.heap.size with g | g
    · exact g
    · rw [Array.getElem?_eq_none g] at h1; cases h1
  refine ⟨xs, h2, fun w' hbel j y hy => ?_⟩
  rw [Nat.zero_add, hbel.cell (p := ⟨b, j, none⟩) hlt, cell_of_row w b j _ T (0, 0) h1]
  simpa using hy

theorem row_cells {P : Program} {κ : Ctx} {s : St} {a : Act} {w : World} (hR : Rep P κ s a w) {r b o n cap i : Nat} {ro : RowS} (hro : s.rows[r]? = some ro) (hv : κ.ρ[r]? = some (.slice (some ⟨b, o, none⟩) n cap)) (hi : i < n) :
    ∃ xs : List Value, DenL κ (ro.ro.cells i) xs ∧ ∀ w' : World, Below w.heap.size w w' → ∀ j y, xs[j]? = some y → w'.cell? ⟨b, o + i * ro.ro.width + j, none⟩ = some y := by
  obtain ⟨a', c', h1, h2, h3, h4⟩ := (hR.row r ro _ hro hv).1
  simp only [Value.slice.injEq] at h1
  obtain ⟨rfl, hn, rfl⟩ := h1
  obtain ⟨b', off', h5, h6, h7⟩ := h4 (by omega)
  simp only [Option.some.injEq, Addr.mk.injEq, and_true] at h5
  obtain ⟨rfl, rfl⟩ := h5
  obtain ⟨xs, h8, h9⟩ := denL_of (κ := κ) (C := fun j x => w.cell? ⟨b, o + i * ro.ro.width + j, none⟩ = some x) (ro.ro.cells i) 0 (fun j c hc => by
    obtain ⟨x, hx, hd⟩ := h7 i (by omega) j c hc
    exact ⟨x, by simpa using hx, hd κ⟩)
  refine ⟨xs, h8, fun w' hbel j y hy => ?_⟩
  have := h9 j y hy
  rw [Nat.zero_add] at this
  rw [hbel.cell (p := ⟨b, _, none⟩) h6]; exact this

theorem eqF_run {P : Program} {κ : Ctx} {d : Nat} {xs ys : List CV} {us vs : List Value} (hx : DenL κ xs us) (hy : DenL κ ys vs) (w : World) : ∀ (fs : List Field) (b : Bool), eqF P xs ys fs = some b →
    (Op.eqFields (d + 1) us.toArray vs.toArray fs).run P w = .ok b w
  | [], b, h => by simp [eqF] at h; subst h; rfl
  | f :: r, b, h => by
    simp only [eqF] at h
    cases hn : (f.name == "_") with
    | true => rw [hn] at h; simp at h
    | false =>
      rw [hn, cond_false] at h
      have hne : f.name ≠ "_" := by simpa using hn
      split at h
      · rename_i k a k' b' kk h1 h2 h3
        obtain ⟨x, hx1, hx2⟩ := hx.get _ _ h1
        obtain ⟨y, hy1, hy2⟩ := hy.get _ _ h2
        simp only [CV.Den] at hx2 hy2
        subst hx2 hy2
        split at h
        · rename_i hk
          subst hk
          simp only [Option.map_eq_some_iff] at h
          obtain ⟨b1, h4, h5⟩ := h
          have ih := eqF_run (d := d) hx hy w r b1 h4
          have hagg : (isAgg f.type).run P w = .ok false w := by unfold isAgg; rw [Sem.run_bind, run_underlying h3 w]; rfl
          rw [Op.eqFields, if_pos hne]
          simp only [Sem.run_bind, part, hagg, Result.andThen_ok, Bool.false_eq_true, if_false, List.getElem?_toArray, hx1, hy1, Sem.run_pure, run_equalIn_int w d f.type k kk a b' h3]
          by_cases e : a = b'
          · subst e; simp at h5; subst h5; simp [ih]
          · simp [e] at h5; subst h5
            have : (a == b') = false := by simpa using e
            simp [this]
        · cases h
      · rename_i a b' h1 h2 h3
        obtain ⟨x, hx1, hx2⟩ := hx.get _ _ h1
        obtain ⟨y, hy1, hy2⟩ := hy.get _ _ h2
        simp only [CV.Den] at hx2 hy2
        subst hx2 hy2
        simp only [Option.map_eq_some_iff] at h
        obtain ⟨b1, h4, h5⟩ := h
        have ih := eqF_run (d := d) hx hy w r b1 h4
        have hagg : (isAgg f.type).run P w = .ok false w := by unfold isAgg; rw [Sem.run_bind, run_underlying h3 w]; rfl
        rw [Op.eqFields, if_pos hne]
        simp only [Sem.run_bind, part, hagg, Result.andThen_ok, Bool.false_eq_true, if_false, List.getElem?_toArray, hx1, hy1, Sem.run_pure, run_equalIn_bool' w d f.type a b' h3]
        by_cases e : a = b'
        · subst e; simp at h5; subst h5; simp [ih]
        · have : (a == b') = false := by simpa using e
          rw [this] at h5 ⊢
          simp at h5; subst h5
          simp
      · cases h

theorem setAt_den {κ : Ctx} : ∀ {l : List CV} {xs : List Value} {cs : List CV} {ys : List Value} (o : Nat), DenL κ cs ys → DenL κ l xs →
    DenL κ (setAt cs o l) ((xs.zipIdx).foldl (fun acc (p : Value × Nat) => acc.set (o + p.2) p.1) ys)
  | [], [], _, _, _, h, _ => h
  | [], _ :: _, _, _, _, _, h => h.elim
  | _ :: _, [], _, _, _, _, h => h.elim
  | c :: l, x :: xs, cs, ys, o, h, hl => by
    have := setAt_den (o + 1) (h.set (n := o) hl.1) hl.2
    rw [setAt]
    rw [List.zipIdx_cons, List.foldl_cons, Nat.zero_add]
    have e : ∀ (l : List Value) (k : Nat) (zs : List Value), (l.zipIdx (k + 1)).foldl (fun acc (p : Value × Nat) => acc.set (o + p.2) p.1) zs = (l.zipIdx k).foldl (fun acc (p : Value × Nat) => acc.set (o + 1 + p.2) p.1) zs := by
      intro l
      induction l with
      | nil => intro k zs; rfl
      | cons y r ih => intro k zs; rw [List.zipIdx_cons, List.zipIdx_cons, List.foldl_cons, List.foldl_cons, ih]; rw [show o + (k + 1) = o + 1 + k by omega]
    rw [e]
    exact this
theorem setAt_length : ∀ (l cs : List CV) (o : Nat), (setAt cs o l).length = cs.length
  | [], _, _ => rfl
  | c :: l, cs, o => by rw [setAt, setAt_length l]; simp

theorem foldl_set_toArray (l : List (Value × Nat)) (o : Nat) : ∀ (ys : List Value), l.foldl (fun (cs : Array Value) (p : Value × Nat) => cs.setIfInBounds (o + p.2) p.1) ys.toArray = (l.foldl (fun acc p => acc.set (o + p.2) p.1) ys).toArray := by
  induction l with
  | nil => intro ys; rfl
  | cons p r ih => intro ys; rw [List.foldl_cons, List.foldl_cons, ← ih]; simp

theorem CV.Den.one {κ : Ctx} {c : CV} {x : Value} (h : c.Den κ x) (hr : c.real = true) : x.oneCell' = true := by
  cases c with
  | int k n => simp only [CV.Den] at h; subst h; rfl
  | bool b => simp only [CV.Den] at h; subst h; rfl
  | ptr i off => obtain ⟨b, _, rfl⟩ := h; rfl
  | row r => obtain ⟨_, a, n, c, rfl⟩ := h; rfl
  | elt r i c off => obtain ⟨b, o, n, cap, _, rfl, _⟩ := h; rfl
  | nilS => simp only [CV.Den] at h; subst h; rfl
  | fn f => simp only [CV.Den] at h; subst h; rfl
  | clo f caps => obtain ⟨bs, _, rfl⟩ := h; rfl
  | bsl i n => obtain ⟨b, _, rfl⟩ := h; rfl
  | junk => cases hr
theorem TV.cells_den {κ : Ctx} {t : TV} {x : Value} (h : t.Den κ x) (hr : t.solid = true) : DenL κ t.cells x.cells.toList := by
  cases t with
  | agg l => obtain ⟨xs, rfl, h2⟩ := h; simpa [TV.cells, Value.cells] using h2
  | cel c =>
    have h1 := CV.Den.one h hr
    cases x <;> simp [Value.oneCell'] at h1 <;> exact ⟨h, trivial⟩

theorem fillE_run {κ : Ctx} {pl : List (Nat × Nat)} {place : Nat → Option (Nat × Nat)} (hpl : ∀ (i : Nat) (p : Nat × Nat), pl[i]? = some p → place i = some p) :
    ∀ (l : List (Nat × TV)) (vs : List (Nat × Value)) (cs cs' : List CV) (ys : List Value), fillE pl cs l = some cs' → DenL κ cs ys → (l.length = vs.length ∧ ∀ (j : Nat) (p : Nat × TV) (q : Nat × Value), l[j]? = some p → vs[j]? = some q → p.1 = q.1 ∧ p.2.Den κ q.2) →
    ∃ zs : List Value, Instr.fill place ys.toArray vs = some zs.toArray ∧ DenL κ cs' zs
  | [], [], cs, cs', ys, h, hd, _ => by simp [fillE] at h; subst h; exact ⟨ys, rfl, hd⟩
  | [], _ :: _, _, _, _, _, _, hv => by simp at hv
  | _ :: _, [], _, _, _, _, _, hv => by simp at hv
  | (i, t) :: l, (i', x) :: vs, cs, cs', ys, h, hd, hv => by
    obtain ⟨e, ht⟩ := hv.2 0 (i, t) (i', x) rfl rfl
    simp only at e ht
    subst e
    simp only [fillE] at h
    cases hf : pl[i]? with
    | none => simp [hf] at h
    | some f =>
      obtain ⟨off, size⟩ := f
      simp only [hf] at h
      cases hb : (t.solid && Nat.beq t.cells.length size && Nat.ble (off + t.cells.length) cs.length) with
      | false => rw [hb] at h; simp at h
      | true =>
        rw [hb, cond_true] at h
        simp only [Bool.and_eq_true] at hb
        obtain ⟨⟨h1, h2⟩, h3⟩ := hb
        have h2 := Nat.eq_of_beq_eq_true h2
        have h3 := Nat.le_of_ble_eq_true h3
        have hc := TV.cells_den ht h1
        have hcl := hc.length
        have hdl := hd.length
        obtain ⟨zs, h4, h5⟩ := fillE_run hpl l vs _ cs' _ h (setAt_den off hd hc) ⟨by simpa using hv.1, fun j p q hp hq => hv.2 (j + 1) p q (by simpa using hp) (by simpa using hq)⟩
        refine ⟨zs, ?_, h5⟩
        rw [Instr.fill, hpl i _ hf]
        simp only
        rw [if_neg]
        · rw [← h4, ← foldl_set_toArray]
          congr 1
          rw [← Array.foldl_toList]
          simp
        · simp only [Bool.or_eq_true, decide_eq_true_eq]
          rw [← Array.length_toList]
          simp only [ne_eq, Array.length_toList] at *
          simp
          omega

end Go.Proofs.Ythfliohfkhnpiaa
