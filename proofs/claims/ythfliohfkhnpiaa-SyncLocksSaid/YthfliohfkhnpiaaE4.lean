/- The operations that leave memory alone: the machine does what the states do. No program in sight. -/
import Derived.Test.YthfliohfkhnpiaaE3
namespace Go.Proofs.Ythfliohfkhnpiaa
set_option linter.unusedVariables false
set_option linter.unusedSimpArgs false
open Go.RowKit

section
variable {P : Program} {Γ : Con} {κ : Ctx} {s : St} {a : Act} {w : World} {gp : List (Nat × Bool)} {o : Oper} {ob : List Bool} {v : AV}

def QOk (P : Program) (κ : Ctx) (a : Act) (w : World) (o : Oper) (v : AV) : Prop := ∃ x, v.Den κ a.tmps x ∧ (∀ t p y, v ≠ .spec t p y) ∧ ∀ w', Below w.heap.size w w' → QStep P o a w' x

theorem qok_of {t : TV} {x : Value} (hd : t.Den κ x) (hr : ∀ w', Below w.heap.size w w' → (execOp a.eval o).run P w' = .ok (.value x) w') : QOk P κ a w o (.one t) := ⟨x, hd, fun _ _ _ => by simp, fun w' hb => .inl (hr w' hb)⟩

theorem q_move (hR : Rep P κ s a w) (hg : Holds gp a.tmps) (x : Operand) (hop : o.op = .move x ∨ o.op = .assign x) (h : ((rd s gp x).force fun v => some (([] : List Bool), v)) = some (ob, v)) : QOk P κ a w o v := by
  rw [AV.force_eq] at h
  simp only [Option.some.injEq, Prod.mk.injEq] at h
  obtain ⟨-, rfl⟩ := h
  obtain ⟨h1, h2⟩ := rd_den hR hg x
  refine ⟨_, h1, h2, fun w' _ => .inl ?_⟩
  rcases hop with e | e <;> simp [execOp, e]

theorem holds_cons {t : Nat} {p : Bool} {tm : Array Value} (hg : Holds gp tm) (h : tm.getD t undef = .bool p) : Holds ((t, p) :: gp) tm := by
  intro t' p' hm
  simp only [List.mem_cons, Prod.mk.injEq] at hm
  rcases hm with ⟨rfl, rfl⟩ | hm
  · exact h
  · exact hg t' p' hm

theorem q_pick (hR : Rep P κ s a w) (hg : Holds gp a.tmps) (t : Nat) (x y : Operand) (hop : o.op = .pick (.tmp t) x y) (h : opQ P Γ s gp o.op = some (ob, v)) : QOk P κ a w o v := by
  rw [hop] at h
  simp only [opQ] at h
  split at h
  · rename_i c b1 b2 h1 h2 h3
    simp only [Option.some.injEq, Prod.mk.injEq] at h
    obtain ⟨-, rfl⟩ := h
    have hc := rd1_den hR hg (.tmp t)
    rw [h1] at hc
    have hc : a.eval (.tmp t) = .bool c := hc
    refine qok_of (x := .bool (cond c b1 b2)) rfl (fun w' _ => ?_)
    cases c with
    | true =>
      have := rd1_den hR (holds_cons hg (t := t) (p := true) hc) x
      rw [h2] at this
      have : a.eval x = .bool b1 := this
      simp [execOp, hop, hc, this, asBool]
    | false =>
      have := rd1_den hR (holds_cons hg (t := t) (p := false) hc) y
      rw [h3] at this
      have : a.eval y = .bool b2 := this
      simp [execOp, hop, hc, this, asBool]
  · cases h

theorem q_fieldAddr (hR : Rep P κ s a w) (hg : Holds gp a.tmps) (t : TypeId) (x : Operand) (f : Nat) (hop : o.op = .fieldAddr t x f) (h : opQ P Γ s gp o.op = some (ob, v)) : QOk P κ a w o v := by
  rw [hop] at h
  simp only [opQ] at h
  split at h
  · rename_i fs hu
    split at h
    · rename_i fl hfl
      split at h
      · rename_i inf hi
        cases hz : Nat.beq inf.size 0 with
        | true => rw [hz] at h; simp at h
        | false =>
          rw [hz, cond_false] at h
          have hz' : inf.size ≠ 0 := by intro e; rw [e] at hz; cases hz
          have hx := rd1_den hR hg x
          have key : ∀ (b off : Nat) (w' : World), (Instr.fieldAt t (.pointer (some ⟨b, off, none⟩)) f).run P w' = .ok (.pointer (some ⟨b, off + fl.offset, none⟩)) w' := by
            intro b off w'
            simp [Instr.fieldAt, run_underlying hu, hfl, Instr.sureAddr, fieldPlace, sizeOf, typeInfo, hi, hz', Addr.add_mid]
          split at h
          · rename_i i off h1
            simp only [Option.some.injEq, Prod.mk.injEq] at h
            obtain ⟨-, rfl⟩ := h
            rw [h1] at hx
            obtain ⟨b, hb, hx⟩ := hx
            refine qok_of (x := .pointer (some ⟨b, off + fl.offset, none⟩)) ⟨b, hb, rfl⟩ (fun w' _ => ?_)
            simp [execOp, hop, hx, key]
          · rename_i r i c off h1
            simp only [Option.some.injEq, Prod.mk.injEq] at h
            obtain ⟨-, rfl⟩ := h
            rw [h1] at hx
            obtain ⟨b, o', n, cap, hb, hx, h3⟩ := hx
            refine qok_of (x := .pointer (some ⟨b, o' + i.toNat * c + off + fl.offset, none⟩)) ⟨b, o', n, cap, hb, by rw [Nat.add_assoc (o' + i.toNat * c)], h3⟩ (fun w' _ => ?_)
            simp [execOp, hop, hx, key]
          · cases h
      · cases h
    · cases h
  · cases h

theorem q_load (hR : Rep P κ s a w) (hg : Holds gp a.tmps) (t : TypeId) (x : Operand) (hop : o.op = .load t x) (h : opQ P Γ s gp o.op = some (ob, v)) : QOk P κ a w o v := by
  rw [hop] at h
  simp only [opQ, TV.force_eq] at h
  have hx := rd1_den hR hg x
  split at h
  · rename_i i off h1
    rw [h1] at hx
    obtain ⟨b, hb, hx⟩ := hx
    split at h
    · rename_i cs hcs
      simp only [Option.bind_eq_some_iff, Option.some.injEq, Prod.mk.injEq] at h
      obtain ⟨tv, h2, -, rfl⟩ := h
      obtain ⟨xs, h3, h4⟩ := blk_cells hR hcs hb
      obtain ⟨y, h5, h6⟩ := ldc_run (b := b) (o := 0) h3 h2
      refine qok_of h5 (fun w' hbel => ?_)
      have := h6 w' (fun j y hy => h4 w' hbel j y hy)
      rw [Nat.zero_add] at this
      simp [execOp, hop, hx, this]
    · cases h
  · rename_i r i c off h1
    rw [h1] at hx
    obtain ⟨b, o', n, cap, hb, hx, h30, h31⟩ := hx
    split at h
    · rename_i ro hro
      cases hc : Nat.beq c ro.ro.width with
      | false => rw [hc] at h; simp at h
      | true =>
        have hc := Nat.eq_of_beq_eq_true hc
        subst hc
        simp only [Nat.beq_refl, cond_true, Option.bind_eq_some_iff, Option.some.injEq, Prod.mk.injEq] at h
        obtain ⟨tv, h2, -, rfl⟩ := h
        obtain ⟨xs, h3, h4⟩ := row_cells hR hro hb (i := i.toNat) (by omega)
        obtain ⟨y, h5, h6⟩ := ldc_run (b := b) (o := o' + i.toNat * ro.ro.width) h3 h2
        refine qok_of h5 (fun w' hbel => ?_)
        have := h6 w' (fun j y hy => h4 w' hbel j y hy)
        simp [execOp, hop, hx, this]
    · cases h
  · cases h

theorem q_binOp (hR : Rep P κ s a w) (hg : Holds gp a.tmps) (op : BinOp) (t t' : TypeId) (x y : Operand) (hop : o.op = .binOp op t x y t') (h : opQ P Γ s gp o.op = some (ob, v)) (ho : AllB ob) : QOk P κ a w o v := by
  rw [hop] at h
  simp only [opQ] at h
  have hx := rd1_den hR hg x
  have hy := rd1_den hR hg y
  have hex : ∀ w', (execOp a.eval o).run P w' = ((do eqGuard op t x y (a.eval x) (a.eval y); binOp op t (a.eval x) (a.eval y) : Sem Value).run P w').andThen fun u w'' => .ok (.value u) w'' := by
    intro w'
    simp only [execOp, hop, Sem.run_bind, Sem.run_pure]
  split at h
  · rename_i k n k' n' h1 h2
    rw [h1] at hx
    rw [h2] at hy
    have hx : a.eval x = .int k n := hx
    have hy : a.eval y = .int k' n' := hy
    simp only [Option.map_eq_some_iff, Prod.mk.injEq] at h
    obtain ⟨⟨ob', c⟩, h3, rfl, rfl⟩ := h
    obtain ⟨z, -, hz⟩ := intOp_run (P := P) h3 ho t x y w
    refine ⟨z, hz κ, fun _ _ _ => by simp, fun w' _ => .inl ?_⟩
    obtain ⟨z', h4, hz'⟩ := intOp_run (P := P) h3 ho t x y w'
    have e : z' = z := by
      have d1 := hz' κ
      have d2 := hz κ
      have hdet : c.det.isSome = true := by
        unfold intOp at h3
        split at h3
        · simp only [Option.some.injEq, Prod.mk.injEq] at h3; obtain ⟨-, rfl⟩ := h3; rfl
        · simp only [Option.some.injEq, Prod.mk.injEq] at h3; obtain ⟨-, rfl⟩ := h3; rfl
        · split at h3
          · split at h3 <;> first | (simp only [Option.some.injEq, Prod.mk.injEq] at h3; obtain ⟨-, rfl⟩ := h3; rfl) | cases h3
          · cases h3
      obtain ⟨u, hu⟩ := Option.isSome_iff_exists.1 hdet
      rw [CV.det_den hu d1, CV.det_den hu d2]
    rw [hex, hx, hy, h4, e]
    rfl
  · rename_i b1 b2 h1 h2
    rw [h1] at hx
    rw [h2] at hy
    have hx : a.eval x = .bool b1 := hx
    have hy : a.eval y = .bool b2 := hy
    have hgd : ∀ w', (eqGuard op t x y (.bool b1) (.bool b2)).run P w' = .ok () w' := by intro w'; cases op <;> simp [eqGuard]
    split at h
    · rename_i hu
      simp only [Option.some.injEq, Prod.mk.injEq] at h
      obtain ⟨-, rfl⟩ := h
      refine qok_of (x := .bool (b1 == b2)) rfl (fun w' _ => ?_)
      rw [hex, hx, hy, Sem.run_bind, hgd, Result.andThen_ok]
      simp [binOp, Op.equal, Op.maxDepth, run_equalIn_bool' w' 9999 t b1 b2 hu]
    · rename_i hu
      simp only [Option.some.injEq, Prod.mk.injEq] at h
      obtain ⟨-, rfl⟩ := h
      refine qok_of (x := .bool (!(b1 == b2))) rfl (fun w' _ => ?_)
      rw [hex, hx, hy, Sem.run_bind, hgd, Result.andThen_ok]
      simp [binOp, Op.equal, Op.maxDepth, run_equalIn_bool' w' 9999 t b1 b2 hu]
    · cases h
  · rename_i xs ys h1 h2
    rw [h1] at hx
    rw [h2] at hy
    obtain ⟨us, hx, hdx⟩ := hx
    obtain ⟨vs, hy, hdy⟩ := hy
    split at h
    · rename_i fs hu
      cases hst : (P.stoodInHeld t || P.eqGuardType P.depth t) with
      | true => rw [hst] at h; simp at h
      | false =>
        rw [hst, cond_false] at h
        simp only [Bool.or_eq_false_iff] at hst
        have hfs : P.fieldsOf t = fs := by simp [Program.fieldsOf, hu]
        have hgd : ∀ w', (eqGuard op t x y (.agg us.toArray) (.agg vs.toArray)).run P w' = .ok () w' := fun w' => run_eqGuard_agg w' op t x y _ _ hst.2
        have heq : ∀ (w' : World) (b : Bool), eqF P xs ys fs.toList = some b → (Op.equalIn 10000 t (.agg us.toArray) (.agg vs.toArray)).run P w' = .ok b w' := by
          intro w' b hb
          rw [run_equalIn_agg w' 9999 t _ _ (by rw [hfs]; exact hu) hst.1, hfs]
          exact eqF_run hdx hdy w' fs.toList b hb
        split at h
        · rename_i b hb
          simp only [Option.some.injEq, Prod.mk.injEq] at h
          obtain ⟨-, rfl⟩ := h
          refine qok_of (x := .bool b) rfl (fun w' _ => ?_)
          rw [hex, hx, hy, Sem.run_bind, hgd, Result.andThen_ok, run_eql_struct, heq w' b hb]; rfl
        · rename_i b hb
          simp only [Option.some.injEq, Prod.mk.injEq] at h
          obtain ⟨-, rfl⟩ := h
          refine qok_of (x := .bool (!b)) rfl (fun w' _ => ?_)
          rw [hex, hx, hy, Sem.run_bind, hgd, Result.andThen_ok, run_neq_struct, heq w' b hb]; rfl
        · cases h
    · cases h
  · cases h

theorem q_unOp (hR : Rep P κ s a w) (hg : Holds gp a.tmps) (op : UnOp) (t : TypeId) (x : Operand) (hop : o.op = .unOp op t x) (h : opQ P Γ s gp o.op = some (ob, v)) : QOk P κ a w o v := by
  rw [hop] at h
  simp only [opQ] at h
  have hx := rd1_den hR hg x
  split at h
  · rename_i b h1
    simp only [Option.some.injEq, Prod.mk.injEq] at h
    obtain ⟨-, rfl⟩ := h
    rw [h1] at hx
    have hx : a.eval x = .bool b := hx
    exact qok_of (x := .bool (!b)) rfl (fun w' _ => by simp [execOp, hop, hx, Op.unary])
  · rename_i k n h1
    simp only [Option.some.injEq, Prod.mk.injEq] at h
    obtain ⟨-, rfl⟩ := h
    rw [h1] at hx
    have hx : a.eval x = .int k n := hx
    exact qok_of (x := .int k (k.wrap (0 - n))) rfl (fun w' _ => by simp [execOp, hop, hx, Op.unary, Op.intArith])
  · cases h

theorem q_convert (hR : Rep P κ s a w) (hg : Holds gp a.tmps) (t d : TypeId) (x : Operand) (hop : o.op = .convert t d x) (h : opQ P Γ s gp o.op = some (ob, v)) : QOk P κ a w o v := by
  rw [hop] at h
  simp only [opQ] at h
  have hx := rd1_den hR hg x
  split at h
  · rename_i u k k' n hsu hu h1
    simp only [Option.some.injEq, Prod.mk.injEq] at h
    obtain ⟨-, rfl⟩ := h
    rw [h1] at hx
    have hx : a.eval x = .int k' n := hx
    exact qok_of (x := .int k (k.wrap n)) rfl (fun w' _ => by simp [execOp, hop, hx, convert, run_underlying hu, run_underlying hsu, Conv.intToInt])
  · cases h

theorem DenT.get {κ : Ctx} : ∀ {l : List TV} {xs : List Value}, DenT κ l xs → ∀ (j : Nat) (c : TV), l[j]? = some c → ∃ x, xs[j]? = some x ∧ c.Den κ x
  | [], _, _, j, c, h => by simp at h
  | _ :: _, [], hd, _, _, _ => hd.elim
  | c :: l, x :: xs, hd, 0, c', h => by simp at h; subst h; exact ⟨x, rfl, hd.1⟩
  | c :: l, x :: xs, hd, j + 1, c', h => by simpa using DenT.get hd.2 j c' (by simpa using h)

theorem q_extract (hR : Rep P κ s a w) (hg : Holds gp a.tmps) (x : Operand) (i : Nat) (hop : o.op = .extract x i) (h : opQ P Γ s gp o.op = some (ob, v)) : QOk P κ a w o v := by
  rw [hop] at h
  simp only [opQ, TV.force_eq] at h
  have hx := (rd_den hR hg x).1
  split at h
  · rename_i l h1
    simp only [Option.bind_eq_some_iff, Option.some.injEq, Prod.mk.injEq] at h
    obtain ⟨tv, h2, -, rfl⟩ := h
    rw [h1] at hx
    obtain ⟨xs, hx, hd⟩ := hx
    obtain ⟨y, h3, h4⟩ := hd.get i tv h2
    exact qok_of h4 (fun w' _ => by simp [execOp, hop, hx, Instr.extract, h3])
  · cases h

theorem q_indexAddr (hR : Rep P κ s a w) (hg : Holds gp a.tmps) (t : TypeId) (x i : Operand) (hop : o.op = .indexAddr t x i) (h : opQ P Γ s gp o.op = some (ob, v)) (ho : AllB ob) : QOk P κ a w o v := by
  rw [hop] at h
  simp only [opQ] at h
  have hx := rd1_den hR hg x
  have hi := rd1_den hR hg i
  split at h
  rotate_left
  · rename_i e b len k n hu h1 h2
    rw [h1] at hx
    rw [h2] at hi
    obtain ⟨b0, hb, hx⟩ := hx
    have hi : a.eval i = .int k n := hi
    split at h
    · rename_i inf hinf
      simp only [Option.some.injEq, Prod.mk.injEq] at h
      obtain ⟨rfl, rfl⟩ := h
      simp only [AllB, decide_eq_true_eq, and_true] at ho
      obtain ⟨ho1, ho2⟩ := ho
      refine qok_of (x := .pointer (some ⟨b0, 0 + n.toNat * inf.size, none⟩)) ⟨b0, hb, by rw [Nat.zero_add]⟩ (fun w' _ => ?_)
      simp only [execOp, hop, hx, hi, Instr.indexAt, asIntOf, Sem.run_bind, Sem.run_pure, Result.andThen_ok, run_underlying hu, Sem.run_ite]
      rw [if_pos ⟨ho1, ho2⟩]
      simp [sizeOf, typeInfo, hinf, Addr.add_mid]
    · cases h
  · rename_i len e r c k n hu h1 h2
    rw [h1] at hx
    rw [h2] at hi
    obtain ⟨b, off, m, cap, hρ, hx, hx0, hx1⟩ := hx
    have hi : a.eval i = .int k n := hi
    split at h
    · rename_i ro inf hro hinf
      cases hc : (Nat.beq inf.size ro.ro.width && Nat.beq c ro.ro.width && Nat.ble 2 len) with
      | false => rw [hc] at h; simp at h
      | true =>
        rw [hc, cond_true] at h
        simp only [Bool.and_eq_true] at hc
        obtain ⟨⟨c1, c2⟩, c4⟩ := hc
        have c1 := Nat.eq_of_beq_eq_true c1
        have c2 := Nat.eq_of_beq_eq_true c2
        have c4 := Nat.le_of_ble_eq_true c4
        simp only [Option.some.injEq, Prod.mk.injEq] at h
        obtain ⟨rfl, rfl⟩ := h
        simp only [AllB, decide_eq_true_eq, and_true] at ho
        obtain ⟨c3, ho1, ho2⟩ := ho
        have c3 := Nat.eq_of_beq_eq_true c3
        obtain ⟨a', cap', h3, h4, h5, h6⟩ := (hR.row r ro _ hro hρ).1
        simp only [Value.slice.injEq] at h3
        obtain ⟨-, h3, -⟩ := h3
        have hz : off + (0 : Int).toNat * c + 0 = off := by simp
        rw [hz] at hx
        refine qok_of (x := .pointer (some ⟨b, off + n.toNat * inf.size, none⟩)) ⟨b, off, m, cap, hρ, by rw [Nat.add_zero, c1, c2], ho1, by omega⟩ (fun w' _ => ?_)
        simp only [execOp, hop, hx, hi, Instr.indexAt, asIntOf, Sem.run_bind, Sem.run_pure, Result.andThen_ok, run_underlying hu, Sem.run_ite, Instr.sureAddr]
        rw [if_pos ⟨ho1, ho2⟩]
        simp [sizeOf, typeInfo, hinf, Addr.add_mid]
    · cases h
  · cases h
  · rename_i e r k n hu h1 h2
    rw [h1] at hx
    rw [h2] at hi
    obtain ⟨hx, -⟩ := hx
    have hi : a.eval i = .int k n := hi
    split at h
    · rename_i ro inf hro hinf
      cases hc : Nat.beq inf.size ro.ro.width with
      | false => rw [hc] at h; simp at h
      | true =>
        rw [hc, cond_true] at h
        have hc := Nat.eq_of_beq_eq_true hc
        simp only [Option.some.injEq, Prod.mk.injEq] at h
        obtain ⟨rfl, rfl⟩ := h
        simp only [AllB, decide_eq_true_eq, and_true] at ho
        obtain ⟨ho1, ho2⟩ := ho
        obtain ⟨a', cap, h3, h4, h5, h6⟩ := (hR.row r ro _ hro hx).1
        obtain ⟨b, off, rfl, h7, -⟩ := h6 (by omega)
        rw [h3] at hx
        refine qok_of (x := .pointer (some ⟨b, off + n.toNat * ro.ro.width, none⟩)) ⟨b, off, _, cap, hx, by rw [Nat.add_zero], ho1, ho2⟩ (fun w' _ => ?_)
        simp only [execOp, hop, h3, hi, Instr.indexAt, asIntOf, Sem.run_bind, Sem.run_pure, Result.andThen_ok, run_underlying hu, Sem.run_ite]
        rw [if_pos ⟨ho1, ho2⟩]
        simp [sizeOf, typeInfo, hinf, hc, Addr.add_mid]
    · cases h

theorem q_field (hR : Rep P κ s a w) (hg : Holds gp a.tmps) (t : TypeId) (x : Operand) (f : Nat) (hop : o.op = .field t x f) (h : opQ P Γ s gp o.op = some (ob, v)) : QOk P κ a w o v := by
  rw [hop] at h
  simp only [opQ, TV.force_eq] at h
  have hx := rd1_den hR hg x
  split at h
  · rename_i fs hu
    split at h
    · rename_i fl cs hfl h1
      rw [h1] at hx
      obtain ⟨xs, hx, hd⟩ := hx
      simp only [Option.bind_eq_some_iff, Option.some.injEq, Prod.mk.injEq] at h
      obtain ⟨tv, h2, -, rfl⟩ := h
      unfold ldc at h2
      cases hfu : P.underlying fl.type with
      | none => simp [hfu] at h2
      | some d =>
        simp only [hfu] at h2
        cases hr : d.isRow with
        | true =>
          rw [hr, cond_true] at h2
          cases hinf : P.info? fl.type with
          | none => simp [hinf] at h2
          | some inf =>
            simp only [hinf] at h2
            cases hb : Nat.ble (fl.offset + inf.size) cs.length with
            | false => rw [hb] at h2; simp at h2
            | true =>
              rw [hb, cond_true] at h2
              simp only [Option.some.injEq] at h2
              subst h2
              refine qok_of (x := .agg (((xs.drop fl.offset).take inf.size).toArray)) ⟨_, rfl, (hd.drop _).take _⟩ (fun w' _ => ?_)
              have hagg : (isAgg fl.type).run P w' = .ok true w' := by unfold isAgg; rw [Sem.run_bind, run_underlying hfu w']; cases d <;> simp_all
              simp [execOp, hop, hx, Instr.field, run_underlying hu, hfl, part, hagg, asAgg, sizeOf, typeInfo, hinf]
        | false =>
          rw [hr, cond_false] at h2
          simp only [Option.map_eq_some_iff] at h2
          obtain ⟨c, hc, rfl⟩ := h2
          obtain ⟨y, hy, hden⟩ := hd.get _ c hc
          refine qok_of (x := y) hden (fun w' _ => ?_)
          have hagg : (isAgg fl.type).run P w' = .ok false w' := by unfold isAgg; rw [Sem.run_bind, run_underlying hfu w']; cases d <;> simp_all
          simp [execOp, hop, hx, Instr.field, run_underlying hu, hfl, part, hagg, asAgg, hy]
    · cases h
  · cases h

theorem parts_den (hR : Rep P κ s a w) (hg : Holds gp a.tmps) (l : List (Nat × Operand)) :
    (l.map fun (i, x) => (i, rd1 s gp x)).length = (l.map fun (i, x) => (i, a.eval x)).length ∧ ∀ (j : Nat) (p : Nat × TV) (q : Nat × Value), (l.map fun (i, x) => (i, rd1 s gp x))[j]? = some p → (l.map fun (i, x) => (i, a.eval x))[j]? = some q → p.1 = q.1 ∧ p.2.Den κ q.2 := by
  refine ⟨by simp, fun j p q hp hq => ?_⟩
  simp only [List.getElem?_map, Option.map_eq_some_iff] at hp hq
  obtain ⟨u, h1, rfl⟩ := hp
  obtain ⟨u', h2, rfl⟩ := hq
  rw [h1] at h2
  cases h2
  exact ⟨rfl, rd1_den hR hg u.2⟩

theorem q_build (hR : Rep P κ s a w) (hg : Holds gp a.tmps) (t : TypeId) (parts : Array (Nat × Operand)) (hop : o.op = .build t parts) (h : opQ P Γ s gp o.op = some (ob, v)) : QOk P κ a w o v := by
  rw [hop] at h
  simp only [opQ, forceL_eq] at h
  split at h
  · rename_i fs hu
    split at h
    · rename_i it pl hi hpl
      split at h
      · rename_i z hz
        simp only [Option.bind_eq_some_iff, Option.some.injEq, Prod.mk.injEq] at h
        obtain ⟨cs, h1, -, rfl⟩ := h
        obtain ⟨zs, h2, h3⟩ := fillE_run (place := (pl.toArray[·]?)) (fun i p hp => by simpa using hp) _ _ _ _ z.cells.toList h1 (DenL.ofVal κ _) (parts_den hR hg parts.toList)
        have hb : P.built t ((parts.map fun (i, x) => (i, a.eval x)).toList) = some zs.toArray := by
          unfold placesOf at hpl
          simp only [Program.built, hi, hu, hz, hpl]
          rw [← h2]
          simp
        refine qok_of (x := .agg zs.toArray) ⟨zs, rfl, h3⟩ (fun w' _ => ?_)
        simp [execOp, hop, run_build w' t _ _ hb]
      · cases h
    · cases h
  · cases h

theorem args_den (hR : Rep P κ s a w) (hg : Holds gp a.tmps) : ∀ (l : List Operand), DenT κ (l.map (rd1 s gp)) (l.map a.eval)
  | [] => trivial
  | x :: l => ⟨rd1_den hR hg x, args_den hR hg l⟩

theorem capL_den {κ : Ctx} : ∀ {l : List TV} {m : List Nat} {xs : List Value}, capL l = some m → DenT κ l xs → ∃ bs, CapsDen κ.β m bs ∧ xs = bs.map capV
  | [], m, [], h, _ => by simp only [capL, Option.some.injEq] at h; subst h; exact ⟨[], trivial, rfl⟩
  | [], _, _ :: _, _, hd => hd.elim
  | t :: r, m, xs, h, hd => by
    unfold capL at h
    split at h
    · rename_i e; cases e
    · rename_i i r' e
      simp only [List.cons.injEq] at e
      obtain ⟨rfl, rfl⟩ := e
      cases xs with
      | nil => exact hd.elim
      | cons x xs =>
        obtain ⟨⟨b, hb, hx⟩, hd2⟩ := hd
        split at h
        · rename_i l hl
          simp only [Option.some.injEq] at h
          subst h
          obtain ⟨bs, h1, rfl⟩ := capL_den hl hd2
          exact ⟨b :: bs, ⟨hb, h1⟩, by rw [hx]; rfl⟩
        · cases h
    · cases h
theorem q_makeFunc (hR : Rep P κ s a w) (hg : Holds gp a.tmps) (f : FuncId) (first caps : Array Operand) (hop : o.op = .makeFunc (.func f) first caps) (h : opQ P Γ s gp o.op = some (ob, v)) : QOk P κ a w o v := by
  rw [hop] at h
  simp only [opQ] at h
  cases hf : first.isEmpty with
  | false => rw [hf] at h; cases h
  | true =>
    rw [hf, cond_true] at h
    have hf : first = #[] := by simpa using hf
    subst hf
    split at h
    · rename_i l hl
      simp only [Option.some.injEq, Prod.mk.injEq] at h
      obtain ⟨-, rfl⟩ := h
      obtain ⟨bs, h1, h2⟩ := capL_den hl (args_den hR hg caps.toList)
      refine qok_of (x := .func (.func f) #[] (bs.map capV).toArray) ⟨bs, h1, rfl⟩ (fun w' _ => ?_)
      have e : caps.map a.eval = (bs.map capV).toArray := by
        apply Array.ext'
        rw [Array.toList_map, h2]
      simp [execOp, hop, Instr.makeFunc, e]
    · cases h

theorem q_nilCheck (hR : Rep P κ s a w) (hg : Holds gp a.tmps) (x : Operand) (hop : o.op = .nilCheck x) (h : opQ P Γ s gp o.op = some (ob, v)) : QOk P κ a w o v := by
  rw [hop] at h
  simp only [opQ] at h
  have hx := rd1_den hR hg x
  split at h
  · rename_i i off h1
    simp only [Option.some.injEq, Prod.mk.injEq] at h
    obtain ⟨-, rfl⟩ := h
    rw [h1] at hx
    obtain ⟨b, hb, hx⟩ := hx
    exact qok_of (x := .pointer (some ⟨b, off, none⟩)) ⟨b, hb, rfl⟩ (fun w' _ => by simp [execOp, hop, hx])
  · rename_i r i c off h1
    simp only [Option.some.injEq, Prod.mk.injEq] at h
    obtain ⟨-, rfl⟩ := h
    rw [h1] at hx
    have hx' := hx
    obtain ⟨b, o', n, cap, hb, hx, h2⟩ := hx
    exact qok_of (x := a.eval x) hx' (fun w' _ => by simp [execOp, hop, hx])
  · cases h
theorem map_two {α β : Type} {f : α → β} {l : List α} {x y : β} (h : l.map f = [x, y]) : ∃ p q, l = [p, q] ∧ f p = x ∧ f q = y := by
  rcases l with _ | ⟨p, _ | ⟨q, _ | ⟨r, l⟩⟩⟩
  · simp at h
  · simp at h
  · simp only [List.map_cons, List.map_nil, List.cons.injEq, and_true] at h
    exact ⟨p, q, rfl, h⟩
  · simp at h
theorem map_three {α β : Type} {f : α → β} {l : List α} {x y z : β} (h : l.map f = [x, y, z]) : ∃ p q r, l = [p, q, r] ∧ f p = x ∧ f q = y ∧ f r = z := by
  rcases l with _ | ⟨p, _ | ⟨q, _ | ⟨r, _ | ⟨t, l⟩⟩⟩⟩
  · simp at h
  · simp at h
  · simp at h
  · simp only [List.map_cons, List.map_nil, List.cons.injEq, and_true] at h
    exact ⟨p, q, r, rfl, h⟩
  · simp at h

theorem gmax_run (k : IntKind) (x y : Int) (k' : IntKind) (w : World) : (Builtin.max2 (.int k x) (.int k' y)).run P w = .ok (.int k (gmax x y)) w := rfl
theorem gmin_run (k : IntKind) (x y : Int) (k' : IntKind) (w : World) : (Builtin.min2 (.int k x) (.int k' y)).run P w = .ok (.int k (gmin x y)) w := rfl

theorem capAdd_spec {blks : List (List CV)} {i : Nat} {acc acc' : Caps} (h : capAdd blks i acc = some acc') (hn : (acc.map (·.1)).Nodup) (hm : ∀ j cs, (j, cs) ∈ acc → blks[j]? = some cs) : (acc'.map (·.1)).Nodup ∧ (∀ j cs, (j, cs) ∈ acc' → blks[j]? = some cs) ∧ (∀ j cs, (j, cs) ∈ acc → (j, cs) ∈ acc') ∧ ∃ cs, (i, cs) ∈ acc' := by
  unfold capAdd at h
  cases hb : acc.any (fun p => Nat.beq p.1 i) with
  | true =>
    rw [hb, cond_true] at h
    simp only [Option.some.injEq] at h
    subst h
    obtain ⟨⟨j, cs⟩, h1, h2⟩ := List.any_eq_true.1 hb
    have h2 := Nat.eq_of_beq_eq_true h2
    simp only at h2
    subst h2
    exact ⟨hn, hm, fun _ _ h => h, cs, h1⟩
  | false =>
    rw [hb, cond_false] at h
    split at h
    · rename_i cs hcs
      simp only [Option.some.injEq] at h
      subst h
      refine ⟨?_, ?_, fun j c hj => List.mem_append_left _ hj, cs, by simp⟩
      · rw [List.map_append, List.nodup_append]
        refine ⟨hn, by simp, fun x hx y hy => ?_⟩
        simp only [List.map_cons, List.map_nil, List.mem_singleton] at hy
        subst hy
        rintro rfl
        obtain ⟨⟨j, c⟩, h1, h2⟩ := List.mem_map.1 hx
        have := List.any_eq_false.1 hb _ h1
        simp only at h2
        subst h2
        simp at this
      · intro j c hj
        rcases List.mem_append.1 hj with hj | hj
        · exact hm j c hj
        · simp only [List.mem_singleton, Prod.mk.injEq] at hj
          obtain ⟨rfl, rfl⟩ := hj
          exact hcs
    · cases h
theorem capAdds_spec {blks : List (List CV)} : ∀ {l : List Nat} {acc acc' : Caps}, capAdds blks l acc = some acc' → (acc.map (·.1)).Nodup → (∀ j cs, (j, cs) ∈ acc → blks[j]? = some cs) → (acc'.map (·.1)).Nodup ∧ (∀ j cs, (j, cs) ∈ acc' → blks[j]? = some cs)
  | [], acc, acc', h, hn, hm => by
    simp only [capAdds, Option.some.injEq] at h
    subst h
    exact ⟨hn, hm⟩
  | i :: r, acc, acc', h, hn, hm => by
    simp only [capAdds] at h
    split at h
    · rename_i a1 h1
      obtain ⟨k1, k2, _⟩ := capAdd_spec h1 hn hm
      exact capAdds_spec h k1 k2
    · cases h
theorem capAdd_mono {b b' : List (List CV)} (hb : ∀ (i : Nat) (cs : List CV), b[i]? = some cs → b'[i]? = some cs) {i : Nat} {acc acc' : Caps} (h : capAdd b i acc = some acc') : capAdd b' i acc = some acc' := by
  unfold capAdd at h ⊢
  cases hc : acc.any (fun p => Nat.beq p.1 i) with
  | true => rw [hc] at h; rw [cond_true] at h ⊢; exact h
  | false =>
    rw [hc] at h
    rw [cond_false] at h ⊢
    split at h
    · rename_i cs hcs
      rw [hb i cs hcs]; exact h
    · cases h
theorem capAdds_mono {b b' : List (List CV)} (hb : ∀ (i : Nat) (cs : List CV), b[i]? = some cs → b'[i]? = some cs) : ∀ {l : List Nat} {acc acc' : Caps}, capAdds b l acc = some acc' → capAdds b' l acc = some acc'
  | [], acc, acc', h => h
  | i :: r, acc, acc', h => by
    simp only [capAdds] at h ⊢
    split at h
    · rename_i a1 h1
      rw [capAdd_mono hb h1]
      exact capAdds_mono hb h
    · cases h
theorem gath_mono {b b' : List (List CV)} (hb : ∀ (i : Nat) (cs : List CV), b[i]? = some cs → b'[i]? = some cs) {args : List TV} {caps : Caps} (h : gath b args = some caps) : gath b' args = some caps := capAdds_mono hb h
theorem Rep.memOk (hR : Rep P κ s a w) {args : List TV} {caps : Caps} (h : gath s.blks args = some caps) : MemOk κ s.rows caps w where
  rowN := hR.rowN
  row := fun r ro v h1 h2 => ⟨(hR.row r ro v h1 h2).1, fun hl g hg => ((hR.row r ro v h1 h2).2 hl g hg).1⟩
  nodup := hR.nodup
  capN := (capAdds_spec h (by simp) (fun _ _ h => by simp at h)).1
  cap := fun i cs hm => by
    have h1 := (capAdds_spec h (by simp) (fun _ _ h => by simp at h)).2 i cs hm
    have hlt : i < κ.β.length := by rw [hR.blkN]; exact (List.getElem?_eq_some_iff.1 h1).1
    obtain ⟨xs, T, h2, h3⟩ := hR.blk i cs κ.β[i] h1 (List.getElem?_eq_getElem hlt)
    exact ⟨κ.β[i], xs, T, List.getElem?_eq_getElem hlt, h2, h3⟩
theorem cap_den {κ : Ctx} : ∀ {l bs : List Nat}, CapsDen κ.β l bs → DenT κ (l.map fun i => .cel (.ptr i 0)) (bs.map capV)
  | [], [], _ => trivial
  | _ :: _, _ :: _, h => ⟨⟨_, h.1, rfl⟩, cap_den h.2⟩
  | [], _ :: _, h => h.elim
  | _ :: _, [], h => h.elim
theorem DenT.append {κ : Ctx} : ∀ {l m : List TV} {xs ys : List Value}, DenT κ l xs → DenT κ m ys → DenT κ (l ++ m) (xs ++ ys)
  | [], _, [], _, _, h => h
  | _ :: _, _, _ :: _, _, h, k => ⟨h.1, DenT.append h.2 k⟩
  | [], _, _ :: _, _, h, _ => h.elim
  | _ :: _, _, [], _, h, _ => h.elim
theorem fargs_den (hR : Rep P κ s a w) (hg : Holds gp a.tmps) {f : Operand} {l : List Operand} {g : FuncId} {args : List TV} (h : fargs s gp f l = some (g, args)) :
    ∃ cs : List Value, a.eval f = .func (.func g) #[] cs.toArray ∧ DenT κ args (l.map a.eval ++ cs) := by
  have hf := rd1_den hR hg f
  have hargs := args_den hR hg l
  unfold fargs at h
  split at h
  · rename_i g' h1
    rw [h1] at hf
    have hf : a.eval f = .func (.func g') #[] #[] := hf
    rw [forceT_eq] at h
    simp only [Option.some.injEq, Prod.mk.injEq] at h
    obtain ⟨rfl, rfl⟩ := h
    exact ⟨[], hf, by rw [List.append_nil]; exact hargs⟩
  · rename_i g' m h1
    rw [h1] at hf
    obtain ⟨bs, h2, hf⟩ := hf
    rw [forceT_eq] at h
    simp only [Option.some.injEq, Prod.mk.injEq] at h
    obtain ⟨rfl, rfl⟩ := h
    exact ⟨bs.map capV, hf, hargs.append (cap_den h2)⟩
  · cases h

theorem q_call (hΓ : SoundG P Γ) (hR : Rep P κ s a w) (hg : Holds gp a.tmps) (c : Call) (hop : o.op = .call c) (h : opQ P Γ s gp o.op = some (ob, v)) (ho : AllB ob) : QOk P κ a w o v := by
  rw [hop] at h
  obtain ⟨callee, ⟨args⟩, ⟨tys⟩⟩ := c
  simp only [opQ] at h
  have hargs := args_den hR hg args
  split at h
  · split at h
    · rename_i x t
      have hx := rd1_den hR hg x
      split at h
      · rename_i e r hu h1
        rw [h1] at hx
        obtain ⟨hx, -⟩ := hx
        split at h
        · rename_i ro hro
          simp only [Option.some.injEq, Prod.mk.injEq] at h
          obtain ⟨-, rfl⟩ := h
          obtain ⟨a', cap, h3, -⟩ := (hR.row r ro _ hro hx).1
          exact qok_of (x := .int .i64 ro.ro.len) rfl (fun w' _ => by simp [execOp, hop, resolve, invoke, builtin, Builtin.len_, run_underlying hu, h3, goInt])
        · cases h
      · rename_i e hu h1
        simp only [Option.some.injEq, Prod.mk.injEq] at h
        obtain ⟨-, rfl⟩ := h
        rw [h1] at hx
        have hx : a.eval x = .slice none 0 0 := hx
        exact qok_of (x := .int .i64 0) rfl (fun w' _ => by simp [execOp, hop, resolve, invoke, builtin, Builtin.len_, run_underlying hu, hx, goInt])
      · rename_i e b n hu h1
        simp only [Option.some.injEq, Prod.mk.injEq] at h
        obtain ⟨-, rfl⟩ := h
        rw [h1] at hx
        obtain ⟨b0, hb, hx⟩ := hx
        exact qok_of (x := .int .i64 n) rfl (fun w' _ => by simp [execOp, hop, resolve, invoke, builtin, Builtin.len_, run_underlying hu, hx, goInt])
      · cases h
    · cases h
  · skip
    split at h
    · rename_i k x k' y e1
      simp only [Option.some.injEq, Prod.mk.injEq] at h
      obtain ⟨-, rfl⟩ := h
      obtain ⟨p, q, rfl, h1, h2⟩ := map_two e1
      obtain ⟨d1, d2, -⟩ := hargs
      rw [h1] at d1
      rw [h2] at d2
      have d1 : a.eval p = .int k x := d1
      have d2 : a.eval q = .int k' y := d2
      exact qok_of (x := .int k (gmax x y)) rfl (fun w' _ => by simp [execOp, hop, resolve, invoke, builtin, Builtin.max_, d1, d2, gmax_run])
    · rename_i k x k' y k'' z e1
      simp only [Option.some.injEq, Prod.mk.injEq] at h
      obtain ⟨-, rfl⟩ := h
      obtain ⟨p, q, r, rfl, h1, h2, h3⟩ := map_three e1
      obtain ⟨d1, d2, d3, -⟩ := hargs
      rw [h1] at d1
      rw [h2] at d2
      rw [h3] at d3
      have d1 : a.eval p = .int k x := d1
      have d2 : a.eval q = .int k' y := d2
      have d3 : a.eval r = .int k'' z := d3
      exact qok_of (x := .int k (gmax (gmax x y) z)) rfl (fun w' _ => by simp [execOp, hop, resolve, invoke, builtin, Builtin.max_, d1, d2, d3, gmax_run])
    · cases h
  · skip
    split at h
    · rename_i k x k' y e1
      simp only [Option.some.injEq, Prod.mk.injEq] at h
      obtain ⟨-, rfl⟩ := h
      obtain ⟨p, q, rfl, h1, h2⟩ := map_two e1
      obtain ⟨d1, d2, -⟩ := hargs
      rw [h1] at d1
      rw [h2] at d2
      have d1 : a.eval p = .int k x := d1
      have d2 : a.eval q = .int k' y := d2
      exact qok_of (x := .int k (gmin x y)) rfl (fun w' _ => by simp [execOp, hop, resolve, invoke, builtin, Builtin.min_, d1, d2, gmin_run])
    · rename_i k x k' y k'' z e1
      simp only [Option.some.injEq, Prod.mk.injEq] at h
      obtain ⟨-, rfl⟩ := h
      obtain ⟨p, q, r, rfl, h1, h2, h3⟩ := map_three e1
      obtain ⟨d1, d2, d3, -⟩ := hargs
      rw [h1] at d1
      rw [h2] at d2
      rw [h3] at d3
      have d1 : a.eval p = .int k x := d1
      have d2 : a.eval q = .int k' y := d2
      have d3 : a.eval r = .int k'' z := d3
      exact qok_of (x := .int k (gmin (gmin x y) z)) rfl (fun w' _ => by simp [execOp, hop, resolve, invoke, builtin, Builtin.min_, d1, d2, d3, gmin_run])
    · cases h
  · rename_i f
    split at h
    · rename_i g args' hfa
      obtain ⟨cs, hf, hargs⟩ := fargs_den hR hg hfa
      split at h
      · rename_i caps hcaps
        split at h
        · rename_i r hr
          split at h
          · rename_i hrows
            split at h
            · rename_i u hu
              rw [AV.force_eq] at h
              simp only [Option.some.injEq, Prod.mk.injEq] at h
              obtain ⟨rfl, rfl⟩ := h
              refine ⟨u, ?_, ?_, fun w' hb => .inr ⟨g, (args.map a.eval ++ cs).toArray, ?_, ?_⟩⟩
              · obtain ⟨-, hc⟩ := hΓ.con g _ _ _ r hr ho κ w _ (hR.memOk hcaps) hargs
                obtain ⟨e, w1, fr, ⟨x, ρ', -, -, hd, hns, hl, -⟩, -⟩ := hc []
                have hρ : ρ' = [] := by rw [hrows] at hl; exact List.eq_nil_of_length_eq_zero hl
                subst hρ
                have e1 := AV.det_den hu hd
                subst e1
                have : κ.with [] = κ := by simp [Ctx.with]
                rw [this] at hd
                cases hv : r.val with
                | one t => rw [hv] at hd; exact hd
                | tup l => rw [hv] at hd; exact hd
                | spec t p y => exact absurd hv (hns t p y)
              · intro t p y e
                rw [e] at hu
                cases hu
              · obtain ⟨hcf, -⟩ := hΓ.con g _ _ _ r hr ho κ w _ (hR.memOk hcaps) hargs
                simp [execOp, hop, resolve, Deferred.ofValue, hf, invoke, hcf]
              · obtain ⟨-, hc⟩ := hΓ.con g _ _ _ r hr ho κ w' _ ((hR.later hb).memOk hcaps) hargs
                refine hc.mono fun e w1 hpost => ?_
                obtain ⟨x, ρ', rfl, hb1, hd, -⟩ := hpost
                rw [AV.det_den hu hd]
                exact ⟨rfl, hb1⟩
            · cases h
          · cases h
        · cases h
      · cases h
    · cases h
  · cases h

theorem opQ_ok (hΓ : SoundG P Γ) (hR : Rep P κ s a w) (hg : Holds gp a.tmps) (h : opQ P Γ s gp o.op = some (ob, v)) (ho : AllB ob) : QOk P κ a w o v := by
  cases hop : o.op with
  | move x => rw [hop] at h; exact q_move hR hg x (.inl hop) h
  | assign x => rw [hop] at h; exact q_move hR hg x (.inr hop) h
  | pick c x y =>
    cases c with
    | tmp t => exact q_pick hR hg t x y hop h
    | _ => rw [hop] at h; cases h
  | fieldAddr t x f => exact q_fieldAddr hR hg t x f hop h
  | load t x => exact q_load hR hg t x hop h
  | binOp op t x y t' => exact q_binOp hR hg op t t' x y hop h ho
  | unOp op t x => exact q_unOp hR hg op t x hop h
  | convert t d x => exact q_convert hR hg t d x hop h
  | extract x i => exact q_extract hR hg x i hop h
  | field t x f => exact q_field hR hg t x f hop h
  | build t parts => exact q_build hR hg t parts hop h
  | indexAddr t x i => exact q_indexAddr hR hg t x i hop h ho
  | nilCheck x => exact q_nilCheck hR hg x hop h
  | makeFunc fn first caps =>
    cases fn with
    | func f => exact q_makeFunc hR hg f first caps hop h
    | _ => rw [hop] at h; cases h
  | call c => exact q_call hΓ hR hg c hop h ho
  | _ => rw [hop] at h; cases h

end
end Go.Proofs.Ythfliohfkhnpiaa
