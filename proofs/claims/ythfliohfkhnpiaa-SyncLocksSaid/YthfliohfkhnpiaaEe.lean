/- Regions that draw their order, run on states: one run serves every order. No program in sight. -/
import Derived.Test.YthfliohfkhnpiaaEa
namespace Go.Proofs.Ythfliohfkhnpiaa
set_option linter.unusedVariables false
set_option linter.unusedSimpArgs false
open Go.RowKit

def tmpsOf (l : List Operand) : List Nat := l.filterMap fun | .tmp t => some t | _ => none
/-- The temporaries of a guard and of the guards that it stands under. -/
def chainG (ops : Array Oper) : Nat → Nat → List Nat
  | 0, _ => []
  | n + 1, j => match ops[j]? with
    | some o => o.dst.toList ++ (match o.guard with
      | some (j', _) => chainG ops n j'
      | none => [])
    | none => []
def looks (ops : Array Oper) (o : Oper) : List Nat := tmpsOf o.op.operands.toList ++ (match o.guard with
  | some (j, _) => chainG ops 20 j
  | none => [])
def noSlice (P : Program) : Nat → TypeId → Bool
  | 0, _ => false
  | n + 1, t => match P.underlying t with
    | some (.int _) => true
    | some .bool => true
    | some (.struct fs) => fs.toList.all fun f => noSlice P n f.type
    | some (.tuple ts) => ts.toList.all fun t => noSlice P n t
    | _ => false
/-- It looks at temporaries alone. -/
def kW : Op → Bool
  | .move _ | .assign _ | .nilCheck _ | .pick _ _ _ | .makeFunc _ _ _ | .fieldAddr _ _ _ | .binOp _ _ _ _ _ | .unOp _ _ _ | .convert _ _ _ | .extract _ _ | .field _ _ _ | .build _ _ => true
  | .call c => match c.callee with
    | .builtin .max => true
    | .builtin .min => true
    | _ => false
  | _ => false
/-- It reads memory, and leaves it as it is. -/
def kR (P : Program) (o : Oper) : Bool :=
  match o.op with
  | .load _ _ | .indexAddr _ _ _ => true
  | .call c => match c.callee with
    | .builtin .len => true
    | .value _ => noSlice P 6 o.type
    | _ => false
  | _ => false
def kA (P : Program) : Op → Bool
  | .alloc t => (arrOf P t).isNone
  | .box _ _ => true
  | _ => false
def kK : Op → Bool
  | .call c => match c.callee with
    | .builtin .append => true
    | _ => false
  | _ => false
def isSl : Op → Bool
  | .slice _ _ _ _ _ => true
  | _ => false
/-- It may leave other temporaries without their slice (u: functions that are run in place). -/
def kU (u : Bool) (op : Op) : Bool := kK op || (u && isSl op)

def apartE (ops : Array Oper) (x y : Oper) : Bool :=
  (match x.dst with
   | some d => !memN d (looks ops y) && (match y.dst with
     | some d' => !Nat.beq d d'
     | none => true)
   | none => true) &&
  (match y.dst with
   | some d => !memN d (looks ops x)
   | none => true) &&
  (match x.guard with
   | some (j, _) => (match (ops[j]?).bind (·.dst) with
     | some t => (match y.dst with
       | some d => !Nat.beq d t
       | none => true)
     | none => true)
   | none => true) &&
  (match y.guard with
   | some (j, _) => (match (ops[j]?).bind (·.dst) with
     | some t => (match x.dst with
       | some d => !Nat.beq d t
       | none => true)
     | none => true)
   | none => true)
/-- x may come before y, if y may come before x. -/
def okPair (P : Program) (u : Bool) (ops : Array Oper) (x y : Oper) : Bool :=
  apartE ops x y && ((kW x.op && !kU u y.op) || (kR P x && (kW y.op || kR P y || kA P y.op)))

def gtOf (ops : Array Oper) (o : Oper) : Option Nat :=
  match o.guard with
  | some (j, _) => (ops[j]?).bind (·.dst)
  | none => none
def guardO (s : St) : Option Nat → St
  | none => s
  | some t => s.guard t
/-- The value of an operation that leaves memory alone, and what it asks. -/
def valQ (P : Program) (Γ : Con) (ops : Array Oper) (o : Oper) (s : St) : Option (List Bool × AV) :=
  match o.guard with
  | none => opQ P Γ s [] o.op
  | some (j, p) =>
    match (ops[j]?).bind (·.dst) with
    | some t =>
      bif (gpath s 20 t p).all (fun q => memN q.1 (chainG ops 20 j)) then
        match opQ P Γ s (gpath s 20 t p) o.op with
        | some (ob, .one v) => some (ob.map (!gb s 20 t p || ·), .spec t p v)
        | _ => none
      else none
    | none => none
/-- The temporaries that a guard's value is read from are in a list. -/
def gchain (s : St) : Nat → Nat → List Nat → Bool
  | 0, _, _ => true
  | n + 1, t, l => memN t l && (match s.get t with
    | .spec t' _ _ => gchain s n t' l
    | _ => true)
def stepA (P : Program) (Γ : Con) (ops : Array Oper) (o : Oper) (s : St) : Option (List Bool × St) :=
  bif kW o.op || kR P o then
    match valQ P Γ ops o s with
    | some (ob, v) => bif (guardO s (gtOf ops o)).putOk o.dst then some (ob, (guardO s (gtOf ops o)).put o.dst v) else none
    | none => none
  else
    match o.guard with
    | none =>
      match opX P Γ s o.op with
      | some (ob, v, s') => bif s'.putOk o.dst then some (ob, s'.put o.dst v) else none
      | none => none
    | some (j, p) =>
      match (ops[j]?).bind (·.dst) with
      | some t =>
        bif (gpath s 20 t p).all (fun q => memN q.1 (chainG ops 20 j)) && gchain s 20 t (chainG ops 20 j) then
          match callG Γ s (gpath s 20 t p) o.op, gbs s 20 t p with
          | some (ob, v, ms, rr), some q => bif (s.guard t).putOk o.dst then some (ob.map (!q || ·), (withRows (s.guard t) ms (rr.map (gRow q))).put o.dst (.spec t p v)) else none
          | _, _ => none
        else none
      | none => none

def forceN : List Nat → (List Nat → Bool) → Bool
  | [], f => f []
  | x :: r, f => forceN r fun r' => f (x :: r')
theorem forceN_eq : ∀ (l : List Nat) (f : List Nat → Bool), forceN l f = f l
  | [], _ => rfl
  | x :: r, f => by rw [forceN, forceN_eq r]
/-- The operations that wait for one of a list, one after the other. -/
def waiters (ops : Array Oper) : List Nat → List Nat → List Nat
  | [], W => W
  | j :: r, W => match ops[j]? with
    | some o => bif o.after.any (fun e => Region.binds .any e && memN e.on W) then waiters ops r (j :: W) else waiters ops r W
    | none => waiters ops r W
/-- Every other operation that has not come up, and does not wait for i, may come behind it. -/
def okFirst (P : Program) (u : Bool) (ops : Array Oper) (listed : Array Bool) (i : Nat) : Bool :=
  match ops[i]? with
  | some oi => forceN (waiters ops (List.range ops.size) [i]) fun W => (List.range ops.size).all fun j => Nat.beq j i || listed.getD j true || memN j W || (match ops[j]? with
    | some oj => okPair P u ops oi oj
    | none => true)
  | none => false
def choices (P : Program) (u : Bool) (ops : Array Oper) (listed : Array Bool) : List Nat :=
  match Region.ready .any ops listed with
  | [] => []
  | [i] => [i]
  | l => match l.find? (okFirst P u ops listed) with
    | some i => [i]
    | none => l
def allD : List Nat → (Nat → Prop) → Prop
  | [], _ => True
  | [i], f => f i
  | i :: r, f => f i ∧ allD r f
/-- A region's run, operations taken as they may come up. -/
def exD (P : Program) (Γ : Con) (ops : Array Oper) : Nat → Array Bool → St → (St → Prop) → Prop
  | 0, listed, s, K => bif (Region.ready .any ops listed).isEmpty then K s else False
  | n + 1, listed, s, K =>
    match choices P Γ.uni ops listed with
    | [] => K s
    | l => allD l fun i => match ops[i]? with
      | some o => match stepA P Γ ops o s with
        | some (ob, s') => conjB ob (exD P Γ ops n (listed.setIfInBounds i true) s' K)
        | none => False
      | none => False

/-- Two states that say the same. -/
structure Same (s t : St) : Prop where
  n : s.n = t.n
  get : ∀ k, s.get k = t.get k
  gts : ∀ k, k ∈ s.gts ↔ k ∈ t.gts
  blks : s.blks = t.blks
  rows : s.rows = t.rows
  ro : s.ro = t.ro
theorem Same.refl (s : St) : Same s s := ⟨rfl, fun _ => rfl, fun _ => Iff.rfl, rfl, rfl, rfl⟩
theorem Same.symm {s t : St} (h : Same s t) : Same t s := ⟨h.n.symm, fun k => (h.get k).symm, fun k => (h.gts k).symm, h.blks.symm, h.rows.symm, h.ro.symm⟩
theorem Same.trans {s t u : St} (h : Same s t) (k : Same t u) : Same s u := ⟨h.n.trans k.n, fun x => (h.get x).trans (k.get x), fun x => (h.gts x).trans (k.gts x), h.blks.trans k.blks, h.rows.trans k.rows, h.ro.trans k.ro⟩

section
variable {P : Program} {Γ : Con} {κ : Ctx} {s t : St} {a : Act} {w : World} {ops : Array Oper}

theorem Same.rep (h : Same s t) (hR : Rep P κ s a w) : Rep P κ t a w where
  size := by rw [hR.size, h.n]
  defers := hR.defers
  fr := fun k => by rw [← h.get k]; exact hR.fr k
  gts := fun k t' p x hk => (h.gts t').1 (hR.gts k t' p x (by rw [h.get k]; exact hk))
  blkN := by rw [← h.blks]; exact hR.blkN
  blk := fun i cs b h1 h2 => hR.blk i cs b (by rw [h.blks]; exact h1) h2
  nodup := hR.nodup
  big := fun i b hi hb => hR.big i b (by rw [h.ro]; exact hi) hb
  rowN := by rw [← h.rows]; exact hR.rowN
  row := fun r ro v h1 h2 => hR.row r ro v (by rw [h.rows]; exact h1) h2
  own := fun r ro v E h1 h2 h3 => by
    obtain ⟨h4, h5⟩ := hR.own r ro v E (by rw [h.rows]; exact h1) h2 h3
    exact ⟨h4, fun g hg => ⟨(h5 g hg).1, fun r' ro' v' k1 k2 k3 k4 => (h5 g hg).2 r' ro' v' k1 (by rw [h.rows]; exact k2) k3 k4⟩⟩
  b0lt := hR.b0lt
  below := hR.below

/-- What an operation looks at is the same. -/
def Agree (l : List Nat) (s t : St) : Prop := ∀ k, k ∈ l → s.get k = t.get k
theorem ev_agree {x : Operand} (h : ∀ k, x = .tmp k → s.get k = t.get k) : ev s x = ev t x := by
  cases x with
  | tmp k => exact h k rfl
  | _ => rfl
theorem mem_tmpsOf {l : List Operand} {k : Nat} (h : Operand.tmp k ∈ l) : k ∈ tmpsOf l := List.mem_filterMap.2 ⟨_, h, rfl⟩
theorem rd_agree {l : List Operand} (h : Agree (tmpsOf l) s t) {x : Operand} (hx : x ∈ l) (gp : List (Nat × Bool)) : rd s gp x = rd t gp x := by
  unfold rd
  rw [ev_agree fun k hk => h k (mem_tmpsOf (hk ▸ hx))]
theorem rd1_agree {l : List Operand} (h : Agree (tmpsOf l) s t) {x : Operand} (hx : x ∈ l) (gp : List (Nat × Bool)) : rd1 s gp x = rd1 t gp x := by
  unfold rd1
  rw [rd_agree h hx]

/-- Memory that t sees at least as s does. -/
def More (s t : St) : Prop := (∀ (i : Nat) (cs : List CV), s.blks[i]? = some cs → t.blks[i]? = some cs) ∧ s.rows = t.rows

theorem opQ_agree {gp : List (Nat × Bool)} {o : Oper} {r : List Bool × AV} (h : Agree (tmpsOf o.op.operands.toList) s t) (hm : kW o.op = true ∨ More s t) (hr : opQ P Γ s gp o.op = some r) : opQ P Γ t gp o.op = some r := by
  cases hop : o.op with
  | move x => rw [hop] at h hr; simp only [opQ] at hr ⊢; rw [← rd_agree h (by simp [Op.operands])]; exact hr
  | assign x => rw [hop] at h hr; simp only [opQ] at hr ⊢; rw [← rd_agree h (by simp [Op.operands])]; exact hr
  | pick c x y =>
    rw [hop] at h hr
    cases c with
    | tmp k =>
      simp only [opQ] at hr ⊢
      rw [← rd1_agree h (x := .tmp k) (by simp [Op.operands]), ← rd1_agree h (x := x) (by simp [Op.operands]), ← rd1_agree h (x := y) (by simp [Op.operands])]
      exact hr
    | _ => cases hr
  | fieldAddr ty x f => rw [hop] at h hr; simp only [opQ] at hr ⊢; rw [← rd1_agree h (x := x) (by simp [Op.operands])]; exact hr
  | binOp op ty x y ty' => rw [hop] at h hr; simp only [opQ] at hr ⊢; rw [← rd1_agree h (x := x) (by simp [Op.operands]), ← rd1_agree h (x := y) (by simp [Op.operands])]; exact hr
  | unOp op ty x => rw [hop] at h hr; simp only [opQ] at hr ⊢; rw [← rd1_agree h (x := x) (by simp [Op.operands])]; exact hr
  | convert ty d x => rw [hop] at h hr; simp only [opQ] at hr ⊢; rw [← rd1_agree h (x := x) (by simp [Op.operands])]; exact hr
  | extract x i => rw [hop] at h hr; simp only [opQ] at hr ⊢; rw [← rd_agree h (x := x) (by simp [Op.operands])]; exact hr
  | field ty x f => rw [hop] at h hr; simp only [opQ] at hr ⊢; rw [← rd1_agree h (x := x) (by simp [Op.operands])]; exact hr
  | build ty parts =>
    rw [hop] at h hr
    simp only [opQ] at hr ⊢
    have e : (parts.toList.map fun (i, x) => (i, rd1 t gp x)) = (parts.toList.map fun (i, x) => (i, rd1 s gp x)) := by
      apply List.map_congr_left
      rintro ⟨i, x⟩ hp
      show (i, rd1 t gp x) = (i, rd1 s gp x)
      rw [rd1_agree h (x := x)]
      simp only [Op.operands]
      exact List.mem_map.2 ⟨(i, x), hp, rfl⟩
    rw [e]
    exact hr
  | load ty x =>
    rw [hop] at h hr hm
    have hm : More s t := by rcases hm with hm | hm; cases hm; exact hm
    simp only [opQ] at hr ⊢
    rw [← rd1_agree h (x := x) (by simp [Op.operands])]
    split at hr
    · rename_i i off he
      split at hr
      · rename_i cs hcs
        rw [hm.1 i cs hcs]; exact hr
      · cases hr
    · rename_i r' i c off he
      rw [← hm.2]; exact hr
    · cases hr
  | nilCheck x => rw [hop] at h hr; simp only [opQ] at hr ⊢; rw [← rd1_agree h (x := x) (by simp [Op.operands])]; exact hr
  | makeFunc fn first caps =>
    rw [hop] at h hr
    cases fn with
    | func f =>
      simp only [opQ] at hr ⊢
      have hmap : caps.toList.map (rd1 t gp) = caps.toList.map (rd1 s gp) := List.map_congr_left fun x hx => (rd1_agree h (by simp [Op.operands, hx]) gp).symm
      rw [hmap]
      exact hr
    | _ => cases hr
  | indexAddr ty x i =>
    rw [hop] at h hr hm
    have hm : More s t := by rcases hm with hm | hm; cases hm; exact hm
    simp only [opQ] at hr ⊢
    rw [← rd1_agree h (x := x) (by simp [Op.operands]), ← rd1_agree h (x := i) (by simp [Op.operands]), ← hm.2]
    exact hr
  | call c =>
    rw [hop] at h hr hm
    obtain ⟨callee, ⟨args⟩, ⟨tys⟩⟩ := c
    have ha : ∀ x ∈ args, rd1 t gp x = rd1 s gp x := fun x hx => (rd1_agree h (by simp [Op.operands, Call.operands, hx]) gp).symm
    have hmap : args.map (rd1 t gp) = args.map (rd1 s gp) := List.map_congr_left ha
    cases callee with
    | invoke r m => cases hr
    | value f =>
      have hm : More s t := by rcases hm with hm | hm; cases hm; exact hm
      simp only [opQ] at hr ⊢
      have hfa : fargs t gp f args = fargs s gp f args := by
        unfold fargs
        rw [hmap, ← rd1_agree h (x := f) (by simp [Op.operands, Call.operands])]
      rw [hfa, ← hm.2]
      split at hr
      · rename_i g args' hfa'
        split at hr
        · rename_i caps hcaps
          rw [gath_mono hm.1 hcaps]
          exact hr
        · cases hr
      · cases hr
    | builtin b =>
      cases b <;> first | (cases hr; done) | skip
      case len =>
        have hm2 : More s t := by rcases hm with hm | hm; cases hm; exact hm
        simp only [opQ] at hr ⊢
        split at hr
        · rw [ha _ (by simp)]
          rw [← hm2.2]
          exact hr
        · cases hr
      case max => simp only [opQ] at hr ⊢; rw [hmap]; exact hr
      case min => simp only [opQ] at hr ⊢; rw [hmap]; exact hr
  | _ => rw [hop] at hr; cases hr

theorem gpath_agree : ∀ (n k : Nat) (p : Bool), (∀ q ∈ gpath s n k p, s.get q.1 = t.get q.1) → gpath s n k p = gpath t n k p ∧ gb s n k p = gb t n k p
  | 0, _, _, _ => ⟨rfl, rfl⟩
  | n + 1, k, p, h => by
    have h0 : s.get k = t.get k := h (k, p) (by simp [gpath])
    cases hk : s.get k with
    | spec t' p' x =>
      have ih := gpath_agree n t' p' (fun q hq => h q (by simp only [gpath, hk]; exact List.mem_cons_of_mem _ hq))
      have hk' := h0 ▸ hk
      constructor
      · simp only [gpath, hk, hk', ih.1]
      · cases x with
        | cel c => cases c <;> simp only [gb, hk, hk', ih.2]
        | agg l => simp only [gb, hk, hk']
    | one x =>
      have hk' := h0 ▸ hk
      refine ⟨by simp only [gpath, hk, hk'], ?_⟩
      cases x with
      | cel c => cases c <;> simp only [gb, hk, hk']
      | agg l => simp only [gb, hk, hk']
    | tup l =>
      have hk' := h0 ▸ hk
      exact ⟨by simp only [gpath, hk, hk'], by simp only [gb, hk, hk']⟩

theorem valQ_agree {o : Oper} {r : List Bool × AV} (h : Agree (looks ops o) s t) (hm : kW o.op = true ∨ More s t) (hr : valQ P Γ ops o s = some r) : valQ P Γ ops o t = some r := by
  have h1 : Agree (tmpsOf o.op.operands.toList) s t := fun k hk => h k (List.mem_append_left _ hk)
  unfold valQ at hr ⊢
  split at hr
  · rename_i hg
    exact opQ_agree h1 hm hr
  · rename_i j p hg
    split at hr
    · rename_i k hk
      cases hc : (gpath s 20 k p).all (fun q => memN q.1 (chainG ops 20 j)) with
      | false => rw [hc] at hr; cases hr
      | true =>
        have hag := gpath_agree (s := s) (t := t) 20 k p (fun q hq => h q.1 (by
          unfold looks
          rw [hg]
          exact List.mem_append_right _ (memN_iff.1 (List.all_eq_true.1 hc q hq))))
        rw [hc, cond_true] at hr
        rw [← hag.1, ← hag.2, hc, cond_true]
        split at hr
        · rename_i ob v hq
          rw [opQ_agree h1 hm hq]
          exact hr
        · cases hr
    · cases hr

theorem inlC_agree {gp : List (Nat × Bool)} {op : Op} (h : Agree (tmpsOf op.operands.toList) s t) : inlC s gp op = inlC t gp op := by
  cases op with
  | call c =>
    obtain ⟨callee, ⟨args⟩, ⟨tys⟩⟩ := c
    cases callee with
    | value f =>
      simp only [inlC]
      unfold fargs
      have hmap : args.map (rd1 t gp) = args.map (rd1 s gp) := List.map_congr_left fun x hx => (rd1_agree h (by simp [Op.operands, Call.operands, hx]) gp).symm
      rw [hmap, ← rd1_agree h (x := f) (by simp [Op.operands, Call.operands])]
    | _ => rfl
  | _ => rfl
theorem callG_agree {gp : List (Nat × Bool)} {op : Op} (h : Agree (tmpsOf op.operands.toList) s t) (hb : s.blks = t.blks) (hr : s.rows = t.rows) : callG Γ s gp op = callG Γ t gp op := by
  unfold callG
  rw [inlC_agree h, hb, hr]
theorem gbs_agree : ∀ (n k : Nat) (p : Bool) (l : List Nat), gchain s n k l = true → (∀ x ∈ l, s.get x = t.get x) → gbs s n k p = gbs t n k p ∧ gchain t n k l = true
  | 0, _, _, _, _, _ => ⟨rfl, rfl⟩
  | n + 1, k, p, l, hc, h => by
    simp only [gchain, Bool.and_eq_true] at hc
    have hk := h k (memN_iff.1 hc.1)
    have hc2 := hc.2
    simp only [gchain, gbs, ← hk, hc.1, Bool.true_and]
    cases hs : s.get k with
    | one x => cases x with
      | cel c => cases c <;> exact ⟨rfl, rfl⟩
      | agg _ => exact ⟨rfl, rfl⟩
    | tup _ => exact ⟨rfl, rfl⟩
    | spec t' p' x =>
      rw [hs] at hc2
      obtain ⟨i1, i2⟩ := gbs_agree n t' p' l hc2 h
      cases x with
      | cel c => cases c <;> simp [i1, i2]
      | agg _ => exact ⟨rfl, i2⟩

theorem guardO_get (s : St) (g : Option Nat) (k : Nat) : (guardO s g).get k = s.get k := by
  cases g with
  | none => rfl
  | some t => simp only [guardO, St.guard]; cases s.gts.any (Nat.beq t) <;> rfl
theorem guardO_same (s : St) (g : Option Nat) : (guardO s g).n = s.n ∧ (guardO s g).blks = s.blks ∧ (guardO s g).rows = s.rows ∧ (∀ k, k ∈ (guardO s g).gts ↔ (k ∈ s.gts ∨ g = some k)) ∧ (guardO s g).ro = s.ro := by
  cases g with
  | none => exact ⟨rfl, rfl, rfl, fun k => by simp [guardO], rfl⟩
  | some t =>
    simp only [guardO, St.guard]
    cases h : s.gts.any (Nat.beq t) with
    | true =>
      refine ⟨rfl, rfl, rfl, fun k => ?_, rfl⟩
      rw [cond_true]
      constructor
      · exact .inl
      · rintro (h1 | h1)
        · exact h1
        · simp only [Option.some.injEq] at h1
          subst h1
          obtain ⟨x, hx, he⟩ := List.any_eq_true.1 h
          rw [Nat.eq_of_beq_eq_true he]; exact hx
    | false =>
      refine ⟨rfl, rfl, rfl, fun k => ?_, rfl⟩
      rw [cond_false]
      simp only [List.mem_cons, Option.some.injEq]
      constructor
      · rintro (rfl | h1)
        · exact .inr rfl
        · exact .inl h1
      · rintro (h1 | rfl)
        · exact .inr h1
        · exact .inl rfl
theorem put_same (s : St) (d : Option Tmp) (v : AV) : (s.put d v).n = s.n ∧ (s.put d v).blks = s.blks ∧ (s.put d v).rows = s.rows ∧ (s.put d v).gts = s.gts ∧ (s.put d v).ro = s.ro := by
  cases d <;> exact ⟨rfl, rfl, rfl, rfl, rfl⟩
theorem put_get (s : St) (d : Option Tmp) (v : AV) (k : Nat) : (s.put d v).get k = if d = some k then v else s.get k := by
  cases d with
  | none => simp [St.put]
  | some d => rw [St.get_put]; by_cases e : k = d <;> simp [e, eq_comm]
theorem putOk_iff (s : St) (d : Option Tmp) : s.putOk d = true ↔ ∀ k, d = some k → k < s.n ∧ k ∉ s.gts := by
  cases d with
  | none => simp [St.putOk]
  | some d =>
    simp only [St.putOk, Bool.and_eq_true, Bool.not_eq_true', Option.some.injEq, forall_eq']
    constructor
    · rintro ⟨h1, h2⟩
      refine ⟨Nat.le_of_ble_eq_true h1, fun hm => ?_⟩
      have := List.any_eq_false.1 h2 d hm
      simp at this
    · rintro ⟨h1, h2⟩
      refine ⟨Nat.ble_eq_true_of_le h1, List.any_eq_false.2 fun x hx he => h2 ?_⟩
      rw [Nat.eq_of_beq_eq_true he]; exact hx

end
end Go.Proofs.Ythfliohfkhnpiaa
