/- The operations that leave memory alone, run on states, and that they are right. No program in sight. -/
import Derived.Test.YthfliohfkhnpiaaE1
namespace Go.Proofs.Ythfliohfkhnpiaa
set_option linter.unusedVariables false
set_option linter.unusedSimpArgs false
open Go.RowKit

def CV.force {α : Type} : CV → (CV → Option α) → Option α
  | .int k n, f => f (.int k n)
  | .bool b, f => f (.bool b)
  | .ptr i o, f => f (.ptr i o)
  | .row r, f => f (.row r)
  | .elt r i c o, f => f (.elt r i c o)
  | .nilS, f => f .nilS
  | .fn g, f => f (.fn g)
  | .clo g l, f => f (.clo g l)
  | .bsl i n, f => f (.bsl i n)
  | .junk, f => f .junk
theorem CV.force_eq {α : Type} (c : CV) (f : CV → Option α) : c.force f = f c := by cases c <;> rfl
def forceL {α : Type} : List CV → (List CV → Option α) → Option α
  | [], f => f []
  | c :: r, f => c.force fun c' => forceL r fun r' => f (c' :: r')
theorem forceL_eq {α : Type} : ∀ (l : List CV) (f : List CV → Option α), forceL l f = f l
  | [], _ => rfl
  | c :: r, f => by rw [forceL, CV.force_eq, forceL_eq r]
def TV.force {α : Type} : TV → (TV → Option α) → Option α
  | .cel c, f => c.force fun c' => f (.cel c')
  | .agg l, f => forceL l fun l' => f (.agg l')
theorem TV.force_eq {α : Type} (c : TV) (f : TV → Option α) : c.force f = f c := by cases c <;> simp [TV.force, CV.force_eq, forceL_eq]
def forceT {α : Type} : List TV → (List TV → Option α) → Option α
  | [], f => f []
  | c :: r, f => c.force fun c' => forceT r fun r' => f (c' :: r')
theorem forceT_eq {α : Type} : ∀ (l : List TV) (f : List TV → Option α), forceT l f = f l
  | [], _ => rfl
  | c :: r, f => by rw [forceT, TV.force_eq, forceT_eq r]
def AV.force {α : Type} : AV → (AV → Option α) → Option α
  | .one t, f => t.force fun t' => f (.one t')
  | .tup l, f => forceT l fun l' => f (.tup l')
  | .spec t p x, f => f (.spec t p x)
theorem AV.force_eq {α : Type} (c : AV) (f : AV → Option α) : c.force f = f c := by cases c <;> simp [AV.force, TV.force_eq, forceT_eq]

def CV.ofVal : Value → CV
  | .int k n => .int k n
  | .bool b => .bool b
  | .slice none 0 0 => .nilS
  | _ => .junk
def TV.ofVal : Value → TV
  | .agg cs => .agg (cs.toList.map CV.ofVal)
  | v => .cel (CV.ofVal v)
theorem CV.ofVal_den (κ : Ctx) (v : Value) : (CV.ofVal v).Den κ v := by
  unfold CV.ofVal
  split <;> first | rfl | trivial
theorem DenL.ofVal (κ : Ctx) : ∀ (l : List Value), DenL κ (l.map CV.ofVal) l
  | [] => trivial
  | v :: r => ⟨CV.ofVal_den κ v, DenL.ofVal κ r⟩
theorem TV.ofVal_den (κ : Ctx) (v : Value) : (TV.ofVal v).Den κ v := by
  unfold TV.ofVal
  split
  · rename_i cs
    exact ⟨cs.toList, by simp, DenL.ofVal κ _⟩
  · exact CV.ofVal_den κ v

/-- An operand, as far as it is known. -/
def ev (s : St) : Operand → AV
  | .tmp t => s.get t
  | .const v => .one (TV.ofVal v)
  | .func f => .one (.cel (.fn f))
  | .global _ => .one (.cel .junk)
theorem ev_den {P : Program} {κ : Ctx} {s : St} {a : Act} {w : World} (h : Rep P κ s a w) (x : Operand) : (ev s x).Den κ a.tmps (a.eval x) := by
  cases x with
  | tmp t => exact h.get t
  | const v => exact TV.ofVal_den κ v
  | func f => rfl
  | global g => trivial

def inG (t : Nat) (p : Bool) : List (Nat × Bool) → Bool
  | [] => false
  | (t', p') :: r => (Nat.beq t t' && (p == p')) || inG t p r
/-- The guards that hold. -/
def Holds (gp : List (Nat × Bool)) (tm : Array Value) : Prop := ∀ t p, (t, p) ∈ gp → tm.getD t undef = .bool p
theorem inG_mem {t : Nat} {p : Bool} : ∀ {gp : List (Nat × Bool)}, inG t p gp = true → (t, p) ∈ gp
  | [], h => by cases h
  | (t', p') :: r, h => by
    simp only [inG, Bool.or_eq_true, Bool.and_eq_true, beq_iff_eq] at h
    rcases h with ⟨h1, h2⟩ | h
    · have := Nat.eq_of_beq_eq_true h1
      subst this h2
      exact List.mem_cons_self
    · exact List.mem_cons_of_mem _ (inG_mem h)

/-- An operand, under guards. -/
def rd (s : St) (gp : List (Nat × Bool)) (x : Operand) : AV :=
  match ev s x with
  | .spec t p y => bif inG t p gp then .one y else .one (.cel .junk)
  | z => z
theorem rd_den {P : Program} {κ : Ctx} {s : St} {a : Act} {w : World} {gp : List (Nat × Bool)} (h : Rep P κ s a w) (hg : Holds gp a.tmps) (x : Operand) : (rd s gp x).Den κ a.tmps (a.eval x) ∧ ∀ t p y, rd s gp x ≠ .spec t p y := by
  have hd := ev_den h x
  unfold rd
  generalize ev s x = e at *
  cases e with
  | one z => exact ⟨hd, fun _ _ _ => by simp⟩
  | tup l => exact ⟨hd, fun _ _ _ => by simp⟩
  | spec t p y =>
    simp only
    cases hi : inG t p gp with
    | true => exact ⟨hd.1 (hg t p (inG_mem hi)), fun _ _ _ => by simp⟩
    | false => exact ⟨trivial, fun _ _ _ => by simp⟩
def rd1 (s : St) (gp : List (Nat × Bool)) (x : Operand) : TV :=
  match rd s gp x with
  | .one t => t
  | _ => .cel .junk
theorem rd1_den {P : Program} {κ : Ctx} {s : St} {a : Act} {w : World} {gp : List (Nat × Bool)} (h : Rep P κ s a w) (hg : Holds gp a.tmps) (x : Operand) : (rd1 s gp x).Den κ (a.eval x) := by
  have := (rd_den h hg x).1
  unfold rd1
  cases hr : rd s gp x with
  | one t => rw [hr] at this; exact this
  | tup l => trivial
  | spec t p y => trivial

/-- A struct or a cell out of cells. -/
def ldc (P : Program) (t : TypeId) (cs : List CV) (off : Nat) : Option TV :=
  match P.underlying t with
  | some d =>
    bif d.isRow then
      (match P.info? t with
      | some i => bif Nat.ble (off + i.size) cs.length then some (.agg ((cs.drop off).take i.size)) else none
      | none => none)
    else (cs[off]?).map .cel
  | none => none

def gmax (a b : Int) : Int := if b > a then b else a
def gmin (a b : Int) : Int := if b < a then b else a

/-- Operations on two integers. -/
def intOp (op : BinOp) (k k' : IntKind) (a b : Int) : Option (List Bool × CV) :=
  match op with
  | .shl => some ([decide (0 ≤ b)], .int k (k.wrap (a * 2 ^ (min b.toNat k.bits))))
  | .shr => some ([decide (0 ≤ b)], .int k (a.fdiv (2 ^ (min b.toNat k.bits))))
  | op =>
    if k = k' then
      match op with
      | .add => some ([], .int k (k.wrap (a + b)))
      | .sub => some ([], .int k (k.wrap (a - b)))
      | .mul => some ([], .int k (k.wrap (a * b)))
      | .quo => some ([decide (b ≠ 0)], .int k (k.wrap (a.tdiv b)))
      | .rem => some ([decide (b ≠ 0)], .int k (a.tmod b))
      | .and => some ([], .int k (k.wrap (BitVec.ofInt k.bits a &&& BitVec.ofInt k.bits b).toNat))
      | .or => some ([], .int k (k.wrap (BitVec.ofInt k.bits a ||| BitVec.ofInt k.bits b).toNat))
      | .xor => some ([], .int k (k.wrap (BitVec.ofInt k.bits a ^^^ BitVec.ofInt k.bits b).toNat))
      | .andNot => some ([], .int k (k.wrap (BitVec.ofInt k.bits a &&& ~~~BitVec.ofInt k.bits b).toNat))
      | .eql => some ([], .bool (decide (a = b)))
      | .neq => some ([], .bool (!decide (a = b)))
      | .lss => some ([], .bool (decide (a < b)))
      | .leq => some ([], .bool (decide (a ≤ b)))
      | .gtr => some ([], .bool (decide (b < a)))
      | .geq => some ([], .bool (decide (b ≤ a)))
      | _ => none
    else none

def AllB : List Bool → Prop
  | [] => True
  | b :: r => b = true ∧ AllB r

theorem intOp_run {P : Program} {op : BinOp} {k k' : IntKind} {a b : Int} {ob : List Bool} {c : CV} (h : intOp op k k' a b = some (ob, c)) (ho : AllB ob) (t : TypeId) (x y : Operand) (w : World) :
    ∃ v, (do eqGuard op t x y (.int k a) (.int k' b); binOp op t (.int k a) (.int k' b) : Sem Value).run P w = .ok v w ∧ ∀ κ, c.Den κ v := by
  have hg : (eqGuard op t x y (.int k a) (.int k' b)).run P w = .ok () w := by cases op <;> simp [eqGuard]
  rw [Sem.run_bind, hg, Result.andThen_ok]
  by_cases hk : k = k'
  · subst hk
    cases op <;> simp only [intOp, if_true, Option.some.injEq, Prod.mk.injEq] at h <;> obtain ⟨rfl, rfl⟩ := h <;> simp only [AllB, decide_eq_true_eq, and_true] at ho
    case add => exact ⟨.int k (k.wrap (a + b)), by simp [binOp, Op.intArith], fun _ => rfl⟩
    case sub => exact ⟨.int k (k.wrap (a - b)), by simp [binOp, Op.intArith], fun _ => rfl⟩
    case mul => exact ⟨.int k (k.wrap (a * b)), by simp [binOp, Op.intArith], fun _ => rfl⟩
    case quo => exact ⟨.int k (k.wrap (a.tdiv b)), by simp [binOp, Op.intDiv, ho], fun _ => rfl⟩
    case rem => exact ⟨.int k (a.tmod b), by simp [binOp, Op.intDiv, ho], fun _ => rfl⟩
    case and => exact ⟨_, by simp [binOp, Op.intBits], fun _ => rfl⟩
    case or => exact ⟨_, by simp [binOp, Op.intBits], fun _ => rfl⟩
    case xor => exact ⟨_, by simp [binOp, Op.intBits], fun _ => rfl⟩
    case andNot => exact ⟨_, by simp [binOp, Op.intBits], fun _ => rfl⟩
    case shl => exact ⟨.int k (k.wrap (a * 2 ^ (min b.toNat k.bits))), by simp only [binOp, Op.shift]; rw [if_neg (by omega)]; rfl, fun _ => rfl⟩
    case shr => exact ⟨.int k (a.fdiv (2 ^ (min b.toNat k.bits))), by simp only [binOp, Op.shift]; rw [if_neg (by omega)]; rfl, fun _ => rfl⟩
    case eql => exact ⟨.bool (decide (a = b)), by simp [binOp, Op.intCmp]; rfl, fun _ => rfl⟩
    case neq => exact ⟨.bool (!decide (a = b)), by simp [binOp, Op.intCmp]; rfl, fun _ => rfl⟩
    case lss => exact ⟨.bool (decide (a < b)), by simp [binOp, Op.intCmp], fun _ => rfl⟩
    case leq => exact ⟨.bool (decide (a ≤ b)), by simp [binOp, Op.intCmp], fun _ => rfl⟩
    case gtr => exact ⟨.bool (decide (b < a)), by simp [binOp, Op.intCmp], fun _ => rfl⟩
    case geq => exact ⟨.bool (decide (b ≤ a)), by simp [binOp, Op.intCmp], fun _ => rfl⟩
  · cases op <;> simp only [intOp, if_neg hk, Option.some.injEq, Prod.mk.injEq, reduceCtorEq] at h
    all_goals
      obtain ⟨rfl, rfl⟩ := h
      simp only [AllB, decide_eq_true_eq, and_true] at ho
      exact ⟨_, by simp only [binOp, Op.shift]; rw [if_neg (by omega)]; rfl, fun _ => rfl⟩

/-- A value that no place in memory is part of. -/
def CV.det : CV → Option Value
  | .int k n => some (.int k n)
  | .bool b => some (.bool b)
  | .nilS => some (.slice none 0 0)
  | .fn f => some (.func (.func f) #[] #[])
  | _ => none
def detL : List CV → Option (List Value)
  | [] => some []
  | c :: r => match c.det, detL r with
    | some v, some vs => some (v :: vs)
    | _, _ => none
def TV.det : TV → Option Value
  | .cel c => c.det
  | .agg l => (detL l).map fun vs => .agg vs.toArray
def detT : List TV → Option (List Value)
  | [] => some []
  | c :: r => match c.det, detT r with
    | some v, some vs => some (v :: vs)
    | _, _ => none
def AV.det : AV → Option Value
  | .one t => t.det
  | .tup l => (detT l).map fun vs => .tuple vs.toArray
  | _ => none
theorem CV.det_den {κ : Ctx} {c : CV} {u x : Value} (h : c.det = some u) (hd : c.Den κ x) : x = u := by
  cases c <;> simp [CV.det] at h <;> subst h <;> exact hd
theorem detL_den {κ : Ctx} : ∀ {l : List CV} {us xs : List Value}, detL l = some us → DenL κ l xs → xs = us
  | [], us, [], h, _ => by simp [detL] at h; exact h.symm
  | [], _, _ :: _, _, hd => hd.elim
  | _ :: _, _, [], _, hd => hd.elim
  | c :: l, us, x :: xs, h, hd => by
    simp only [detL] at h
    cases h1 : c.det with
    | none => simp [h1] at h
    | some v =>
      cases h2 : detL l with
      | none => simp [h1, h2] at h
      | some vs =>
        simp [h1, h2] at h
        subst h
        rw [CV.det_den h1 hd.1, detL_den h2 hd.2]
theorem TV.det_den {κ : Ctx} {c : TV} {u x : Value} (h : c.det = some u) (hd : c.Den κ x) : x = u := by
  cases c with
  | cel c => exact CV.det_den h hd
  | agg l =>
    simp only [TV.det, Option.map_eq_some_iff] at h
    obtain ⟨vs, h1, rfl⟩ := h
    obtain ⟨xs, rfl, h2⟩ := hd
    rw [detL_den h1 h2]
theorem detT_den {κ : Ctx} : ∀ {l : List TV} {us xs : List Value}, detT l = some us → DenT κ l xs → xs = us
  | [], us, [], h, _ => by simp [detT] at h; exact h.symm
  | [], _, _ :: _, _, hd => hd.elim
  | _ :: _, _, [], _, hd => hd.elim
  | c :: l, us, x :: xs, h, hd => by
    simp only [detT] at h
    cases h1 : c.det with
    | none => simp [h1] at h
    | some v =>
      cases h2 : detT l with
      | none => simp [h1, h2] at h
      | some vs =>
        simp [h1, h2] at h
        subst h
        rw [TV.det_den h1 hd.1, detT_den h2 hd.2]
theorem AV.det_den {κ : Ctx} {tm : Array Value} {c : AV} {u x : Value} (h : c.det = some u) (hd : c.Den κ tm x) : x = u := by
  cases c with
  | one c => exact TV.det_den h hd
  | tup l =>
    simp only [AV.det, Option.map_eq_some_iff] at h
    obtain ⟨vs, h1, rfl⟩ := h
    obtain ⟨xs, rfl, h2⟩ := hd
    rw [detT_den h1 h2]
  | spec t p y => simp [AV.det] at h

/-- What a call comes to: what it asks, the result, and the slices that it lays. -/
structure CRes where
  pre : List Bool
  val : AV
  rows : List RowA
/-- The captured blocks of arguments, and what they hold. -/
abbrev Caps := List (Nat × List CV)
abbrev Inl := FuncId → List TV → List (List CV) → List RowS → Nat → (AV → List (List CV) → List RowS → Prop) → Prop
/-- What is known of the functions that are called: contracts; functions that are run in place. lim: rows below it are left as they are; uni: loops are run round by round. -/
structure Con where
  con : FuncId → List TV → List RowS → Caps → Option CRes
  inl : Inl
  lim : Nat
  uni : Bool
def CV.rowsOf : CV → List Nat
  | .row r => [r]
  | .elt r _ _ _ => [r]
  | _ => []
def TV.rowsOf : TV → List Nat
  | .cel c => c.rowsOf
  | .agg l => l.flatMap CV.rowsOf
def capAdd (blks : List (List CV)) (i : Nat) (acc : Caps) : Option Caps :=
  bif acc.any (fun p => Nat.beq p.1 i) then some acc else
    match blks[i]? with
    | some cs => some (acc ++ [(i, cs)])
    | none => none
def capAdds (blks : List (List CV)) : List Nat → Caps → Option Caps
  | [], acc => some acc
  | i :: r, acc => match capAdd blks i acc with
    | some acc' => capAdds blks r acc'
    | none => none
def CV.blksOf : CV → List Nat
  | .ptr i _ => [i]
  | .clo _ l => l
  | .bsl i _ => [i]
  | _ => []
def TV.blksOf : TV → List Nat
  | .cel c => c.blksOf
  | .agg l => l.flatMap CV.blksOf
/-- The captured blocks of arguments. -/
def gath (blks : List (List CV)) (args : List TV) : Option Caps := capAdds blks (args.flatMap TV.blksOf) []
def callRows (args : List TV) (caps : Caps) : List Nat := args.flatMap TV.rowsOf ++ caps.flatMap fun p => p.2.flatMap CV.rowsOf
/-- The slices and the captured blocks of a call lie in the world. -/
structure MemOk (κ : Ctx) (rows : List RowS) (caps : Caps) (w : World) : Prop where
  rowN : κ.ρ.length = rows.length
  row : ∀ (r : Nat) (ro : RowS) (v : Value), rows[r]? = some ro → κ.ρ[r]? = some v → RowOk w v ro.ro ∧ (0 < ro.ro.len → ∀ g, v.ownBlock = some g → g ∉ κ.β)
  nodup : κ.β.Nodup
  capN : (caps.map (·.1)).Nodup
  cap : ∀ (i : Nat) (cs : List CV), (i, cs) ∈ caps → ∃ (b : Nat) (xs : List Value) (T : TypeId), κ.β[i]? = some b ∧ w.heap[b]? = some (Obj.cells xs.toArray T (0, 0)) ∧ DenL κ cs xs
def Ctx.with (κ : Ctx) (ρ' : List Value) : Ctx := { κ with ρ := κ.ρ ++ ρ' }
def CPost (κ : Ctx) (cr : List Nat) (rows : List RowS) (res : CRes) (w : World) (e : Ending) (w' : World) : Prop :=
  ∃ x ρ', e = .returned x ∧ Below w.heap.size w w' ∧ res.val.Den (κ.with ρ') #[] x ∧ (∀ t p y, res.val ≠ .spec t p y) ∧ ρ'.length = res.rows.length ∧
    ∀ (i : Nat) (ro : RowA) (v : Value), res.rows[i]? = some ro → ρ'[i]? = some v → RowOk w' v ro ∧ ∀ g, 0 < ro.len → v.ownBlock = some g → w.heap.size ≤ g ∨ ∃ (r : Nat) (ro' : RowS) (u : Value), r ∈ cr ∧ rows[r]? = some ro' ∧ 0 < ro'.ro.len ∧ κ.ρ[r]? = some u ∧ u.ownBlock = some g
def AV.real : AV → Bool
  | .spec _ _ _ => false
  | _ => true
/-- What is known behind a function that was run in place. -/
def InlPost (P : Program) (κ : Ctx) (s : St) (a : Act) (K : AV → List (List CV) → List RowS → Prop) (e : Ending) (w' : World) : Prop :=
  ∃ x v κ' b r, e = .returned x ∧ LeB s.rows.length κ κ' ∧ Rep P κ' { s with blks := b, rows := r } a w' ∧ v.Den κ' #[] x ∧ v.real = true ∧ K v b r
structure SoundG (P : Program) (Γ : Con) : Prop where
  con : ∀ f args rows caps res, Γ.con f args rows caps = some res → AllB res.pre → ∀ κ w vs, MemOk κ rows caps w → DenT κ args vs →
    (∀ ws us, (callFunc f us).run P ws = .ok (.enter f us) ws) ∧ Calls P f vs.toArray w (CPost κ (callRows args caps) rows res w)
  inl : ∀ f args (s : St) K, Γ.inl f args s.blks s.rows s.ro K → ∀ κ (a : Act) w vs, Rep P κ s a w → DenT κ args vs →
    (∀ ws us, (callFunc f us).run P ws = .ok (.enter f us) ws) ∧ Calls P f vs.toArray w (InlPost P κ s a K)

def eqF (P : Program) (xs ys : List CV) : List Field → Option Bool
  | [] => some true
  | f :: r =>
    bif f.name == "_" then none else
    match xs[f.offset]?, ys[f.offset]?, P.underlying f.type with
    | some (.int k a), some (.int k' b), some (.int _) => if k = k' then (eqF P xs ys r).map (decide (a = b) && ·) else none
    | some (.bool a), some (.bool b), some .bool => (eqF P xs ys r).map ((a == b) && ·)
    | _, _, _ => none

/-- Cells set from a place on. -/
def setAt : List CV → Nat → List CV → List CV
  | cs, _, [] => cs
  | cs, o, x :: r => setAt (cs.set o x) (o + 1) r
def TV.cells : TV → List CV
  | .cel c => [c]
  | .agg l => l
def TV.solid : TV → Bool
  | .cel c => c.real
  | .agg _ => true
def fillE (pl : List (Nat × Nat)) (cs : List CV) : List (Nat × TV) → Option (List CV)
  | [] => some cs
  | (i, v) :: r =>
    match pl[i]? with
    | none => none
    | some (off, size) => bif v.solid && Nat.beq v.cells.length size && Nat.ble (off + v.cells.length) cs.length then fillE pl (setAt cs off v.cells) r else none
def placesOf (P : Program) (fs : List Field) : Option (List (Nat × Nat)) := fs.mapM (fun f => (P.info? f.type).map fun i => (f.offset, i.size))

def asC : TV → CV
  | .cel c => c
  | .agg _ => .junk

def capL : List TV → Option (List Nat)
  | [] => some []
  | .cel (.ptr i 0) :: r => match capL r with
    | some l => some (i :: l)
    | none => none
  | _ :: _ => none
/-- The function of a call, and its arguments with what it has captured. -/
def fargs (s : St) (gp : List (Nat × Bool)) (f : Operand) (l : List Operand) : Option (FuncId × List TV) :=
  match rd1 s gp f with
  | .cel (.fn g) => forceT (l.map (rd1 s gp)) fun args => some (g, args)
  | .cel (.clo g m) => forceT (l.map (rd1 s gp) ++ m.map fun i => .cel (.ptr i 0)) fun args => some (g, args)
  | _ => none
/-- The operations that leave memory alone. -/
def opQ (P : Program) (Γ : Con) (s : St) (gp : List (Nat × Bool)) : Op → Option (List Bool × AV)
  | .move x => (rd s gp x).force fun v => some ([], v)
  | .assign x => (rd s gp x).force fun v => some ([], v)
  | .pick (.tmp t) a b =>
    match rd1 s gp (.tmp t), rd1 s ((t, true) :: gp) a, rd1 s ((t, false) :: gp) b with
    | .cel (.bool c), .cel (.bool x), .cel (.bool y) => some ([], .one (.cel (.bool (cond c x y))))
    | _, _, _ => none
  | .fieldAddr t x f =>
    match P.underlying t with
    | some (.struct fs) =>
      match fs[f]? with
      | some fl =>
        match P.info? fl.type with
        | some inf => bif Nat.beq inf.size 0 then none else
          match rd1 s gp x with
          | .cel (.ptr i off) => some ([], .one (.cel (.ptr i (off + fl.offset))))
          | .cel (.elt r i c off) => some ([], .one (.cel (.elt r i c (off + fl.offset))))
          | _ => none
        | none => none
      | none => none
    | _ => none
  | .load t x =>
    match rd1 s gp x with
    | .cel (.ptr i off) =>
      match s.blks[i]? with
      | some cs => (ldc P t cs off).bind fun v => v.force fun v => some ([], .one v)
      | none => none
    | .cel (.elt r i c off) =>
      match s.rows[r]? with
      | some ro => bif Nat.beq c ro.ro.width then (ldc P t (ro.ro.cells i.toNat) off).bind fun v => v.force fun v => some ([], .one v) else none
      | none => none
    | _ => none
  | .binOp op t x y _ =>
    match rd1 s gp x, rd1 s gp y with
    | .cel (.int k a), .cel (.int k' b) => (intOp op k k' a b).map fun (o, c) => (o, .one (.cel c))
    | .cel (.bool a), .cel (.bool b) =>
      match op, P.underlying t with
      | .eql, some .bool => some ([], .one (.cel (.bool (a == b))))
      | .neq, some .bool => some ([], .one (.cel (.bool (!(a == b)))))
      | _, _ => none
    | .agg xs, .agg ys =>
      match P.underlying t with
      | some (.struct fs) =>
        bif P.stoodInHeld t || P.eqGuardType P.depth t then none else
        match op, eqF P xs ys fs.toList with
        | .eql, some b => some ([], .one (.cel (.bool b)))
        | .neq, some b => some ([], .one (.cel (.bool (!b))))
        | _, _ => none
      | _ => none
    | _, _ => none
  | .unOp op _ x =>
    match op, rd1 s gp x with
    | .not, .cel (.bool b) => some ([], .one (.cel (.bool (!b))))
    | .neg, .cel (.int k n) => some ([], .one (.cel (.int k (k.wrap (0 - n)))))
    | _, _ => none
  | .convert src dst x =>
    match P.underlying src, P.underlying dst, rd1 s gp x with
    | some _, some (.int k), .cel (.int _ n) => some ([], .one (.cel (.int k (k.wrap n))))
    | _, _, _ => none
  | .extract x i =>
    match rd s gp x with
    | .tup l => (l[i]?).bind fun v => v.force fun v => some ([], .one v)
    | _ => none
  | .field t x f =>
    match P.underlying t with
    | some (.struct fs) =>
      match fs[f]?, rd1 s gp x with
      | some fl, .agg cs => (ldc P fl.type cs fl.offset).bind fun v => v.force fun v => some ([], .one v)
      | _, _ => none
    | _ => none
  | .build t parts =>
    match P.underlying t with
    | some (.struct fs) =>
      match P.info? t, placesOf P fs.toList with
      | some it, some pl =>
        match it.zero with
        | some z => (fillE pl (z.cells.toList.map CV.ofVal) (parts.toList.map fun (i, x) => (i, rd1 s gp x))).bind fun cs => forceL cs fun cs => some ([], .one (.agg cs))
        | none => none
      | _, _ => none
    | _ => none
  | .indexAddr t x i =>
    match P.underlying t, rd1 s gp x, rd1 s gp i with
    | some (.slice e), .cel (.row r), .cel (.int _ n) =>
      match s.rows[r]?, P.info? e with
      | some ro, some inf => bif Nat.beq inf.size ro.ro.width then some ([decide (0 ≤ n), decide (n < (ro.ro.len : Int))], .one (.cel (.elt r n ro.ro.width 0))) else none
      | _, _ => none
    | some (.slice e), .cel (.bsl b len), .cel (.int _ n) =>
      match P.info? e with
      | some inf => some ([decide (0 ≤ n), decide (n < (len : Int))], .one (.cel (.ptr b (n.toNat * inf.size))))
      | none => none
    | some (.array len e), .cel (.elt r 0 c 0), .cel (.int _ n) =>
      match s.rows[r]?, P.info? e with
      | some ro, some inf => bif Nat.beq inf.size ro.ro.width && Nat.beq c ro.ro.width && Nat.ble 2 len then some ([Nat.beq ro.ro.len len, decide (0 ≤ n), decide (n < (len : Int))], .one (.cel (.elt r n c 0))) else none
      | _, _ => none
    | _, _, _ => none
  | .nilCheck x =>
    match rd1 s gp x with
    | .cel (.ptr i o) => some ([], .one (.cel (.ptr i o)))
    | .cel (.elt r i c o) => some ([], .one (.cel (.elt r i c o)))
    | _ => none
  | .makeFunc (.func f) first caps =>
    bif first.isEmpty then
      match capL (caps.toList.map (rd1 s gp)) with
      | some l => some ([], .one (.cel (.clo f l)))
      | none => none
    else none
  | .call c =>
    match c.callee with
    | .builtin .len =>
      match c.args.toList, c.argTypes.toList with
      | [x], [t] =>
        match P.underlying t, rd1 s gp x with
        | some (.slice _), .cel (.row r) =>
          match s.rows[r]? with
          | some ro => some ([], .one (.cel (.int .i64 (ro.ro.len : Int))))
          | none => none
        | some (.slice _), .cel .nilS => some ([], .one (.cel (.int .i64 0)))
        | some (.slice _), .cel (.bsl _ n) => some ([], .one (.cel (.int .i64 (n : Int))))
        | _, _ => none
      | _, _ => none
    | .builtin .max =>
      match c.args.toList.map (rd1 s gp) with
      | [.cel (.int k a), .cel (.int _ b)] => some ([], .one (.cel (.int k (gmax a b))))
      | [.cel (.int k a), .cel (.int _ b), .cel (.int _ d)] => some ([], .one (.cel (.int k (gmax (gmax a b) d))))
      | _ => none
    | .builtin .min =>
      match c.args.toList.map (rd1 s gp) with
      | [.cel (.int k a), .cel (.int _ b)] => some ([], .one (.cel (.int k (gmin a b))))
      | [.cel (.int k a), .cel (.int _ b), .cel (.int _ d)] => some ([], .one (.cel (.int k (gmin (gmin a b) d))))
      | _ => none
    | .value f =>
      match fargs s gp f c.args.toList with
      | some (g, args) =>
        match gath s.blks args with
        | some caps =>
          match Γ.con g args s.rows caps with
          | some r => match r.rows with
            | [] => match r.val.det with
              | some _ => r.val.force fun v => some (r.pre, v)
              | none => none
            | _ => none
          | none => none
        | none => none
      | none => none
    | _ => none
  | _ => none

end Go.Proofs.Ythfliohfkhnpiaa
