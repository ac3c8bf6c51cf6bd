/- A symbolic run of the code: what its states say of the machine's. No program in sight. -/
import Derived.Test.YthfliohfkhnpiaaRows
import Derived.WalkKit
import Derived.Deep.QuietTactic
import Derived.Deep.MidRow
import Derived.Deep.AppendLies
import Derived.Laws.StructEq
import Derived.Below
import Derived.Lib.QuietBelow
namespace Go.Proofs.Ythfliohfkhnpiaa
set_option linter.unusedVariables false
set_option linter.unusedSimpArgs false
open Go.RowKit

/-- What one cell holds, seen from inside: own blocks and rows go by their place in a list. -/
inductive CV where
  | int (k : IntKind) (n : Int)
  | bool (b : Bool)
  | ptr (i off : Nat)
  | row (r : Nat)
  | elt (r : Nat) (i : Int) (c off : Nat)
  | nilS
  | fn (f : FuncId)
  /-- A function that has captured own blocks. -/
  | clo (f : FuncId) (caps : List Nat)
  /-- A slice of an own block: n elements. -/
  | bsl (i n : Nat)
  | junk
inductive TV where
  | cel (x : CV)
  | agg (l : List CV)
/-- What a temporary holds; `spec t p x`: x, if temporary t holds the Bool p, and nothing otherwise. -/
inductive AV where
  | one (x : TV)
  | tup (l : List TV)
  | spec (t : Nat) (p : Bool) (x : TV)

/-- The cells of an element. -/
inductive CK where
  | int (k : IntKind)
  | bool
def encR : List CK → List Int → Nat → List CV
  | [], _, _ => []
  | .int k :: r, x, j => .int k (x.getD j 0) :: encR r x (j + 1)
  | .bool :: r, x, j => .bool (decide (x.getD j 0 ≠ 0)) :: encR r x (j + 1)
/-- What a slice reads as. -/
inductive RowA where
  | ints (k : IntKind) (l : List Int)
  | recs (ks : List CK) (l : List (List Int))
def RowA.len : RowA → Nat
  | .ints _ l => l.length
  | .recs _ l => l.length
def RowA.width : RowA → Nat
  | .ints _ _ => 1
  | .recs ks _ => ks.length
def RowA.cells : RowA → Nat → List CV
  | .ints k l, i => [.int k (l.getD i 0)]
  | .recs ks l, i => encR ks (l.getD i []) 0
structure RowS where
  ro : RowA
  own : Option TypeId

structure St where
  n : Nat
  gts : List Nat
  fr : List (Nat × AV)
  blks : List (List CV)
  rows : List RowS
  /-- So many of the first blocks are another's: they are read only. -/
  ro : Nat

/-- How a state lies in the world: W0, the world when the call began; B0, the blocks of the slices that came in; β, the own blocks; ρ, the slices. -/
structure Ctx where
  W0 : World
  B0 : List Nat
  β : List Nat
  ρ : List Value

def CapsDen (β : List Nat) : List Nat → List Nat → Prop
  | [], [] => True
  | i :: r, b :: bs => β[i]? = some b ∧ CapsDen β r bs
  | _, _ => False
def capV (b : Nat) : Value := .pointer (some ⟨b, 0, none⟩)
def CV.Den (κ : Ctx) : CV → Value → Prop
  | .int k n, x => x = .int k n
  | .bool b, x => x = .bool b
  | .ptr i off, x => ∃ b, κ.β[i]? = some b ∧ x = .pointer (some ⟨b, off, none⟩)
  | .row r, x => κ.ρ[r]? = some x ∧ ∃ a n c, x = .slice a n c
  | .elt r i c off, x => ∃ b o n cap, κ.ρ[r]? = some (.slice (some ⟨b, o, none⟩) n cap) ∧ x = .pointer (some ⟨b, o + i.toNat * c + off, none⟩) ∧ 0 ≤ i ∧ i < n
  | .nilS, x => x = .slice none 0 0
  | .fn f, x => x = .func (.func f) #[] #[]
  | .clo f caps, x => ∃ bs : List Nat, CapsDen κ.β caps bs ∧ x = .func (.func f) #[] (bs.map capV).toArray
  | .bsl i n, x => ∃ b, κ.β[i]? = some b ∧ x = .slice (some ⟨b, 0, none⟩) n n
  | .junk, _ => True
def CV.real : CV → Bool
  | .junk => false
  | _ => true
def DenL (κ : Ctx) : List CV → List Value → Prop
  | [], [] => True
  | c :: r, x :: xs => c.Den κ x ∧ DenL κ r xs
  | _, _ => False
def TV.Den (κ : Ctx) : TV → Value → Prop
  | .cel x, v => x.Den κ v
  | .agg l, v => ∃ xs : List Value, v = .agg xs.toArray ∧ DenL κ l xs
def DenT (κ : Ctx) : List TV → List Value → Prop
  | [], [] => True
  | c :: r, x :: xs => c.Den κ x ∧ DenT κ r xs
  | _, _ => False
def AV.Den (κ : Ctx) (tm : Array Value) : AV → Value → Prop
  | .one x, v => x.Den κ v
  | .tup l, v => ∃ xs : List Value, v = .tuple xs.toArray ∧ DenT κ l xs
  | .spec t p x, v => (tm.getD t undef = .bool p → x.Den κ v) ∧ (tm.getD t undef ≠ .bool p → v = undef)

theorem DenL.length {κ : Ctx} : ∀ {l : List CV} {xs : List Value}, DenL κ l xs → xs.length = l.length
  | [], [], _ => rfl
  | _ :: _, _ :: _, h => by simp [DenL.length h.2]
  | [], _ :: _, h => h.elim
  | _ :: _, [], h => h.elim
theorem DenL.get {κ : Ctx} : ∀ {l : List CV} {xs : List Value}, DenL κ l xs → ∀ (j : Nat) (c : CV), l[j]? = some c → ∃ x, xs[j]? = some x ∧ c.Den κ x
  | [], _, _, j, c, h => by simp at h
  | _ :: _, [], hd, _, _, _ => hd.elim
  | c :: l, x :: xs, hd, 0, c', h => by simp at h; subst h; exact ⟨x, rfl, hd.1⟩
  | c :: l, x :: xs, hd, j + 1, c', h => by simpa using DenL.get hd.2 j c' (by simpa using h)
theorem DenL.drop {κ : Ctx} : ∀ (n : Nat) {l : List CV} {xs : List Value}, DenL κ l xs → DenL κ (l.drop n) (xs.drop n)
  | 0, _, _, h => h
  | _ + 1, [], [], h => h
  | n + 1, _ :: _, _ :: _, h => DenL.drop n h.2
  | _ + 1, [], _ :: _, h => h.elim
  | _ + 1, _ :: _, [], h => h.elim
theorem DenL.take {κ : Ctx} : ∀ (n : Nat) {l : List CV} {xs : List Value}, DenL κ l xs → DenL κ (l.take n) (xs.take n)
  | 0, _, _, _ => by simp [DenL]
  | _ + 1, [], [], h => h
  | n + 1, _ :: _, _ :: _, h => ⟨h.1, DenL.take n h.2⟩
  | _ + 1, [], _ :: _, h => h.elim
  | _ + 1, _ :: _, [], h => h.elim
theorem DenL.append {κ : Ctx} : ∀ {l m : List CV} {xs ys : List Value}, DenL κ l xs → DenL κ m ys → DenL κ (l ++ m) (xs ++ ys)
  | [], _, [], _, _, h => h
  | _ :: _, _, _ :: _, _, h, k => ⟨h.1, DenL.append h.2 k⟩
  | [], _, _ :: _, _, h, _ => h.elim
  | _ :: _, _, [], _, h, _ => h.elim
theorem DenL.set {κ : Ctx} {c : CV} {x : Value} (hc : c.Den κ x) : ∀ (n : Nat) {l : List CV} {xs : List Value}, DenL κ l xs → DenL κ (l.set n c) (xs.set n x)
  | _, [], [], h => h
  | 0, _ :: _, _ :: _, h => ⟨hc, h.2⟩
  | n + 1, _ :: _, _ :: _, h => ⟨h.1, DenL.set hc n h.2⟩
  | _, [], _ :: _, h => h.elim
  | _, _ :: _, [], h => h.elim
theorem DenL.mono {κ κ' : Ctx} (hm : ∀ (c : CV) (x : Value), c.Den κ x → c.Den κ' x) : ∀ {l : List CV} {xs : List Value}, DenL κ l xs → DenL κ' l xs
  | [], [], h => h
  | _ :: _, _ :: _, h => ⟨hm _ _ h.1, DenL.mono hm h.2⟩
  | [], _ :: _, h => h.elim
  | _ :: _, [], h => h.elim
theorem DenT.mono {κ κ' : Ctx} (hm : ∀ (c : CV) (x : Value), c.Den κ x → c.Den κ' x) : ∀ {l : List TV} {xs : List Value}, DenT κ l xs → DenT κ' l xs
  | [], [], h => h
  | .cel _ :: _, _ :: _, h => ⟨hm _ _ h.1, DenT.mono hm h.2⟩
  | .agg _ :: _, _ :: _, h => ⟨by obtain ⟨xs, h1, h2⟩ := h.1; exact ⟨xs, h1, h2.mono hm⟩, DenT.mono hm h.2⟩
  | [], _ :: _, h => h.elim
  | _ :: _, [], h => h.elim
theorem TV.Den.mono {κ κ' : Ctx} (hm : ∀ (c : CV) (x : Value), c.Den κ x → c.Den κ' x) {t : TV} {x : Value} (h : t.Den κ x) : t.Den κ' x := by
  cases t with
  | cel y => exact hm _ _ h
  | agg l => obtain ⟨xs, h1, h2⟩ := h; exact ⟨xs, h1, h2.mono hm⟩
theorem AV.Den.mono {κ κ' : Ctx} (hm : ∀ (c : CV) (x : Value), c.Den κ x → c.Den κ' x) {tm : Array Value} {t : AV} {x : Value} (h : t.Den κ tm x) : t.Den κ' tm x := by
  cases t with
  | one y => exact TV.Den.mono hm h
  | tup l => obtain ⟨xs, h1, h2⟩ := h; exact ⟨xs, h1, h2.mono hm⟩
  | spec t p y => exact ⟨fun e => TV.Den.mono hm (h.1 e), h.2⟩

/-- κ' knows all that κ knows. -/
structure Ctx.Le (κ κ' : Ctx) : Prop where
  w0 : κ'.W0 = κ.W0
  b0 : κ'.B0 = κ.B0
  β : ∀ (i b : Nat), κ.β[i]? = some b → κ'.β[i]? = some b
  ρ : ∀ (i : Nat) (v : Value), κ.ρ[i]? = some v → κ'.ρ[i]? = some v
theorem Ctx.Le.refl (κ : Ctx) : κ.Le κ := ⟨rfl, rfl, fun _ _ h => h, fun _ _ h => h⟩
theorem CapsDen.mono {β β' : List Nat} (hm : ∀ (i b : Nat), β[i]? = some b → β'[i]? = some b) : ∀ {l m : List Nat}, CapsDen β l m → CapsDen β' l m
  | [], [], h => h
  | _ :: _, _ :: _, h => ⟨hm _ _ h.1, h.2.mono hm⟩
  | [], _ :: _, h => h.elim
  | _ :: _, [], h => h.elim
/-- κ' knows all that κ knows, of the rows the first n. -/
structure LeB (n : Nat) (κ κ' : Ctx) : Prop where
  w0 : κ'.W0 = κ.W0
  b0 : κ'.B0 = κ.B0
  β : ∀ (i b : Nat), κ.β[i]? = some b → κ'.β[i]? = some b
  ρ : ∀ (i : Nat) (v : Value), i < n → κ.ρ[i]? = some v → κ'.ρ[i]? = some v
theorem LeB.refl (n : Nat) (κ : Ctx) : LeB n κ κ := ⟨rfl, rfl, fun _ _ h => h, fun _ _ _ h => h⟩
theorem LeB.trans {n m : Nat} {κ κ' κ'' : Ctx} (hnm : n ≤ m) (h : LeB n κ κ') (k : LeB m κ' κ'') : LeB n κ κ'' := ⟨k.w0.trans h.w0, k.b0.trans h.b0, fun i b hb => k.β _ _ (h.β _ _ hb), fun i v hi hv => k.ρ i v (Nat.lt_of_lt_of_le hi hnm) (h.ρ i v hi hv)⟩
theorem Ctx.Le.toB {κ κ' : Ctx} (h : κ.Le κ') (n : Nat) : LeB n κ κ' := ⟨h.w0, h.b0, h.β, fun i v _ hv => h.ρ i v hv⟩
theorem LeB.le {κ κ' : Ctx} {n : Nat} (h : LeB n κ κ') (hn : κ.ρ.length ≤ n) : κ.Le κ' := ⟨h.w0, h.b0, h.β, fun i v hv => h.ρ i v (Nat.lt_of_lt_of_le (List.getElem?_eq_some_iff.1 hv).1 hn) hv⟩
theorem CV.Den.le {κ κ' : Ctx} (hl : κ.Le κ') (c : CV) (x : Value) (h : c.Den κ x) : c.Den κ' x := by
  cases c with
  | ptr i off => obtain ⟨b, h1, h2⟩ := h; exact ⟨b, hl.β _ _ h1, h2⟩
  | row r => exact ⟨hl.ρ _ _ h.1, h.2⟩
  | elt r i c off => obtain ⟨b, o, n, cap, h1, h2⟩ := h; exact ⟨b, o, n, cap, hl.ρ _ _ h1, h2⟩
  | clo f caps => obtain ⟨bs, h1, h2⟩ := h; exact ⟨bs, h1.mono hl.β, h2⟩
  | bsl i n => obtain ⟨b, h1, h2⟩ := h; exact ⟨b, hl.β _ _ h1, h2⟩
  | _ => exact h

/-- The slice v reads as ro in the world w. -/
def RowOk (w : World) (v : Value) (ro : RowA) : Prop :=
  ∃ a cap, v = .slice a ro.len cap ∧ ro.len ≤ cap ∧ cap ≤ maxLen ∧
    (0 < ro.len → ∃ b off, a = some ⟨b, off, none⟩ ∧ b < w.heap.size ∧ ∀ i, i < ro.len → ∀ j c, (ro.cells i)[j]? = some c → ∃ x, w.cell? ⟨b, off + i * ro.width + j, none⟩ = some x ∧ ∀ κ, c.Den κ x)
theorem RowOk.below {w w' : World} {v : Value} {ro : RowA} (h : RowOk w v ro) (hb : Below w.heap.size w w') : RowOk w' v ro := by
  obtain ⟨a, cap, h1, h2, h3, h4⟩ := h
  refine ⟨a, cap, h1, h2, h3, fun hl => ?_⟩
  obtain ⟨b, off, h5, h6, h7⟩ := h4 hl
  refine ⟨b, off, h5, Nat.lt_of_lt_of_le h6 hb.size, fun i hi j c hc => ?_⟩
  obtain ⟨x, h8, h9⟩ := h7 i hi j c hc
  exact ⟨x, (hb.cell h6).trans h8, h9⟩
theorem RowOk.len_eq {w : World} {v : Value} {ro : RowA} {a : Option Addr} {n c : Nat} (h : RowOk w v ro) (e : v = .slice a n c) : ro.len = n ∧ n ≤ maxLen := by
  obtain ⟨a', c', h1, h2, h3, _⟩ := h
  rw [e] at h1
  simp only [Value.slice.injEq] at h1
  obtain ⟨_, h4, _⟩ := h1
  exact ⟨h4.symm, by omega⟩

def RowA.flat : RowA → List CV
  | .ints k l => l.map (.int k)
  | .recs ks l => l.flatMap (encR ks · 0)
def CV.plain? : CV → Option Value
  | .int k n => some (.int k n)
  | .bool b => some (.bool b)
  | _ => none

def St.get (s : St) (t : Nat) : AV := ((s.fr.find? (fun p => Nat.beq p.1 t)).map (·.2)).getD (.one (.cel .junk))

/-- The state s says the truth of the machine's act a and world w. -/
structure Rep (P : Program) (κ : Ctx) (s : St) (a : Act) (w : World) : Prop where
  size : a.tmps.size = s.n
  defers : a.defers = []
  fr : ∀ (t : Nat), (s.get t).Den κ a.tmps (a.tmps.getD t undef)
  gts : ∀ (t t' : Nat) (p : Bool) (x : TV), s.get t = AV.spec t' p x → t' ∈ s.gts
  blkN : κ.β.length = s.blks.length
  blk : ∀ (i : Nat) (cs : List CV) (b : Nat), s.blks[i]? = some cs → κ.β[i]? = some b → ∃ (xs : List Value) (T : TypeId), w.heap[b]? = some (Obj.cells xs.toArray T (0, 0)) ∧ DenL κ cs xs
  nodup : κ.β.Nodup
  big : ∀ (i b : Nat), s.ro ≤ i → κ.β[i]? = some b → κ.W0.heap.size ≤ b
  rowN : κ.ρ.length = s.rows.length
  row : ∀ (r : Nat) (ro : RowS) (v : Value), s.rows[r]? = some ro → κ.ρ[r]? = some v → RowOk w v ro.ro ∧ (0 < ro.ro.len → ∀ g, v.ownBlock = some g → g ∉ κ.β ∧ (κ.W0.heap.size ≤ g ∨ g ∈ κ.B0))
  own : ∀ (r : Nat) (ro : RowS) (v : Value) (E : TypeId), s.rows[r]? = some ro → κ.ρ[r]? = some v → ro.own = some E →
    (∃ xs, DenL κ ro.ro.flat xs ∧ w.ownsRow κ.W0.heap.size E ro.ro.width v ro.ro.len xs) ∧ ∀ g, v.ownBlock = some g → g ∉ κ.β ∧
      ∀ (r' : Nat) (ro' : RowS) (v' : Value), r' ≠ r → s.rows[r']? = some ro' → κ.ρ[r']? = some v' → (0 < ro'.ro.len ∨ ro'.own ≠ none) → v'.ownBlock ≠ some g
  b0lt : ∀ b, b ∈ κ.B0 → b < κ.W0.heap.size
  below : Below κ.W0.heap.size κ.W0 w

theorem St.get_mem {s : St} {t : Nat} {v : AV} (h : s.get t = v) : (t, v) ∈ s.fr ∨ v = .one (.cel .junk) := by
  unfold St.get at h
  cases hf : s.fr.find? (fun p => Nat.beq p.1 t) with
  | none => rw [hf] at h; simp at h; exact .inr h.symm
  | some p =>
    rw [hf] at h
    simp at h
    have h1 := List.find?_some hf
    have h2 := List.mem_of_find?_eq_some hf
    have : p.1 = t := by simpa [Nat.beq_eq_true_eq] using h1
    left
    obtain ⟨p1, p2⟩ := p
    simp at this h
    subst this h
    exact h2
theorem Rep.get {P : Program} {κ : Ctx} {s : St} {a : Act} {w : World} (h : Rep P κ s a w) (t : Nat) : (s.get t).Den κ a.tmps (a.tmps.getD t undef) := h.fr t

/-- The world has grown. -/
theorem Rep.later {P : Program} {κ : Ctx} {s : St} {a : Act} {w w' : World} (h : Rep P κ s a w) (hb : Below w.heap.size w w') : Rep P κ s a w' where
  size := h.size
  defers := h.defers
  fr := h.fr
  gts := h.gts
  blkN := h.blkN
  blk := fun i cs b h1 h2 => by
    obtain ⟨xs, T, h3, h4⟩ := h.blk i cs b h1 h2
    have hlt : b < w.heap.size := by
      rcases Nat.lt_or_ge b w.heap.size with g | g
      · exact g
      · rw [Array.getElem?_eq_none g] at h3; cases h3
    exact ⟨xs, T, (hb.block b hlt).trans h3, h4⟩
  nodup := h.nodup
  big := h.big
  rowN := h.rowN
  row := fun r ro v h1 h2 => ⟨(h.row r ro v h1 h2).1.below hb, (h.row r ro v h1 h2).2⟩
  own := fun r ro v E h1 h2 h3 => by
    obtain ⟨⟨xs, h4, h5⟩, h6⟩ := h.own r ro v E h1 h2 h3
    exact ⟨⟨xs, h4, h5.kept (row := none) ⟨hb.os, hb.tape, hb.output, hb.size, fun k hk _ => hb.block k hk⟩ (by cases v.ownBlock <;> simp)⟩, h6⟩
  b0lt := h.b0lt
  below := h.below.trans (hb.mono h.below.size)

/-- A temporary is written. -/
def St.put (s : St) (d : Option Tmp) (v : AV) : St :=
  match d with
  | none => s
  | some d => { s with fr := (d, v) :: s.fr }
def St.putOk (s : St) (d : Option Tmp) : Bool :=
  match d with
  | none => true
  | some d => Nat.ble (d + 1) s.n && !s.gts.any (Nat.beq d)

theorem getD_put (a : Act) (d t : Nat) (x : Value) (h : d < a.tmps.size) : (a.put (some d) x).tmps.getD t undef = if t = d then x else a.tmps.getD t undef := by
  simp only [Act.put, Array.getD_eq_getD_getElem?, Array.getElem?_setIfInBounds]
  by_cases e : d = t
  · subst e; simp [h]
  · rw [if_neg e, if_neg (fun h => e h.symm)]

theorem St.get_put (s : St) (d t : Nat) (v : AV) : (s.put (some d) v).get t = if t = d then v else s.get t := by
  simp only [St.get, St.put, List.find?_cons]
  by_cases e : t = d
  · subst e; simp
  · have : Nat.beq d t = false := by
      rw [Bool.eq_false_iff]; intro h; exact e (Nat.eq_of_beq_eq_true h).symm
    rw [if_neg e, this]

theorem Rep.put {P : Program} {κ : Ctx} {s : St} {a : Act} {w : World} {v : AV} {x : Value} {d : Option Tmp} (h : Rep P κ s a w) (hok : s.putOk d = true)
    (hv : v.Den κ a.tmps x) (hg : ∀ t p y, v = .spec t p y → t ∈ s.gts) : Rep P κ (s.put d v) (a.put d x) w := by
  cases d with
  | none => simpa [St.put, Act.put] using h
  | some d =>
    simp only [St.putOk, Bool.and_eq_true, Bool.not_eq_true', List.any_eq_false] at hok
    obtain ⟨h1, h2⟩ := hok
    have hd : d < a.tmps.size := by
      rw [h.size]
      exact Nat.le_of_ble_eq_true h1
    have h3 : ∀ t ∈ s.gts, t ≠ d := fun t ht e => by
      have := h2 t ht
      rw [e] at this
      simp at this
    have hden : ∀ (u : AV) (y : Value), (∀ t p z, u = .spec t p z → t ∈ s.gts) → u.Den κ a.tmps y → u.Den κ (a.put (some d) x).tmps y := by
      intro u y hu hy
      cases u with
      | one z => exact hy
      | tup l => exact hy
      | spec t p z =>
        have hne := h3 t (hu t p z rfl)
        have e := getD_put a d t x hd
        rw [if_neg hne] at e
        simp only [AV.Den, e]
        exact hy
    refine { h with size := ?_, defers := ?_, fr := ?_, gts := ?_ }
    · simpa [Act.put, St.put] using h.size
    · simpa [Act.put] using h.defers
    · intro t
      rw [St.get_put, getD_put a d t x hd]
      by_cases e : t = d
      · subst e
        rw [if_pos rfl, if_pos rfl]
        exact hden _ _ hg hv
      · rw [if_neg e, if_neg e]
        exact hden _ _ (fun t' p z hz => h.gts t t' p z hz) (h.fr t)
    · intro t t' p y hm
      rw [St.get_put] at hm
      by_cases e : t = d
      · rw [if_pos e] at hm
        exact hg t' p y hm
      · rw [if_neg e] at hm
        exact h.gts t t' p y hm

end Go.Proofs.Ythfliohfkhnpiaa
