/- A function's contract out of its code's run. No program in sight. -/
import Derived.Test.YthfliohfkhnpiaaEc
namespace Go.Proofs.Ythfliohfkhnpiaa
set_option linter.unusedVariables false
set_option linter.unusedSimpArgs false
open Go.RowKit

/-! A loop's head, compared with what its state says. -/
def rpC : CV → CV → List (Nat × Option Nat)
  | .row r, .row r' => [(r, some r')]
  | .row r, .nilS => [(r, none)]
  | _, _ => []
def rpL : List CV → List CV → List (Nat × Option Nat)
  | c :: r, d :: s => rpC c d ++ rpL r s
  | _, _ => []
def rpA : AV → AV → List (Nat × Option Nat)
  | .one (.cel c), .one (.cel d) => rpC c d
  | .one (.agg l), .one (.agg m) => rpL l m
  | _, _ => []
def bpA : AV → AV → List (Nat × Nat)
  | .one (.cel (.ptr i _)), .one (.cel (.ptr j _)) => [(i, j)]
  | _, _ => []
def lookP {β : Type} (d : β) (k : Nat) : List (Nat × β) → β
  | [] => d
  | (i, x) :: r => bif Nat.beq i k then x else lookP d k r
def idx {α : Type} : Nat → List α → List Nat
  | _, [] => []
  | k, _ :: r => k :: idx (k + 1) r
def bmA (F s : St) : List Nat := (idx 0 F.blks).map fun i => lookP i i (F.fr.flatMap fun p => bpA p.2 (s.get p.1))
def rpB (F s : St) : Nat → List Nat → List (Nat × Option Nat)
  | k, i :: r => rpL ((F.blks[k]?).getD []) ((s.blks[i]?).getD []) ++ rpB F s (k + 1) r
  | _, [] => []
def rmA (F s : St) : List (Option Nat) := (idx 0 F.rows).map fun r => lookP (some r) r (F.fr.flatMap (fun p => rpA p.2 (s.get p.1)) ++ rpB F s 0 (bmA F s))
def SubA (s F : St) : Prop := SubAt (bmA F s) (rmA F s) s F
theorem loop_of {α : Type} {body : (Exit → St → Prop) → St → Prop} {Q : Exit → St → Prop} {s : St} (F : α → St) (I : α → Prop) (μ : α → Nat) (N : α → St → Prop) (T : α → Prop) (hN : ∀ x s', N x s' → ∃ y, I y ∧ μ y < μ x ∧ SubA s' (F y)) (hE : ∃ x, I x ∧ SubA s (F x)) (hT : ∀ x, T x = body (nextE (N x) Q) (F x)) (hr : ∀ x, I x → T x) : LoopP body Q s := by
  obtain ⟨x, h1, h2⟩ := hE
  refine ⟨α, F, I, μ, N, fun x s' h => ?_, ⟨x, _, _, h1, h2⟩, fun x hx => Eq.mp (hT x) (hr x hx)⟩
  obtain ⟨y, h3, h4, h5⟩ := hN x s' h
  exact ⟨y, h3, h4, _, _, h5⟩
structure LoopT (body : (Exit → St → Prop) → St → Prop) (Q : Exit → St → Prop) (s : St) : Prop where
  out : LoopP body Q s

def bodyOf (fn : Func) : Code := fn.body.getD .skip
def enumF : Nat → List TV → List (Nat × AV)
  | _, [] => []
  | k, t :: r => (k, .one t) :: enumF (k + 1) r
def initSt (fn : Func) (args : List TV) (rows : List RowA) (caps : List (List CV)) : St := ⟨args.length + (fn.ntmps - args.length), [], enumF 0 args, caps, rows.map (⟨·, none⟩), caps.length⟩

def resV (P : Program) (s : St) : ResultVar → Option TV
  | .tmp t => match s.get t with
    | .one x => some x
    | _ => none
  | .cell a t => match s.get a with
    | .one (.cel (.ptr i off)) => match s.blks[i]? with
      | some cs => ldc P t cs off
      | none => none
    | _ => none
def resL (P : Program) (s : St) : List ResultVar → Option (List TV)
  | [] => some []
  | x :: r => match resV P s x with
    | some t => t.force fun t => match resL P s r with
      | some l => some (t :: l)
      | none => none
    | none => none
def retVal (P : Program) (fn : Func) (s : St) : Option AV :=
  match resL P s fn.results.toList with
  | some [t] => some (.one t)
  | some l => some (.tup l)
  | none => none
def pairC : CV → CV → List (Option Nat)
  | .row r, .row _ => [some r]
  | .nilS, .row _ => [none]
  | _, _ => []
def pairL : List CV → List CV → List (Option Nat)
  | c :: r, d :: s => pairC c d ++ pairL r s
  | _, _ => []
def pairTV : TV → TV → List (Option Nat)
  | .cel c, .cel d => pairC c d
  | .agg l, .agg m => pairL l m
  | _, _ => []
def pairT : List TV → List TV → List (Option Nat)
  | c :: r, d :: s => pairTV c d ++ pairT r s
  | _, _ => []
def pairAV : AV → AV → List (Option Nat)
  | .one c, .one d => pairTV c d
  | .tup l, .tup m => pairT l m
  | _, _ => []
def omapB (b : Nat) (l : List (Option Nat)) (r : Nat) : Option (Option Nat) := bif Nat.ble b r then l[r - b]? else none
def noSp : AV → Bool
  | .spec _ _ _ => false
  | _ => true
def retOk (base : Nat) (s : St) (v : AV) (res : CRes) : Prop :=
  bif noSp res.val then
    match pairAV v res.val, res.rows with
    | [], [] => SubAV [] (omapB base []) v res.val
    | rm, rows => SubAV [] (omapB base rm) v res.val ∧ SubRows s rm (rows.map (⟨·, none⟩)) True
  else False
theorem retOk_spec {base : Nat} {s : St} {v : AV} {res : CRes} (h : retOk base s v res) : noSp res.val = true ∧ SubAV [] (omapB base (pairAV v res.val)) v res.val ∧ SubRows s (pairAV v res.val) (res.rows.map (⟨·, none⟩)) True := by
  unfold retOk at h
  cases hs : noSp res.val with
  | false => rw [hs] at h; exact h.elim
  | true =>
    rw [hs, cond_true] at h
    refine ⟨rfl, ?_⟩
    split at h
    · rename_i h1 h2
      rw [h1, h2]
      exact ⟨h, trivial⟩
    · exact h
/-- What is asked at a function's end. -/
def retPost (P : Program) (fn : Func) (base : Nat) (res : CRes) : Exit → St → Prop
  | .normal, s => match retVal P fn s with
    | some v => retOk base s v res
    | none => False
  | .ret, s => match retVal P fn s with
    | some v => retOk base s v res
    | none => False
  | _, _ => False

/-- The run of a function's body. -/
def EXD (P : Program) (Γ : Con) (fn : Func) (args : List TV) (rows : List RowA) (caps : List (List CV)) (res : CRes) : Prop := ex P Γ (bodyOf fn) (retPost P fn rows.length res) (initSt fn args rows caps)
structure EX (P : Program) (Γ : Con) (fn : Func) (args : List TV) (rows : List RowA) (caps : List (List CV)) (res : CRes) : Prop where
  out : EXD P Γ fn args rows caps res
theorem EX.of {P : Program} {Γ : Con} {fn : Func} {args : List TV} {rows : List RowA} {caps : List (List CV)} {res : CRes} {T : Prop} (h : T = EXD P Γ fn args rows caps res) (t : T) : EX P Γ fn args rows caps res := ⟨by rw [← h]; exact t⟩

section
variable {P : Program}

theorem enumF_mem : ∀ {l : List TV} {k t : Nat} {v : AV}, (t, v) ∈ enumF k l → ∃ i x, t = k + i ∧ l[i]? = some x ∧ v = .one x
  | [], _, _, _, h => by cases h
  | x :: r, k, t, v, h => by
    simp only [enumF, List.mem_cons, Prod.mk.injEq] at h
    rcases h with ⟨rfl, rfl⟩ | h
    · exact ⟨0, x, rfl, rfl, rfl⟩
    · obtain ⟨i, y, h1, h2, h3⟩ := enumF_mem h
      exact ⟨i + 1, y, by omega, by simpa using h2, h3⟩
theorem DenT.length {κ : Ctx} : ∀ {l : List TV} {xs : List Value}, DenT κ l xs → xs.length = l.length
  | [], [], _ => rfl
  | _ :: _, _ :: _, h => by simp [DenT.length h.2]
  | [], _ :: _, h => h.elim
  | _ :: _, [], h => h.elim

def blocksOf : List RowA → List Value → List Nat
  | ro :: r, v :: vs => (bif Nat.ble 1 ro.len then v.ownBlock.toList else []) ++ blocksOf r vs
  | _, _ => []
theorem blocksOf_mem : ∀ {rows : List RowA} {ρ : List Value} {g : Nat}, ρ.length = rows.length → (g ∈ blocksOf rows ρ ↔ ∃ (r : Nat) (ro : RowA) (u : Value), rows[r]? = some ro ∧ 0 < ro.len ∧ ρ[r]? = some u ∧ u.ownBlock = some g)
  | [], [], g, _ => by simp [blocksOf]
  | [], _ :: _, _, h => by simp at h
  | _ :: _, [], _, h => by simp at h
  | ro :: rows, v :: ρ, g, h => by
    have ih := blocksOf_mem (rows := rows) (ρ := ρ) (g := g) (by simpa using h)
    simp only [blocksOf, List.mem_append, ih]
    constructor
    · rintro (h1 | ⟨r, ro', u, h1, h2, h3, h4⟩)
      · cases hb : Nat.ble 1 ro.len with
        | false => rw [hb] at h1; simp at h1
        | true =>
          rw [hb] at h1
          have := Nat.le_of_ble_eq_true hb
          exact ⟨0, ro, v, rfl, by omega, rfl, by simpa using h1⟩
      · exact ⟨r + 1, ro', u, by simpa using h1, h2, by simpa using h3, h4⟩
    · rintro ⟨r, ro', u, h1, h2, h3, h4⟩
      cases r with
      | zero =>
        simp at h1 h3
        subst h1 h3
        left
        have : Nat.ble 1 ro.len = true := Nat.ble_eq_true_of_le (by omega)
        rw [this]; simpa using h4
      | succ r => exact .inr ⟨r, ro', u, by simpa using h1, h2, by simpa using h3, h4⟩

theorem init_rep {fn : Func} {args : List TV} {rows : List RowA} {caps : List (List CV)} {w : World} {ρ vs : List Value} {β : List Nat} (hr : RowsAre rows w ρ) (hc : CapsAre rows caps w β ρ) (ha : DenT ⟨w, [], β, ρ⟩ args vs) :
    Rep P ⟨w, blocksOf rows ρ, β, ρ⟩ (initSt fn args rows caps) (Act.mk (vs.toArray ++ Array.replicate (fn.ntmps - vs.toArray.size) undef) []) w := by
  have hl := ha.length
  have hle : ∀ (c : CV) (x : Value), c.Den ⟨w, [], β, ρ⟩ x → c.Den ⟨w, blocksOf rows ρ, β, ρ⟩ x := fun c x h => by cases c <;> exact h
  refine { size := by simp [initSt, hl], defers := rfl, fr := ?_, gts := ?_, blkN := hc.len, blk := fun i cs b h1 h2 => ?_, nodup := hc.nodup, big := fun i b hi hb => ?_, rowN := by simp [initSt, hr.1], row := ?_, own := ?_, b0lt := ?_, below := Below.refl _ _ }
  · intro t
    rcases St.get_mem (s := initSt fn args rows caps) (t := t) rfl with hm | hj
    · obtain ⟨i, x, h1, h2, hx⟩ := enumF_mem hm
      rw [hx]
      obtain ⟨y, h3, h4⟩ := ha.get i x h2
      rw [Nat.zero_add] at h1
      subst h1
      have hlt : t < vs.length := (List.getElem?_eq_some_iff.1 h3).1
      have e : (vs.toArray ++ Array.replicate (fn.ntmps - vs.toArray.size) undef).getD t undef = y := by
        rw [Array.getD_eq_getD_getElem?, Array.getElem?_append_left (by simpa using hlt)]
        simp [h3]
      show TV.Den _ x _
      rw [e]
      exact TV.Den.mono hle h4
    · rw [hj]; trivial
  · intro t t' p x hm
    rcases St.get_mem hm with hm | hm
    · obtain ⟨i, y, _, _, h3⟩ := enumF_mem hm
      cases h3
    · cases hm
  · obtain ⟨xs, T, h3, h4⟩ := hc.blk i b cs h1 h2
    exact ⟨xs, T, h3, h4.mono hle⟩
  · have hi : caps.length ≤ i := hi
    have h3 := (List.getElem?_eq_some_iff.1 hb).1
    have h4 := hc.len
    simp only at h3
    omega
  · intro r ro v h1 h2
    simp only [initSt, List.getElem?_map, Option.map_eq_some_iff] at h1
    obtain ⟨ro', h3, rfl⟩ := h1
    refine ⟨hr.2 r ro' v h3 h2, fun hl g hg => ⟨hc.apart r ro' v h3 h2 hl g hg, .inr ?_⟩⟩
    exact (blocksOf_mem hr.1).2 ⟨r, ro', v, h3, hl, h2, hg⟩
  · intro r ro v E h1 h2 h3
    simp only [initSt, List.getElem?_map, Option.map_eq_some_iff] at h1
    obtain ⟨ro', _, rfl⟩ := h1
    cases h3
  · intro b hb
    obtain ⟨r, ro, u, h1, h2, h3, h4⟩ := (blocksOf_mem hr.1).1 hb
    exact (hr.2 r ro u h1 h3).lt h2 h4

def resSem (tm : Array Value) : ResultVar → Sem Value
  | .tmp t => pure (tm.getD t undef)
  | .cell p t => do loadVar t (← asAddr (tm.getD p undef))
theorem results_eq (fn : Func) (tm : Array Value) : results fn tm = (do
    let vs ← fn.results.mapM (resSem tm)
    pure (if h : vs.size = 1 then vs[0] else .tuple vs)) := rfl
theorem resV_run {κ : Ctx} {s : St} {a : Act} {w : World} (hR : Rep P κ s a w) {x : ResultVar} {t : TV} (h : resV P s x = some t) :
    ∃ v, t.Den κ v ∧ (resSem a.tmps x).run P w = .ok v w := by
  cases x with
  | tmp k =>
    simp only [resV] at h
    have hd := hR.get k
    split at h
    · rename_i y he
      simp only [Option.some.injEq] at h
      subst h
      rw [he] at hd
      exact ⟨_, hd, rfl⟩
    · cases h
  | cell p k =>
    simp only [resV] at h
    have hd := hR.get p
    split at h
    · rename_i i off he
      rw [he] at hd
      obtain ⟨b, hb, hx⟩ := hd
      split at h
      · rename_i cs hcs
        obtain ⟨xs, h3, h4⟩ := blk_cells hR hcs hb
        obtain ⟨y, h5, h6⟩ := ldc_run (b := b) (o := 0) h3 h
        refine ⟨y, h5, ?_⟩
        have := h6 w (fun j y hy => h4 w (Below.refl _ _) j y hy)
        rw [Nat.zero_add] at this
        simpa [resSem, hx, asAddr, Instr.loadAt, Instr.sureAddr] using this
      · cases h
    · cases h
theorem resL_run {κ : Ctx} {s : St} {a : Act} {w : World} (hR : Rep P κ s a w) : ∀ {l : List ResultVar} {ts : List TV}, resL P s l = some ts →
    ∃ vs, DenT κ ts vs ∧ (l.mapM (resSem a.tmps)).run P w = .ok vs w
  | [], ts, h => by
    simp only [resL, Option.some.injEq] at h
    subst h
    exact ⟨[], trivial, by simp⟩
  | x :: r, ts, h => by
    simp only [resL, TV.force_eq] at h
    split at h
    · rename_i t h1
      split at h
      · rename_i l h2
        simp only [Option.some.injEq] at h
        subst h
        obtain ⟨v, h3, h4⟩ := resV_run hR h1
        obtain ⟨vs, h5, h6⟩ := resL_run hR h2
        refine ⟨v :: vs, ⟨h3, h5⟩, ?_⟩
        rw [List.mapM_cons]
        simp only [Sem.run_bind]
        rw [h4]
        simp only [Result.andThen_ok]
        rw [h6]
        simp
      · cases h
    · cases h
theorem retVal_run {κ : Ctx} {s : St} {a : Act} {w : World} {fn : Func} {v : AV} (hR : Rep P κ s a w) (h : retVal P fn s = some v) : ∃ x, v.Den κ #[] x ∧ (results fn a.tmps).run P w = .ok x w := by
  unfold retVal at h
  have key : ∀ ts, resL P s fn.results.toList = some ts → ∃ vs, DenT κ ts vs ∧ (results fn a.tmps).run P w = .ok (if h : vs.toArray.size = 1 then vs.toArray[0] else .tuple vs.toArray) w := by
    intro ts hts
    obtain ⟨vs, h1, h2⟩ := resL_run hR hts
    refine ⟨vs, h1, ?_⟩
    rw [results_eq, Array.mapM_eq_mapM_toList]
    simp only [Sem.run_bind, Sem.run_map, h2, Result.andThen_ok, Sem.run_pure]
  split at h
  · rename_i t ht
    simp only [Option.some.injEq] at h
    subst h
    obtain ⟨vs, h1, h2⟩ := key _ ht
    match vs, h1 with
    | [x], h1 => exact ⟨x, h1.1, by simpa using h2⟩
    | [], h1 => exact h1.elim
    | _ :: _ :: _, h1 => exact h1.2.elim
  · rename_i l hnot ht
    simp only [Option.some.injEq] at h
    subst h
    obtain ⟨vs, h1, h2⟩ := key _ ht
    have hne : vs.toArray.size ≠ 1 := by
      intro e
      have hl := h1.length
      have : l.length = 1 := by simp at e; omega
      match l, this with
      | [t], _ => exact hnot t rfl
    rw [dif_neg hne] at h2
    exact ⟨_, ⟨vs, rfl, h1⟩, h2⟩
  · cases h

/-- Functions that are run in place. -/
def findF (f : FuncId) : List (FuncId × Func) → Option Func
  | [] => none
  | (g, fn) :: r => bif Nat.beq f g then some fn else findF f r
def initI (fn : Func) (args : List TV) (b : List (List CV)) (r : List RowS) (ro : Nat) : St := ⟨args.length + (fn.ntmps - args.length), [], enumF 0 args, b, r, ro⟩
def retI (P : Program) (fn : Func) (ro : Nat) (K : AV → List (List CV) → List RowS → Prop) : Exit → St → Prop
  | .normal, s => match retVal P fn s with
    | some v => bif v.real && Nat.beq s.ro ro then K v s.blks s.rows else False
    | none => False
  | .ret, s => match retVal P fn s with
    | some v => bif v.real && Nat.beq s.ro ro then K v s.blks s.rows else False
    | none => False
  | _, _ => False
/-- A function whose contract was proved by hand: it may write own rows. -/
structure Spc where
  f : FuncId
  go : List TV → List (List CV) → List RowS → (AV → List (List CV) → List RowS → Prop) → Prop
def findS (f : FuncId) : List Spc → Option Spc
  | [] => none
  | x :: r => bif Nat.beq f x.f then some x else findS f r
def SoundSpc (P : Program) (x : Spc) : Prop := ∀ args (s : St) K, x.go args s.blks s.rows K → ∀ κ (a : Act) w vs, Rep P κ s a w → DenT κ args vs → Callable P x.f ∧ Calls P x.f vs.toArray w (InlPost P κ s a K)
def inlN (P : Program) (c : FuncId → List TV → List RowS → Caps → Option CRes) (tab : List (FuncId × Func)) (sps : List Spc) : Nat → Inl
  | 0 => fun _ _ _ _ _ _ => False
  | n + 1 => fun f args b r ro K => match findF f tab with
    | some fn => ex P ⟨c, inlN P c tab sps n, r.length, true⟩ (bodyOf fn) (retI P fn ro K) (initI fn args b r ro)
    | none => match findS f sps with
      | some x => x.go args b r K
      | none => False
/-- Contracts, functions that are run in place, and functions proved by hand. -/
def inlOf (P : Program) (es : List Ent) (tab : List (FuncId × Func)) (sps : List Spc) : Con := ⟨conF es, inlN P (conF es) tab sps 6, 0, false⟩
/-- Loops run round by round. -/
def uniOf (Γ : Con) : Con := ⟨Γ.con, Γ.inl, Γ.lim, true⟩
theorem uniOf_sound {P : Program} {Γ : Con} (h : SoundG P Γ) : SoundG P (uniOf Γ) := ⟨h.con, h.inl⟩
theorem findS_spec {f : FuncId} {x : Spc} : ∀ {l : List Spc}, findS f l = some x → x ∈ l ∧ x.f = f
  | [], h => by cases h
  | y :: r, h => by
    simp only [findS] at h
    cases hb : Nat.beq f y.f with
    | true =>
      rw [hb] at h
      simp only [cond_true, Option.some.injEq] at h
      subst h
      exact ⟨List.mem_cons_self, (Nat.eq_of_beq_eq_true hb).symm⟩
    | false =>
      rw [hb] at h
      obtain ⟨h1, h2⟩ := findS_spec (l := r) h
      exact ⟨List.mem_cons_of_mem _ h1, h2⟩

theorem init_repI {κ : Ctx} {s : St} {a : Act} {w : World} {fn : Func} {args : List TV} {vs : List Value} (hR : Rep P κ s a w) (ha : DenT κ args vs) :
    Rep P κ (initI fn args s.blks s.rows s.ro) (Act.mk (vs.toArray ++ Array.replicate (fn.ntmps - vs.toArray.size) undef) []) w := by
  have hl := ha.length
  refine { size := by simp [initI, hl], defers := rfl, fr := ?_, gts := ?_, blkN := hR.blkN, blk := hR.blk, nodup := hR.nodup, big := hR.big, rowN := hR.rowN, row := hR.row, own := hR.own, b0lt := hR.b0lt, below := hR.below }
  · intro t
    rcases St.get_mem (s := initI fn args s.blks s.rows s.ro) (t := t) rfl with hm | hj
    · obtain ⟨i, x, h1, h2, hx⟩ := enumF_mem hm
      rw [hx]
      obtain ⟨y, h3, h4⟩ := ha.get i x h2
      rw [Nat.zero_add] at h1
      subst h1
      have hlt : t < vs.length := (List.getElem?_eq_some_iff.1 h3).1
      have e : (vs.toArray ++ Array.replicate (fn.ntmps - vs.toArray.size) undef).getD t undef = y := by
        rw [Array.getD_eq_getD_getElem?, Array.getElem?_append_left (by simpa using hlt)]
        simp [h3]
      show TV.Den _ x _
      rw [e]
      exact h4
    · rw [hj]; trivial
  · intro t t' p x hm
    rcases St.get_mem hm with hm | hm
    · obtain ⟨i, y, _, _, h3⟩ := enumF_mem hm
      cases h3
    · cases hm

/-- The caller's state behind a function that was run in place. -/
theorem back_rep {κ κ' : Ctx} {s s' : St} {a a' : Act} {w w' : World} (hro : s'.ro = s.ro) (hR : Rep P κ s a w) (hl : LeB s.rows.length κ κ') (hR' : Rep P κ' s' a' w') : Rep P κ' { s with blks := s'.blks, rows := s'.rows } a w' where
  size := hR.size
  defers := hR.defers
  fr := fun t => AV.Den.mono (CV.Den.le (hl.le (by rw [hR.rowN]; exact Nat.le_refl _))) (hR.fr t)
  gts := hR.gts
  blkN := hR'.blkN
  blk := hR'.blk
  nodup := hR'.nodup
  big := fun i b hi hb => hR'.big i b (by rw [hro]; exact hi) hb
  rowN := hR'.rowN
  row := hR'.row
  own := hR'.own
  b0lt := hR'.b0lt
  below := hR'.below

theorem inlN_sound {c : FuncId → List TV → List RowS → Caps → Option CRes} {tab : List (FuncId × Func)} {sps : List Spc} (hc : SoundCon P c) (hm : P.follows .mixedOrders = true)
    (ht : ∀ f fn, findF f tab = some fn → P.funcs[f]? = some fn ∧ fn.body = some (bodyOf fn) ∧ (fn.name == "runtime.NumGoroutine") = false) (hsp : ∀ x ∈ sps, SoundSpc P x) :
    ∀ (n : Nat) (lim : Nat) (uni : Bool), SoundG P ⟨c, inlN P c tab sps n, lim, uni⟩
  | 0, lim, uni => ⟨hc, fun _ _ _ _ h => h.elim⟩
  | n + 1, lim, uni => by
    refine ⟨hc, fun f args s K h κ a w vs hR hd => ?_⟩
    replace h : inlN P c tab sps (n + 1) f args s.blks s.rows s.ro K := h
    unfold inlN at h
    split at h
    · rename_i fn hfn
      obtain ⟨h1, h2, h3⟩ := ht f fn hfn
      refine ⟨fun ws us => ?_, ?_⟩
      · have : ¬ ((fn.name == "runtime.NumGoroutine") = true) := by rw [h3]; simp
        simp [callFunc, h1, h2]
        simpa using this
      · refine calls_of_wp h1 h2 (wp_mono (ex_ok (inlN_sound hc hm ht hsp n s.rows.length true) hm (J := fun κ' => LeB s.rows.length κ κ') (fun _ _ hj hl => LeB.trans (Nat.le_refl _) hj hl) (fun hu => by cases hu) (bodyOf fn) _ κ _ _ w (LeB.refl _ _) (init_repI hR hd) h) fun en a' w' hq => ?_)
        obtain ⟨κ', s', hj, hR', hq⟩ := hq
        have key : ∀ v, retVal P fn s' = some v → (bif v.real && Nat.beq s'.ro s.ro then K v s'.blks s'.rows else False) → ∃ x, (results fn a'.tmps).run P w' = .ok x w' ∧ InlPost P κ s a K (.returned x) w' := by
          intro v hv hok
          cases hr : (v.real && Nat.beq s'.ro s.ro) with
          | false => rw [hr] at hok; exact hok.elim
          | true =>
            rw [hr, cond_true] at hok
            simp only [Bool.and_eq_true] at hr
            obtain ⟨x, hx, hrun⟩ := retVal_run hR' hv
            exact ⟨x, hrun, x, v, κ', s'.blks, s'.rows, rfl, hj, back_rep (Nat.eq_of_beq_eq_true hr.2) hR hj hR', hx, hr.1, hok⟩
        cases en with
        | normal =>
          simp only [retI] at hq
          split at hq
          · rename_i v hv
            obtain ⟨x, h3, h4⟩ := key v hv hq
            exact ⟨hR'.defers, x, h3, h4⟩
          · exact hq.elim
        | ret =>
          simp only [retI] at hq
          split at hq
          · rename_i v hv
            obtain ⟨x, h3, h4⟩ := key v hv hq
            exact ⟨hR'.defers, x, h3, h4⟩
          · exact hq.elim
        | exit i => exact hq.elim
        | goto l => exact hq.elim
        | panic ch => exact hq.elim
        | outgrown => exact hq.elim
    · split at h
      · rename_i x hx
        obtain ⟨h1, h2⟩ := findS_spec hx
        subst h2
        exact hsp x h1 args s K h κ a w vs hR hd
      · exact h.elim
/-- What is asked of each function that is run in place. -/
def TabOk (P : Program) : List (FuncId × Func) → Prop
  | [] => True
  | (f, fn) :: r => (P.funcs[f]? = some fn ∧ fn.body = some (bodyOf fn) ∧ (fn.name == "runtime.NumGoroutine") = false) ∧ TabOk P r
theorem tab_spec : ∀ {tab : List (FuncId × Func)}, TabOk P tab → ∀ f fn, findF f tab = some fn → P.funcs[f]? = some fn ∧ fn.body = some (bodyOf fn) ∧ (fn.name == "runtime.NumGoroutine") = false
  | [], _, f, fn, h => by cases h
  | (g, gn) :: r, ht, f, fn, h => by
    simp only [findF] at h
    cases hb : Nat.beq f g with
    | true =>
      rw [hb, cond_true] at h
      simp only [Option.some.injEq] at h
      subst h
      rw [Nat.eq_of_beq_eq_true hb]
      exact ht.1
    | false =>
      rw [hb] at h
      exact tab_spec ht.2 f fn h
theorem inlOf_sound {es : List Ent} {tab : List (FuncId × Func)} {sps : List Spc} (hes : ∀ e ∈ es, SoundEnt P e) (hm : P.follows .mixedOrders = true) (ht : TabOk P tab) (hsp : ∀ x ∈ sps, SoundSpc P x) : SoundG P (inlOf P es tab sps) := inlN_sound (conF_sound hes) hm (tab_spec ht) hsp 6 0 false

theorem ent_of_ex {Γ : Con} {e : Ent} {fn : Func} (hΓ : SoundG P Γ) (hm : P.follows .mixedOrders = true) (hf : P.funcs[e.f]? = some fn) (hb : fn.body = some (bodyOf fn)) (hn : (fn.name == "runtime.NumGoroutine") = false)
    (h : ∀ args rows caps res, e.go args rows caps = some res → AllB res.pre → EX P Γ fn args rows caps res) : SoundEnt P e := by
  intro args rows caps res hgo hpre w ρ β vs hr hca ha
  refine ⟨fun ws us => ?_, ?_⟩
  · have : ¬ ((fn.name == "runtime.NumGoroutine") = true) := by rw [hn]; simp
    simp [callFunc, hf, hb]
    simpa using this
  · refine calls_of_wp hf hb (wp_mono (ex_ok hΓ hm (J := fun κ => κ.W0 = w ∧ κ.B0 = blocksOf rows ρ) (fun _ _ hj hl => ⟨hl.w0.trans hj.1, hl.b0.trans hj.2⟩) (fun _ _ _ hj k1 k2 => ⟨k1.trans hj.1, k2.trans hj.2⟩) (bodyOf fn) _ _ _ _ w ⟨rfl, rfl⟩ (init_rep hr hca ha) (h args rows caps res hgo hpre).out) fun en a' w' hq => ?_)
    obtain ⟨κ, s, ⟨h1, h2⟩, hR, hq⟩ := hq
    have key : ∀ v, retVal P fn s = some v → retOk rows.length s v res → ∃ x, (results fn a'.tmps).run P w' = .ok x w' ∧ EPost w ρ rows res (.returned x) w' := by
      intro v hv hok
      obtain ⟨x, hx, hrun⟩ := retVal_run hR hv
      obtain ⟨hs, k1, k2⟩ := retOk_spec hok
      obtain ⟨⟨k3, k4, k5⟩, -⟩ := subRows_spec k2
      obtain ⟨rm, hrm⟩ : ∃ rm, rm = pairAV v res.val := ⟨_, rfl⟩
      rw [← hrm] at k1 k3 k4 k5
      obtain ⟨ρ', hρ'⟩ : ∃ ρ' : List Value, ρ' = rm.map fun o => match o with | some r => (κ.ρ[r]?).getD undef | none => Value.slice none 0 0 := ⟨_, rfl⟩
      have hsome : ∀ (i r : Nat), rm[i]? = some (some r) → ∃ (ro' : RowS) (ro : RowA) (u : Value), s.rows[r]? = some ro' ∧ res.rows[i]? = some ro ∧ ro'.ro = ro ∧ κ.ρ[r]? = some u ∧ ρ'[i]? = some u := by
        intro i r hi
        have hlt : i < res.rows.length := by
          have := (List.getElem?_eq_some_iff.1 hi).1
          simp at k3; omega
        obtain ⟨ro', h3, h4, _⟩ := k4 i ⟨res.rows[i], none⟩ r (by simp [hlt]) hi
        have hlt2 : r < κ.ρ.length := by rw [hR.rowN]; exact (List.getElem?_eq_some_iff.1 h3).1
        refine ⟨ro', _, κ.ρ[r], h3, List.getElem?_eq_getElem hlt, h4, List.getElem?_eq_getElem hlt2, ?_⟩
        rw [hρ']
        simp [hi, List.getElem?_eq_getElem hlt2]
      have hnone : ∀ (i : Nat), rm[i]? = some none → ρ'[i]? = some (.slice none 0 0) := by
        intro i hi
        rw [hρ']
        simp [hi]
      have hmt : MapsTo κ ⟨w, [], [], ρ ++ ρ'⟩ [] (omapB rows.length rm) := by
        constructor
        · intro i i0 hi; simp at hi
        · intro r r0 hi
          unfold omapB at hi
          cases hb : Nat.ble rows.length r with
          | false => rw [hb] at hi; cases hi
          | true =>
            rw [hb, cond_true] at hi
            have hle := Nat.le_of_ble_eq_true hb
            obtain ⟨_, _, u, _, _, _, h6, h7⟩ := hsome _ r0 hi
            show (ρ ++ ρ')[r]? = _
            rw [List.getElem?_append_right (by rw [hr.1]; exact hle), hr.1, h7, h6]
        · intro r hi
          unfold omapB at hi
          cases hb : Nat.ble rows.length r with
          | false => rw [hb] at hi; cases hi
          | true =>
            rw [hb, cond_true] at hi
            have hle := Nat.le_of_ble_eq_true hb
            show (ρ ++ ρ')[r]? = _
            rw [List.getElem?_append_right (by rw [hr.1]; exact hle), hr.1, hnone _ hi]
      refine ⟨x, hrun, x, ρ', rfl, ?_, subAV_den hmt k1 hx, ?_, ?_, ?_⟩
      · have := hR.below
        rwa [h1] at this
      · intro t p y e1
        rw [e1] at hs
        cases hs
      · rw [hρ']; simp at k3; simpa using k3
      · intro i ro u h3 h4
        have hlt : i < rm.length := by
          have := (List.getElem?_eq_some_iff.1 h3).1
          simp at k3; omega
        cases hi : rm[i] with
        | some r =>
          have hi' : rm[i]? = some (some r) := by rw [List.getElem?_eq_getElem hlt, hi]
          obtain ⟨ro', ro1, u1, h5, h6, h7, h8, h9⟩ := hsome i r hi'
          rw [h3] at h6
          rw [h4] at h9
          simp only [Option.some.injEq] at h6 h9
          subst h6 h9
          obtain ⟨h10, h11⟩ := hR.row r ro' u h5 h8
          rw [h7] at h10 h11
          refine ⟨h10, fun g hl hg => ?_⟩
          obtain ⟨_, h12⟩ := h11 hl g hg
          rw [h1, h2] at h12
          rcases h12 with h12 | h12
          · exact .inl h12
          · exact .inr ((blocksOf_mem hr.1).1 h12)
        | none =>
          have hi' : rm[i]? = some none := by rw [List.getElem?_eq_getElem hlt, hi]
          have h5 := hnone i hi'
          rw [h4] at h5
          simp only [Option.some.injEq] at h5
          subst h5
          have h0 : ro.len = 0 := k5 i ⟨ro, none⟩ (by simp [h3]) hi'
          exact ⟨⟨none, 0, by rw [h0], by omega, Nat.zero_le _, fun hl => by omega⟩, fun g hl => by omega⟩
    cases en with
    | normal =>
      simp only [retPost] at hq
      split at hq
      · rename_i v hv
        obtain ⟨x, h3, h4⟩ := key v hv hq
        exact ⟨hR.defers, x, h3, h4⟩
      · exact hq.elim
    | ret =>
      simp only [retPost] at hq
      split at hq
      · rename_i v hv
        obtain ⟨x, h3, h4⟩ := key v hv hq
        exact ⟨hR.defers, x, h3, h4⟩
      · exact hq.elim
    | exit i => exact hq.elim
    | goto l => exact hq.elim
    | panic ch => exact hq.elim
    | outgrown => exact hq.elim

end
theorem cnd_i {b : Bool} {p q : Prop} (h1 : b = true → p) (h2 : b = false → q) : cnd b p q := by
  cases b
  · exact h2 rfl
  · exact h1 rfl
theorem condF (a b : Bool) : cond a b false = (a && b) := by cases a <;> rfl
theorem condT (a b : Bool) : cond a true b = (a || b) := by cases a <;> rfl
theorem w64 {n : Int} (h1 : -9223372036854775808 ≤ n) (h2 : n ≤ 9223372036854775807) : IntKind.i64.wrap n = n := by
  simp only [IntKind.wrap, IntKind.bits, IntKind.signed, Bool.true_and, Nat.reduceSub, ge_iff_le, decide_eq_true_eq]
  split <;> omega
theorem wu64 {n : Int} (h1 : 0 ≤ n) (h2 : n ≤ 18446744073709551615) : IntKind.u64.wrap n = n := by
  simp only [IntKind.wrap, IntKind.bits, IntKind.signed, Bool.false_and, Bool.false_eq_true, if_false]
  omega
theorem tdiv_pos {a b : Int} (h1 : 0 ≤ a) : a.tdiv b = a / b := Int.tdiv_eq_ediv_of_nonneg h1
theorem tmod_pos {a b : Int} (h1 : 0 ≤ a) : a.tmod b = a % b := Int.tmod_eq_emod_of_nonneg h1
theorem snil {P : Program} : ∀ e ∈ ([] : List Ent), SoundEnt P e := fun _ h => by cases h
theorem spnil {P : Program} : ∀ e ∈ ([] : List Spc), SoundSpc P e := fun _ h => by cases h
theorem spcons {P : Program} {a : Spc} {l : List Spc} (h : SoundSpc P a) (hl : ∀ e ∈ l, SoundSpc P e) : ∀ e ∈ a :: l, SoundSpc P e := by
  intro e he
  rcases List.mem_cons.1 he with rfl | he
  · exact h
  · exact hl e he
theorem scons {P : Program} {a : Ent} {l : List Ent} (h : SoundEnt P a) (hl : ∀ e ∈ l, SoundEnt P e) : ∀ e ∈ a :: l, SoundEnt P e := by
  intro e he
  rcases List.mem_cons.1 he with rfl | he
  · exact h
  · exact hl e he

end Go.Proofs.Ythfliohfkhnpiaa
