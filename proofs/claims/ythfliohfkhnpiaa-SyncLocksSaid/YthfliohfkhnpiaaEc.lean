/- Code, run on states, is right. No program in sight. -/
import Derived.Test.YthfliohfkhnpiaaEb
import Derived.Test.YthfliohfkhnpiaaEg
namespace Go.Proofs.Ythfliohfkhnpiaa
set_option linter.unusedVariables false
set_option linter.unusedSimpArgs false
open Go.RowKit

def nextE (next : St → Prop) (Q : Exit → St → Prop) : Exit → St → Prop
  | .normal, s => next s
  | e, s => Q e s
def blockE (id : Nat) (Q : Exit → St → Prop) : Exit → St → Prop
  | .exit i, s => bif Nat.beq i id then Q .normal s else Q (.exit i) s
  | e, s => Q e s
/-- A loop: what holds at the head of each round. -/
def LoopP (body : (Exit → St → Prop) → St → Prop) (Q : Exit → St → Prop) (s : St) : Prop :=
  ∃ (α : Type) (F : α → St) (I : α → Prop) (μ : α → Nat) (N : α → St → Prop), (∀ x s', N x s' → ∃ y, I y ∧ μ y < μ x ∧ ∃ bm rm, SubAt bm rm s' (F y)) ∧ (∃ x bm rm, I x ∧ SubAt bm rm s (F x)) ∧ ∀ x, I x → body (nextE (N x) Q) (F x)

/-- A loop, round by round. -/
def unr (body : (Exit → St → Prop) → St → Prop) (Q : Exit → St → Prop) : Nat → St → Prop
  | 0, _ => False
  | n + 1, s => body (nextE (unr body Q n) Q) s
/-- The code's run on a state; Q: what is asked at each exit. -/
def ex (P : Program) (Γ : Con) : Code → (Exit → St → Prop) → St → Prop
  | .skip, Q, s => Q .normal s
  | .region _ ops draw, Q, s =>
    bif draw then exD P Γ ops ops.size (Array.replicate ops.size false) s (Q .normal) else exOps P Γ ops ops.toList s (Q .normal)
  | .seq x y, Q, s => ex P Γ x (nextE (ex P Γ y Q) Q) s
  | .cond c x y, Q, s =>
    match rd1 s [] c with
    | .cel (.bool b) => cnd b (ex P Γ x Q s) (ex P Γ y Q s)
    | _ => False
  | .block id c, Q, s => ex P Γ c (blockE id Q) s
  | .loop c, Q, s => bif Γ.uni then unr (ex P Γ c) Q 20 s else LoopP (ex P Γ c) Q s
  | .exit id, Q, s => Q (.exit id) s
  | .ret, Q, s => Q .ret s
  | _, _, _ => False

/-! What a state holds at a place. -/
def getI (s : St) (t : Nat) (k : Int → Prop) : Prop := match s.get t with
  | .one (.cel (.int _ n)) => k n
  | _ => False
def getB (s : St) (t : Nat) (k : Bool → Prop) : Prop := match s.get t with
  | .one (.cel (.bool n)) => k n
  | _ => False
def getCI (s : St) (b o : Nat) (k : Int → Prop) : Prop := match s.blks[b]? with
  | some cs => match cs[o]? with
    | some (.int _ n) => k n
    | _ => False
  | none => False
def getCB (s : St) (b o : Nat) (k : Bool → Prop) : Prop := match s.blks[b]? with
  | some cs => match cs[o]? with
    | some (.bool n) => k n
    | _ => False
  | none => False
/-- A row by the place of its slice: nil is no row. -/
def rowAt (s : St) (r : Nat) (ki : List Int → Prop) (kr : List (List Int) → Prop) : Prop := match s.rows[r]? with
  | some ro => match ro.ro with
    | .ints _ l => ki l
    | .recs _ l => kr l
  | none => False
def cvRow (s : St) (ki : List Int → Prop) (kr : List (List Int) → Prop) : CV → Prop
  | .row r => rowAt s r ki kr
  | .nilS => ki []
  | _ => False
def getR (s : St) (t : Nat) (k : List Int → Prop) : Prop := match s.get t with
  | .one (.cel c) => cvRow s k (fun _ => False) c
  | _ => False
def cvRowR (s : St) (kr : List (List Int) → Prop) : CV → Prop
  | .row r => rowAt s r (fun _ => False) kr
  | .nilS => kr []
  | _ => False
def getRR (s : St) (t : Nat) (k : List (List Int) → Prop) : Prop := match s.get t with
  | .one (.cel c) => cvRowR s k c
  | _ => False
def getCR (s : St) (b o : Nat) (k : List Int → Prop) : Prop := match s.blks[b]? with
  | some cs => match cs[o]? with
    | some c => cvRow s k (fun _ => False) c
    | none => False
  | none => False
def getCRR (s : St) (b o : Nat) (k : List (List Int) → Prop) : Prop := match s.blks[b]? with
  | some cs => match cs[o]? with
    | some c => cvRowR s k c
    | none => False
  | none => False
theorem getI_of {s : St} {t : Nat} {k : Int → Prop} (h : getI s t k) : ∃ n, k n := by
  unfold getI at h
  split at h
  · exact ⟨_, h⟩
  · exact h.elim
theorem getB_of {s : St} {t : Nat} {k : Bool → Prop} (h : getB s t k) : ∃ n, k n := by
  unfold getB at h
  split at h
  · exact ⟨_, h⟩
  · exact h.elim
theorem getCI_of {s : St} {b o : Nat} {k : Int → Prop} (h : getCI s b o k) : ∃ n, k n := by
  unfold getCI at h
  split at h
  · split at h
    · exact ⟨_, h⟩
    · exact h.elim
  · exact h.elim
theorem getCB_of {s : St} {b o : Nat} {k : Bool → Prop} (h : getCB s b o k) : ∃ n, k n := by
  unfold getCB at h
  split at h
  · split at h
    · exact ⟨_, h⟩
    · exact h.elim
  · exact h.elim
theorem cvRow_of {s : St} {c : CV} {k : List Int → Prop} (h : cvRow s k (fun _ => False) c) : ∃ n, k n := by
  cases c <;> first | exact h.elim | skip
  · simp only [cvRow, rowAt] at h
    split at h
    · split at h
      · exact ⟨_, h⟩
      · exact h.elim
    · exact h.elim
  · exact ⟨_, h⟩
theorem cvRowR_of {s : St} {c : CV} {k : List (List Int) → Prop} (h : cvRowR s k c) : ∃ n, k n := by
  cases c <;> first | exact h.elim | skip
  · simp only [cvRowR, rowAt] at h
    split at h
    · split at h
      · exact h.elim
      · exact ⟨_, h⟩
    · exact h.elim
  · exact ⟨_, h⟩
theorem getR_of {s : St} {t : Nat} {k : List Int → Prop} (h : getR s t k) : ∃ n, k n := by
  unfold getR at h
  split at h
  · exact cvRow_of h
  · exact h.elim
theorem getRR_of {s : St} {t : Nat} {k : List (List Int) → Prop} (h : getRR s t k) : ∃ n, k n := by
  unfold getRR at h
  split at h
  · exact cvRowR_of h
  · exact h.elim
theorem getCR_of {s : St} {b o : Nat} {k : List Int → Prop} (h : getCR s b o k) : ∃ n, k n := by
  unfold getCR at h
  split at h
  · split at h
    · exact cvRow_of h
    · exact h.elim
  · exact h.elim
theorem getCRR_of {s : St} {b o : Nat} {k : List (List Int) → Prop} (h : getCRR s b o k) : ∃ n, k n := by
  unfold getCRR at h
  split at h
  · split at h
    · exact cvRowR_of h
    · exact h.elim
  · exact h.elim

/-- A row by its number. -/
def getWR (s : St) (r : Nat) (k : List Int → Prop) : Prop := rowAt s r k (fun _ => False)
def getWRR (s : St) (r : Nat) (k : List (List Int) → Prop) : Prop := rowAt s r (fun _ => False) k
theorem getWR_of {s : St} {r : Nat} {k : List Int → Prop} (h : getWR s r k) : ∃ n, k n := by
  unfold getWR rowAt at h
  split at h
  · split at h
    · exact ⟨_, h⟩
    · exact h.elim
  · exact h.elim
theorem getWRR_of {s : St} {r : Nat} {k : List (List Int) → Prop} (h : getWRR s r k) : ∃ n, k n := by
  unfold getWRR rowAt at h
  split at h
  · split at h
    · exact h.elim
    · exact ⟨_, h⟩
  · exact h.elim

/-- A part of the code, and what follows it. -/
def subC : Code → List Nat → Code
  | c, [] => c
  | .seq x _, 0 :: p => subC x p
  | .seq _ y, _ :: p => subC y p
  | .cond _ x _, 0 :: p => subC x p
  | .cond _ _ y, _ :: p => subC y p
  | .block _ c, _ :: p => subC c p
  | .loop c, _ :: p => subC c p
  | c, _ => c
def kont (P : Program) (Γ : Con) : Code → List Nat → (Exit → St → Prop) → Exit → St → Prop
  | _, [], Q => Q
  | .seq x y, 0 :: p, Q => kont P Γ x p (nextE (ex P Γ y Q) Q)
  | .seq _ y, _ :: p, Q => kont P Γ y p Q
  | .cond _ x _, 0 :: p, Q => kont P Γ x p Q
  | .cond _ _ y, _ :: p, Q => kont P Γ y p Q
  | .block id c, _ :: p, Q => kont P Γ c p (blockE id Q)
  | _, _, Q => Q

def Lift (P : Program) (J : Ctx → Prop) (Q : Exit → St → Prop) (e : Exit) (a : Act) (w : World) : Prop := ∃ (κ : Ctx) (s : St), J κ ∧ Rep P κ s a w ∧ Q e s

theorem nat_min {p : Nat → Prop} (h : ∃ n, p n) : ∃ n, p n ∧ ∀ m, p m → n ≤ m := by
  obtain ⟨n, hn⟩ := h
  induction n using Nat.strongRecOn with
  | _ n ih =>
    by_cases hm : ∃ m, m < n ∧ p m
    · obtain ⟨m, h1, h2⟩ := hm
      exact ih m h1 h2
    · exact ⟨n, hn, fun m hp => Nat.le_of_not_lt fun hlt => hm ⟨m, hlt, hp⟩⟩

theorem wp_loop_ix {P : Program} {c : Code} {Q : Exit → Act → World → Prop} {α : Type} (J : α → Act → World → Prop) (μ : α → Nat) (round : ∀ x a w, J x a w → c.wp P (Exit.then (fun a' w' => ∃ y, J y a' w' ∧ μ y < μ x) Q) a w) {x : α} {a : Act} {w : World} (h : J x a w) : (Code.loop c).wp P Q a w := by
  classical
  have hmin : ∀ a w, (∃ x, J x a w) → ∃ n, (∃ x, J x a w ∧ μ x = n) ∧ ∀ m, (∃ x, J x a w ∧ μ x = m) → n ≤ m := fun a w ⟨x, hx⟩ => nat_min ⟨μ x, x, hx, rfl⟩
  refine wp_loop (fun a w => ∃ x, J x a w) (fun a w => if h : ∃ x, J x a w then (hmin a w h).choose else 0) ⟨x, h⟩ ?_
  intro a w hx
  obtain ⟨⟨x0, hx0, hμ⟩, hle⟩ := (hmin a w hx).choose_spec
  refine wp_mono (round x0 a w hx0) fun e a' w' hq => ?_
  cases e with
  | normal =>
    obtain ⟨y, hy, hlt⟩ := hq
    refine ⟨⟨y, hy⟩, ?_⟩
    rw [dif_pos ⟨y, hy⟩, dif_pos hx]
    have h2 := (hmin a' w' ⟨y, hy⟩).choose_spec.2 (μ y) ⟨y, hy, rfl⟩
    omega
  | _ => exact hq

theorem ex_ok {P : Program} {Γ : Con} (hΓ : SoundG P Γ) (hm : P.follows .mixedOrders = true) {J : Ctx → Prop} (hJ : ∀ κ κ', J κ → LeB Γ.lim κ κ' → J κ') (hJ2 : Γ.uni = false → ∀ κ κ' : Ctx, J κ → κ'.W0 = κ.W0 → κ'.B0 = κ.B0 → J κ') : ∀ (c : Code) (Q : Exit → St → Prop) (κ : Ctx) (s : St) (a : Act) (w : World), J κ → Rep P κ s a w → ex P Γ c Q s → c.wp P (Lift P J Q) a w := by
  intro c
  induction c with
  | skip => exact fun Q κ s a w h1 hR h => wp_skip ⟨κ, s, h1, hR, h⟩
  | exit id => exact fun Q κ s a w h1 hR h => wp_exit ⟨κ, s, h1, hR, h⟩
  | ret => exact fun Q κ s a w h1 hR h => wp_ret ⟨κ, s, h1, hR, h⟩
  | region id ops draw =>
    intro Q κ s a w h1 hR h
    cases draw with
    | false =>
      refine wp_region ?_
      have h : exOps P Γ ops ops.toList s (Q .normal) := h
      have := exOps_ok (ops := ops) hΓ hJ (Q := Lift P J Q) (fun κ' s' a' w' k1 k3 k4 => ⟨κ', s', k1, k3, k4⟩) ops.toList 0 κ s a w (by simp) h1 hR h
      rwa [Array.length_toList, ← List.range_eq_range'] at this
    | true =>
      simp only [ex, cond_true] at h
      exact exD_ok hΓ hm hJ (Q := Lift P J Q) (fun κ' s' a' w' k1 hR' hk => ⟨κ', s', k1, hR', hk⟩) h1 hR h
  | seq x y ihx ihy =>
    intro Q κ s a w h1 hR h
    refine wp_seq (wp_mono (ihx _ κ s a w h1 hR h) fun e a' w' hq => ?_)
    obtain ⟨κ', s', k1, k3, k4⟩ := hq
    cases e with
    | normal => exact ihy Q κ' s' a' w' k1 k3 k4
    | _ => exact ⟨κ', s', k1, k3, k4⟩
  | cond c x y ihx ihy =>
    intro Q κ s a w h1 hR h
    have hc := rd1_den hR (holds_nil _) c
    simp only [ex] at h
    split at h
    · rename_i b he
      rw [he] at hc
      have hc : a.eval c = .bool b := hc
      refine wp_cond hc ?_
      cases b with
      | true => exact ihx Q κ s a w h1 hR h
      | false => exact ihy Q κ s a w h1 hR h
    · exact h.elim
  | block id c ih =>
    intro Q κ s a w h1 hR h
    refine wp_block (wp_mono (ih _ κ s a w h1 hR h) fun e a' w' hq => ?_)
    obtain ⟨κ', s', k1, k3, k4⟩ := hq
    cases e with
    | exit i =>
      simp only [Exit.inBlock]
      simp only [blockE] at k4
      cases hi : Nat.beq i id with
      | true =>
        rw [hi] at k4
        rw [if_pos (Nat.eq_of_beq_eq_true hi)]
        exact ⟨κ', s', k1, k3, k4⟩
      | false =>
        rw [hi] at k4
        rw [if_neg (fun e => by subst e; simp at hi)]
        exact ⟨κ', s', k1, k3, k4⟩
    | _ => exact ⟨κ', s', k1, k3, k4⟩
  | loop c ih =>
    intro Q κ s a w h1 hR h
    simp only [ex] at h
    cases hu : Γ.uni with
    | true =>
      rw [hu, cond_true] at h
      refine wp_loop_ix (α := Nat) (fun n a w => ∃ (κ' : Ctx) (s' : St), J κ' ∧ Rep P κ' s' a w ∧ unr (ex P Γ c) Q n s') id ?_ ⟨κ, s, h1, hR, h⟩
      intro n a' w' hj
      obtain ⟨κ', s', k1, k2, k3⟩ := hj
      cases n with
      | zero => exact k3.elim
      | succ n =>
        refine wp_mono (ih _ κ' s' a' w' k1 k2 k3) fun e a2 w2 hq => ?_
        obtain ⟨κ2, s2, k5, k7, k8⟩ := hq
        cases e with
        | normal => exact ⟨n, ⟨κ2, s2, k5, k7, k8⟩, Nat.lt_succ_self n⟩
        | _ => exact ⟨κ2, s2, k5, k7, k8⟩
    | false =>
      rw [hu, cond_false] at h
      obtain ⟨α, F, I, μ, N, hN, ⟨x, bm, rm, hx, hs⟩, hround⟩ := h
      obtain ⟨κ0, k1, k2, hR0⟩ := subAt_rep hs hR
      refine wp_loop_ix (fun x a w => I x ∧ ∃ κ' : Ctx, J κ' ∧ Rep P κ' (F x) a w) μ ?_ ⟨hx, κ0, hJ2 hu _ _ h1 k1 k2, hR0⟩
      intro x' a' w' hJ
      obtain ⟨hI, κ', k3, hR'⟩ := hJ
      refine wp_mono (ih _ κ' (F x') a' w' k3 hR' (hround x' hI)) fun e a2 w2 hq => ?_
      obtain ⟨κ2, s2, k5, k7, k8⟩ := hq
      cases e with
      | normal =>
        obtain ⟨y, h3, h4, bm', rm', h5⟩ := hN x' s2 k8
        obtain ⟨κ3, k9, k10, hR3⟩ := subAt_rep h5 k7
        exact ⟨y, ⟨h3, κ3, hJ2 hu _ _ k5 k9 k10, hR3⟩, h4⟩
      | _ => exact ⟨κ2, s2, k5, k7, k8⟩
  | rangeFunc f ps x y ihx ihy => exact fun Q κ s a w h1 hR h => h.elim
  | scope c ih => exact fun Q κ s a w h1 hR h => h.elim
  | label l => exact fun Q κ s a w h1 hR h => h.elim
  | goto l => exact fun Q κ s a w h1 hR h => h.elim
  | refuse y => exact fun Q κ s a w h1 hR h => h.elim

/-! ### A function's contract -/

structure Ent where
  f : FuncId
  kinds : List RowA
  go : List TV → List RowA → List (List CV) → Option CRes

def EPost (w : World) (ρ : List Value) (rows : List RowA) (res : CRes) (e : Ending) (w' : World) : Prop :=
  ∃ x ρ', e = .returned x ∧ Below w.heap.size w w' ∧ res.val.Den ⟨w, [], [], ρ ++ ρ'⟩ #[] x ∧ (∀ t p y, res.val ≠ .spec t p y) ∧ ρ'.length = res.rows.length ∧
    ∀ (i : Nat) (ro : RowA) (v : Value), res.rows[i]? = some ro → ρ'[i]? = some v → RowOk w' v ro ∧ ∀ g, 0 < ro.len → v.ownBlock = some g → w.heap.size ≤ g ∨ ∃ (r : Nat) (ro' : RowA) (u : Value), rows[r]? = some ro' ∧ 0 < ro'.len ∧ ρ[r]? = some u ∧ u.ownBlock = some g
def RowsAre (rows : List RowA) (w : World) (ρ : List Value) : Prop := ρ.length = rows.length ∧ ∀ (r : Nat) (ro : RowA) (v : Value), rows[r]? = some ro → ρ[r]? = some v → RowOk w v ro
/-- The captured blocks lie in the world, apart from the slices. -/
structure CapsAre (rows : List RowA) (caps : List (List CV)) (w : World) (β : List Nat) (ρ : List Value) : Prop where
  len : β.length = caps.length
  blk : ∀ (j b : Nat) (cs : List CV), caps[j]? = some cs → β[j]? = some b → ∃ (xs : List Value) (T : TypeId), w.heap[b]? = some (Obj.cells xs.toArray T (0, 0)) ∧ DenL ⟨w, [], β, ρ⟩ cs xs
  nodup : β.Nodup
  apart : ∀ (r : Nat) (ro : RowA) (v : Value), rows[r]? = some ro → ρ[r]? = some v → 0 < ro.len → ∀ g, v.ownBlock = some g → g ∉ β
def Callable (P : Program) (f : FuncId) : Prop := ∀ ws us, (callFunc f us).run P ws = .ok (.enter f us) ws
def SoundEnt (P : Program) (e : Ent) : Prop := ∀ args rows caps res, e.go args rows caps = some res → AllB res.pre → ∀ w ρ β vs, RowsAre rows w ρ → CapsAre rows caps w β ρ → DenT ⟨w, [], β, ρ⟩ args vs →
  Callable P e.f ∧ Calls P e.f vs.toArray w (EPost w ρ rows res)

/-! Arguments in a form of their own: rows, and captured blocks, by the order in which they come. -/
def posN (i : Nat) : List Nat → Option Nat
  | [] => none
  | j :: r => bif Nat.beq i j then some 0 else match posN i r with
    | some k => some (k + 1)
    | none => none
def posL (cm : List Nat) : List Nat → Option (List Nat)
  | [] => some []
  | i :: r => match posN i cm, posL cm r with
    | some j, some l => some (j :: l)
    | _, _ => none
theorem posN_spec {i : Nat} : ∀ {cm : List Nat} {j : Nat}, posN i cm = some j → cm[j]? = some i
  | [], _, h => by cases h
  | k :: r, j, h => by
    simp only [posN] at h
    cases hb : Nat.beq i k with
    | true =>
      rw [hb, cond_true] at h
      simp only [Option.some.injEq] at h
      subst h
      rw [Nat.eq_of_beq_eq_true hb]; rfl
    | false =>
      rw [hb, cond_false] at h
      split at h
      · rename_i k' hk
        simp only [Option.some.injEq] at h
        subst h
        simpa using posN_spec hk
      · cases h
def canC (rows : List RowS) (cm : List Nat) (k : Nat) (kinds : List RowA) : CV → Option (CV × List (RowA × Option Nat))
  | .row r => match rows[r]? with
    | some ro => some (.row k, [(ro.ro, some r)])
    | none => none
  | .nilS => match kinds[k]? with
    | some ro => bif Nat.beq ro.len 0 then some (.row k, [(ro, none)]) else none
    | none => some (.nilS, [])
  | .int kd n => some (.int kd n, [])
  | .bool b => some (.bool b, [])
  | .fn f => some (.fn f, [])
  | .ptr i o => match posN i cm with
    | some j => some (.ptr j o, [])
    | none => none
  | .clo f l => match posL cm l with
    | some l' => some (.clo f l', [])
    | none => none
  | .bsl i n => match posN i cm with
    | some j => some (.bsl j n, [])
    | none => none
  | _ => none
def canL (rows : List RowS) (cm : List Nat) (k : Nat) (kinds : List RowA) : List CV → Option (List CV × List (RowA × Option Nat))
  | [] => some ([], [])
  | c :: r => match canC rows cm k kinds c with
    | some (c', m) => match canL rows cm (k + m.length) kinds r with
      | some (r', m') => some (c' :: r', m ++ m')
      | none => none
    | none => none
def canTV (rows : List RowS) (cm : List Nat) (k : Nat) (kinds : List RowA) : TV → Option (TV × List (RowA × Option Nat))
  | .cel c => (canC rows cm k kinds c).map fun p => (.cel p.1, p.2)
  | .agg l => (canL rows cm k kinds l).map fun p => (.agg p.1, p.2)
def canT (rows : List RowS) (cm : List Nat) (k : Nat) (kinds : List RowA) : List TV → Option (List TV × List (RowA × Option Nat))
  | [] => some ([], [])
  | c :: r => match canTV rows cm k kinds c with
    | some (c', m) => match canT rows cm (k + m.length) kinds r with
      | some (r', m') => some (c' :: r', m ++ m')
      | none => none
    | none => none
def canB (rows : List RowS) (cm : List Nat) (k : Nat) (kinds : List RowA) : List (List CV) → Option (List (List CV) × List (RowA × Option Nat))
  | [] => some ([], [])
  | c :: r => match canL rows cm k kinds c with
    | some (c', m) => match canB rows cm (k + m.length) kinds r with
      | some (r', m') => some (c' :: r', m ++ m')
      | none => none
    | none => none
def CV.shift (b b' : Nat) : CV → CV
  | .row r => .row (r - b + b')
  | c => c
def CV.shiftOk (b : Nat) : CV → Bool
  | .row r => Nat.ble b r
  | .ptr _ _ => false
  | .elt _ _ _ _ => false
  | .clo _ _ => false
  | .bsl _ _ => false
  | _ => true
def TV.shift (b b' : Nat) : TV → TV
  | .cel c => .cel (c.shift b b')
  | .agg l => .agg (l.map (CV.shift b b'))
def TV.shiftOk (b : Nat) : TV → Bool
  | .cel c => c.shiftOk b
  | .agg l => l.all (CV.shiftOk b)
def AV.shift (b b' : Nat) : AV → AV
  | .one t => .one (t.shift b b')
  | .tup l => .tup (l.map (TV.shift b b'))
  | .spec t p x => .spec t p x
def AV.shiftOk (b : Nat) : AV → Bool
  | .one t => t.shiftOk b
  | .tup l => l.all (TV.shiftOk b)
  | .spec _ _ _ => false
def tryE (e : Ent) (args : List TV) (rows : List RowS) (caps : Caps) : Option CRes :=
  match canT rows (caps.map (·.1)) 0 e.kinds args with
  | some (args', m) =>
    match canB rows (caps.map (·.1)) m.length e.kinds (caps.map (·.2)) with
    | some (caps', m') =>
      match e.go args' ((m ++ m').map (·.1)) caps' with
      | some r => bif r.val.shiftOk (m ++ m').length then some ⟨r.pre, r.val.shift (m ++ m').length rows.length, r.rows⟩ else none
      | none => none
    | none => none
  | none => none
def conF : List Ent → FuncId → List TV → List RowS → Caps → Option CRes
  | [], _, _, _, _ => none
  | e :: es, f, args, rows, caps => bif Nat.beq f e.f then (match tryE e args rows caps with
    | some r => some r
    | none => conF es f args rows caps) else conF es f args rows caps
def conOf (es : List Ent) : Con := ⟨conF es, fun _ _ _ _ _ _ => False, 0, false⟩

section
variable {P : Program} {κ : Ctx} {rows : List RowS} {kinds : List RowA} {w : World}

def ρOf (κ : Ctx) (m : List (RowA × Option Nat)) : List Value := m.map fun p => match p.2 with
  | some r => (κ.ρ[r]?).getD undef
  | none => .slice none 0 0
/-- The rows of the arguments' own form: each is a row of the caller's that an argument is part of, or nil. -/
structure CanOk (κ : Ctx) (rows : List RowS) (rs : List Nat) (m : List (RowA × Option Nat)) : Prop where
  sm : ∀ (i r : Nat) (ro : RowA), m[i]? = some (ro, some r) → r ∈ rs ∧ ∃ (ro' : RowS) (v : Value), rows[r]? = some ro' ∧ ro'.ro = ro ∧ κ.ρ[r]? = some v
  nn : ∀ (i : Nat) (ro : RowA), m[i]? = some (ro, none) → ro.len = 0
theorem CanOk.append {rs rs' : List Nat} {m m' : List (RowA × Option Nat)} (h : CanOk κ rows rs m) (h' : CanOk κ rows rs' m') : CanOk κ rows (rs ++ rs') (m ++ m') := by
  constructor
  · intro i r ro hi
    by_cases hl : i < m.length
    · rw [List.getElem?_append_left hl] at hi
      obtain ⟨h1, h2⟩ := h.sm i r ro hi
      exact ⟨List.mem_append_left _ h1, h2⟩
    · rw [List.getElem?_append_right (by omega)] at hi
      obtain ⟨h1, h2⟩ := h'.sm _ r ro hi
      exact ⟨List.mem_append_right _ h1, h2⟩
  · intro i ro hi
    by_cases hl : i < m.length
    · rw [List.getElem?_append_left hl] at hi
      exact h.nn i ro hi
    · rw [List.getElem?_append_right (by omega)] at hi
      exact h'.nn _ ro hi

/-- The new context knows the captured blocks by their places. -/
def CapsTo (κ κ' : Ctx) (cm : List Nat) : Prop := ∀ (j i b : Nat), cm[j]? = some i → κ.β[i]? = some b → κ'.β[j]? = some b
theorem canC_ok {cm : List Nat} {k : Nat} {c c' : CV} {m : List (RowA × Option Nat)} {x : Value} (hl : κ.ρ.length = rows.length) (h : canC rows cm k kinds c = some (c', m)) (hd : c.Den κ x) :
    CanOk κ rows c.rowsOf m ∧ ∀ κ' : Ctx, (∀ i v, (ρOf κ m)[i]? = some v → κ'.ρ[k + i]? = some v) → CapsTo κ κ' cm → c'.Den κ' x := by
  cases c with
  | row r =>
    simp only [canC] at h
    split at h
    · rename_i ro hro
      simp only [Option.some.injEq, Prod.mk.injEq] at h
      obtain ⟨rfl, rfl⟩ := h
      obtain ⟨h1, h2⟩ := hd
      refine ⟨⟨fun i r' ro' hi => ?_, fun i ro' hi => ?_⟩, fun κ' hκ _ => ⟨?_, h2⟩⟩
      · cases i with
        | zero =>
          simp at hi
          obtain ⟨rfl, rfl⟩ := hi
          exact ⟨by simp [CV.rowsOf], ro, x, hro, rfl, h1⟩
        | succ i => simp at hi
      · cases i with
        | zero => simp at hi
        | succ i => simp at hi
      · have := hκ 0 x (by simp [ρOf, h1])
        simpa using this
    · cases h
  | nilS =>
    simp only [canC] at h
    have hd : x = .slice none 0 0 := hd
    subst hd
    split at h
    · rename_i ro hro
      cases hb : Nat.beq ro.len 0 with
      | false => rw [hb] at h; cases h
      | true =>
        rw [hb, cond_true] at h
        simp only [Option.some.injEq, Prod.mk.injEq] at h
        obtain ⟨rfl, rfl⟩ := h
        refine ⟨⟨fun i r' ro' hi => ?_, fun i ro' hi => ?_⟩, fun κ' hκ _ => ⟨?_, _, _, _, rfl⟩⟩
        · cases i with
          | zero => simp at hi
          | succ i => simp at hi
        · cases i with
          | zero => simp at hi; subst hi; exact Nat.eq_of_beq_eq_true hb
          | succ i => simp at hi
        · have := hκ 0 (.slice none 0 0) (by simp [ρOf])
          simpa using this
    · simp only [Option.some.injEq, Prod.mk.injEq] at h
      obtain ⟨rfl, rfl⟩ := h
      exact ⟨⟨fun i r' ro' hi => by simp at hi, fun i ro' hi => by simp at hi⟩, fun κ' _ _ => rfl⟩
  | int kd n =>
    simp only [canC, Option.some.injEq, Prod.mk.injEq] at h
    obtain ⟨rfl, rfl⟩ := h
    exact ⟨⟨fun i r' ro' hi => by simp at hi, fun i ro' hi => by simp at hi⟩, fun κ' _ _ => hd⟩
  | bool b =>
    simp only [canC, Option.some.injEq, Prod.mk.injEq] at h
    obtain ⟨rfl, rfl⟩ := h
    exact ⟨⟨fun i r' ro' hi => by simp at hi, fun i ro' hi => by simp at hi⟩, fun κ' _ _ => hd⟩
  | fn f =>
    simp only [canC, Option.some.injEq, Prod.mk.injEq] at h
    obtain ⟨rfl, rfl⟩ := h
    exact ⟨⟨fun i r' ro' hi => by simp at hi, fun i ro' hi => by simp at hi⟩, fun κ' _ _ => hd⟩
  | ptr i off =>
    simp only [canC] at h
    split at h
    · rename_i j hj
      simp only [Option.some.injEq, Prod.mk.injEq] at h
      obtain ⟨rfl, rfl⟩ := h
      obtain ⟨b, h1, h2⟩ := hd
      exact ⟨⟨fun i r' ro' hi => by simp at hi, fun i ro' hi => by simp at hi⟩, fun κ' _ hc => ⟨b, hc j i b (posN_spec hj) h1, h2⟩⟩
    · cases h
  | clo f l =>
    simp only [canC] at h
    split at h
    · rename_i l' hl'
      simp only [Option.some.injEq, Prod.mk.injEq] at h
      obtain ⟨rfl, rfl⟩ := h
      obtain ⟨bs, h1, h2⟩ := hd
      refine ⟨⟨fun i r' ro' hi => by simp at hi, fun i ro' hi => by simp at hi⟩, fun κ' _ hc => ⟨bs, ?_, h2⟩⟩
      have key : ∀ (l l' bs : List Nat), posL cm l = some l' → CapsDen κ.β l bs → CapsDen κ'.β l' bs := by
        intro l
        induction l with
        | nil =>
          intro l' bs h hb
          simp only [posL, Option.some.injEq] at h
          subst h
          cases bs with
          | nil => trivial
          | cons _ _ => exact hb.elim
        | cons i r ih =>
          intro l' bs h hb
          simp only [posL] at h
          split at h
          · rename_i j l2 hj hl2
            simp only [Option.some.injEq] at h
            subst h
            cases bs with
            | nil => exact hb.elim
            | cons b bs => exact ⟨hc j i b (posN_spec hj) hb.1, ih _ _ hl2 hb.2⟩
          · cases h
      exact key l l' bs hl' h1
    · cases h
  | elt r i c o => cases h
  | bsl i n =>
    simp only [canC] at h
    split at h
    · rename_i j hj
      simp only [Option.some.injEq, Prod.mk.injEq] at h
      obtain ⟨rfl, rfl⟩ := h
      obtain ⟨b, h1, h2⟩ := hd
      exact ⟨⟨fun i r' ro' hi => by simp at hi, fun i ro' hi => by simp at hi⟩, fun κ' _ hc => ⟨b, hc j i b (posN_spec hj) h1, h2⟩⟩
    · cases h
  | junk => cases h

theorem ρOf_append (κ : Ctx) (m m' : List (RowA × Option Nat)) : ρOf κ (m ++ m') = ρOf κ m ++ ρOf κ m' := by simp [ρOf]
theorem ρOf_length (κ : Ctx) (m : List (RowA × Option Nat)) : (ρOf κ m).length = m.length := by simp [ρOf]

theorem canL_ok {cm : List Nat} (hl : κ.ρ.length = rows.length) : ∀ {l l' : List CV} {k : Nat} {m : List (RowA × Option Nat)} {xs : List Value}, canL rows cm k kinds l = some (l', m) → DenL κ l xs →
    CanOk κ rows (l.flatMap CV.rowsOf) m ∧ ∀ κ' : Ctx, (∀ i v, (ρOf κ m)[i]? = some v → κ'.ρ[k + i]? = some v) → CapsTo κ κ' cm → DenL κ' l' xs
  | [], l', k, m, xs, h, hd => by
    simp only [canL, Option.some.injEq, Prod.mk.injEq] at h
    obtain ⟨rfl, rfl⟩ := h
    cases xs with
    | nil => exact ⟨⟨fun i r' ro' hi => by simp at hi, fun i ro' hi => by simp at hi⟩, fun _ _ _ => trivial⟩
    | cons _ _ => exact hd.elim
  | c :: r, l', k, m, xs, h, hd => by
    cases xs with
    | nil => exact hd.elim
    | cons x xs =>
      simp only [canL] at h
      split at h
      · rename_i c' m1 h1
        split at h
        · rename_i r' m2 h2
          simp only [Option.some.injEq, Prod.mk.injEq] at h
          obtain ⟨rfl, rfl⟩ := h
          obtain ⟨a1, a2⟩ := canC_ok hl h1 hd.1
          obtain ⟨b1, b2⟩ := canL_ok hl h2 hd.2
          refine ⟨by rw [List.flatMap_cons]; exact a1.append b1, fun κ' hκ hc => ⟨a2 κ' (fun i v hi => ?_) hc, b2 κ' (fun i v hi => ?_) hc⟩⟩
          · exact hκ i v (by rw [ρOf_append, List.getElem?_append_left (List.getElem?_eq_some_iff.1 hi).1]; exact hi)
          · have := hκ (m1.length + i) v (by rw [ρOf_append, List.getElem?_append_right (by rw [ρOf_length]; omega), ρOf_length]; simpa using hi)
            rwa [← Nat.add_assoc] at this
        · cases h
      · cases h
theorem canTV_ok {cm : List Nat} (hl : κ.ρ.length = rows.length) {t t' : TV} {k : Nat} {m : List (RowA × Option Nat)} {x : Value} (h : canTV rows cm k kinds t = some (t', m)) (hd : t.Den κ x) :
    CanOk κ rows t.rowsOf m ∧ ∀ κ' : Ctx, (∀ i v, (ρOf κ m)[i]? = some v → κ'.ρ[k + i]? = some v) → CapsTo κ κ' cm → t'.Den κ' x := by
  cases t with
  | cel c =>
    simp only [canTV, Option.map_eq_some_iff, Prod.mk.injEq] at h
    obtain ⟨⟨c', m1⟩, h1, rfl, rfl⟩ := h
    exact canC_ok hl h1 hd
  | agg l =>
    simp only [canTV, Option.map_eq_some_iff, Prod.mk.injEq] at h
    obtain ⟨⟨c', m1⟩, h1, rfl, rfl⟩ := h
    obtain ⟨xs, h2, h3⟩ := hd
    obtain ⟨a1, a2⟩ := canL_ok hl h1 h3
    exact ⟨a1, fun κ' hκ hc => ⟨xs, h2, a2 κ' hκ hc⟩⟩
theorem canT_ok {cm : List Nat} (hl : κ.ρ.length = rows.length) : ∀ {l l' : List TV} {k : Nat} {m : List (RowA × Option Nat)} {xs : List Value}, canT rows cm k kinds l = some (l', m) → DenT κ l xs →
    CanOk κ rows (l.flatMap TV.rowsOf) m ∧ ∀ κ' : Ctx, (∀ i v, (ρOf κ m)[i]? = some v → κ'.ρ[k + i]? = some v) → CapsTo κ κ' cm → DenT κ' l' xs
  | [], l', k, m, xs, h, hd => by
    simp only [canT, Option.some.injEq, Prod.mk.injEq] at h
    obtain ⟨rfl, rfl⟩ := h
    cases xs with
    | nil => exact ⟨⟨fun i r' ro' hi => by simp at hi, fun i ro' hi => by simp at hi⟩, fun _ _ _ => trivial⟩
    | cons _ _ => exact hd.elim
  | c :: r, l', k, m, xs, h, hd => by
    cases xs with
    | nil => exact hd.elim
    | cons x xs =>
      simp only [canT] at h
      split at h
      · rename_i c' m1 h1
        split at h
        · rename_i r' m2 h2
          simp only [Option.some.injEq, Prod.mk.injEq] at h
          obtain ⟨rfl, rfl⟩ := h
          obtain ⟨a1, a2⟩ := canTV_ok hl h1 hd.1
          obtain ⟨b1, b2⟩ := canT_ok hl h2 hd.2
          refine ⟨by rw [List.flatMap_cons]; exact a1.append b1, fun κ' hκ hc => ⟨a2 κ' (fun i v hi => ?_) hc, b2 κ' (fun i v hi => ?_) hc⟩⟩
          · exact hκ i v (by rw [ρOf_append, List.getElem?_append_left (List.getElem?_eq_some_iff.1 hi).1]; exact hi)
          · have := hκ (m1.length + i) v (by rw [ρOf_append, List.getElem?_append_right (by rw [ρOf_length]; omega), ρOf_length]; simpa using hi)
            rwa [← Nat.add_assoc] at this
        · cases h
      · cases h

/-- What the captured blocks hold. -/
theorem canB_ok {cm : List Nat} (hl : κ.ρ.length = rows.length) : ∀ {l l' : List (List CV)} {k : Nat} {m : List (RowA × Option Nat)}, canB rows cm k kinds l = some (l', m) → (∀ cs ∈ l, ∃ xs, DenL κ cs xs) →
    l'.length = l.length ∧ CanOk κ rows (l.flatMap (·.flatMap CV.rowsOf)) m ∧ ∀ κ' : Ctx, (∀ i v, (ρOf κ m)[i]? = some v → κ'.ρ[k + i]? = some v) → CapsTo κ κ' cm → ∀ (j : Nat) (cs cs' : List CV) (xs : List Value), l[j]? = some cs → l'[j]? = some cs' → DenL κ cs xs → DenL κ' cs' xs
  | [], l', k, m, h, hd => by
    simp only [canB, Option.some.injEq, Prod.mk.injEq] at h
    obtain ⟨rfl, rfl⟩ := h
    exact ⟨rfl, ⟨fun i r' ro' hi => by simp at hi, fun i ro' hi => by simp at hi⟩, fun _ _ _ j cs cs' xs h => by simp at h⟩
  | c :: r, l', k, m, h, hd => by
    simp only [canB] at h
    split at h
    · rename_i c' m1 h1
      split at h
      · rename_i r' m2 h2
        simp only [Option.some.injEq, Prod.mk.injEq] at h
        obtain ⟨rfl, rfl⟩ := h
        obtain ⟨xs0, hx0⟩ := hd c List.mem_cons_self
        have a1 := (canL_ok hl h1 hx0).1
        obtain ⟨b0, b1, b2⟩ := canB_ok hl h2 (fun cs hcs => hd cs (List.mem_cons_of_mem _ hcs))
        refine ⟨by simp [b0], by rw [List.flatMap_cons]; exact a1.append b1, fun κ' hκ hc j cs cs' xs h3 h4 h5 => ?_⟩
        cases j with
        | zero =>
          simp at h3 h4
          subst h3 h4
          refine (canL_ok hl h1 h5).2 κ' (fun i v hi => ?_) hc
          exact hκ i v (by rw [ρOf_append, List.getElem?_append_left (List.getElem?_eq_some_iff.1 hi).1]; exact hi)
        | succ j =>
          refine b2 κ' (fun i v hi => ?_) hc j cs cs' xs (by simpa using h3) (by simpa using h4) h5
          have := hκ (m1.length + i) v (by rw [ρOf_append, List.getElem?_append_right (by rw [ρOf_length]; omega), ρOf_length]; simpa using hi)
          rwa [← Nat.add_assoc] at this
      · cases h
    · cases h

theorem shiftC {κ κ' : Ctx} {b b' : Nat} (hρ : ∀ i v, κ.ρ[b + i]? = some v → κ'.ρ[b' + i]? = some v) {c : CV} {x : Value} (hok : c.shiftOk b = true) (h : c.Den κ x) : (c.shift b b').Den κ' x := by
  cases c with
  | row r =>
    have hle := Nat.le_of_ble_eq_true hok
    obtain ⟨h1, h2⟩ := h
    refine ⟨?_, h2⟩
    have := hρ (r - b) x (by rw [show b + (r - b) = r by omega]; exact h1)
    rwa [Nat.add_comm] at this
  | ptr i off => cases hok
  | elt r i c o => cases hok
  | clo f l => cases hok
  | bsl i n => cases hok
  | _ => exact h
theorem shiftL {κ κ' : Ctx} {b b' : Nat} (hρ : ∀ i v, κ.ρ[b + i]? = some v → κ'.ρ[b' + i]? = some v) : ∀ {l : List CV} {xs : List Value}, l.all (CV.shiftOk b) = true → DenL κ l xs → DenL κ' (l.map (CV.shift b b')) xs
  | [], [], _, _ => trivial
  | c :: l, x :: xs, hok, h => by
    simp only [List.all_cons, Bool.and_eq_true] at hok
    exact ⟨shiftC hρ hok.1 h.1, shiftL hρ hok.2 h.2⟩
  | [], _ :: _, _, h => h.elim
  | _ :: _, [], _, h => h.elim
theorem shiftTV {κ κ' : Ctx} {b b' : Nat} (hρ : ∀ i v, κ.ρ[b + i]? = some v → κ'.ρ[b' + i]? = some v) {c : TV} {x : Value} (hok : c.shiftOk b = true) (h : c.Den κ x) : (c.shift b b').Den κ' x := by
  cases c with
  | cel c => exact shiftC hρ hok h
  | agg l => obtain ⟨xs, h1, h2⟩ := h; exact ⟨xs, h1, shiftL hρ hok h2⟩
theorem shiftT {κ κ' : Ctx} {b b' : Nat} (hρ : ∀ i v, κ.ρ[b + i]? = some v → κ'.ρ[b' + i]? = some v) : ∀ {l : List TV} {xs : List Value}, l.all (TV.shiftOk b) = true → DenT κ l xs → DenT κ' (l.map (TV.shift b b')) xs
  | [], [], _, _ => trivial
  | c :: l, x :: xs, hok, h => by
    simp only [List.all_cons, Bool.and_eq_true] at hok
    exact ⟨shiftTV hρ hok.1 h.1, shiftT hρ hok.2 h.2⟩
  | [], _ :: _, _, h => h.elim
  | _ :: _, [], _, h => h.elim
theorem shiftAV {κ κ' : Ctx} {b b' : Nat} (hρ : ∀ i v, κ.ρ[b + i]? = some v → κ'.ρ[b' + i]? = some v) {c : AV} {x : Value} (hok : c.shiftOk b = true) (h : c.Den κ #[] x) : (c.shift b b').Den κ' #[] x := by
  cases c with
  | one c => exact shiftTV hρ hok h
  | tup l => obtain ⟨xs, h1, h2⟩ := h; exact ⟨xs, h1, shiftT hρ hok h2⟩
  | spec t p y => cases hok

def SoundCon (P : Program) (c : FuncId → List TV → List RowS → Caps → Option CRes) : Prop := ∀ f args rows caps res, c f args rows caps = some res → AllB res.pre → ∀ κ w vs, MemOk κ rows caps w → DenT κ args vs →
  (∀ ws us, (callFunc f us).run P ws = .ok (.enter f us) ws) ∧ Calls P f vs.toArray w (CPost κ (callRows args caps) rows res w)
def βOf (κ : Ctx) (caps : Caps) : List Nat := caps.map fun p => (κ.β[p.1]?).getD 0
theorem tryE_sound {e : Ent} (he : SoundEnt P e) {args : List TV} {caps : Caps} {res : CRes} (h : tryE e args rows caps = some res) (ho : AllB res.pre) {vs : List Value} (hmem : MemOk κ rows caps w) (hargs : DenT κ args vs) :
    (∀ ws us, (callFunc e.f us).run P ws = .ok (.enter e.f us) ws) ∧ Calls P e.f vs.toArray w (CPost κ (callRows args caps) rows res w) := by
  unfold tryE at h
  split at h
  · rename_i args' m1 hcan
    split at h
    · rename_i caps' m2 hcanB
      split at h
      · rename_i r hr
        obtain ⟨m, hm⟩ : ∃ m, m = m1 ++ m2 := ⟨_, rfl⟩
        rw [← hm] at h hr
        cases hs : r.val.shiftOk m.length with
        | false => rw [hs] at h; cases h
        | true =>
          rw [hs, cond_true] at h
          simp only [Option.some.injEq] at h
          subst h
          obtain ⟨hc1, hc2⟩ := canT_ok hmem.rowN hcan hargs
          have hcapD : ∀ cs ∈ caps.map (·.2), ∃ xs, DenL κ cs xs := by
            intro cs hcs
            obtain ⟨⟨i, c⟩, h1, rfl⟩ := List.mem_map.1 hcs
            obtain ⟨b, xs, T, _, _, h2⟩ := hmem.cap i c h1
            exact ⟨xs, h2⟩
          obtain ⟨hB0, hB1, hB2⟩ := canB_ok hmem.rowN hcanB hcapD
          have hcan1 : CanOk κ rows (callRows args caps) m := by
            rw [hm]
            have := hc1.append hB1
            rw [List.flatMap_map] at this
            exact this
          have hρl := ρOf_length κ m
          have hget : ∀ (i : Nat) (p : RowA × Option Nat), m[i]? = some p → (ρOf κ m)[i]? = some (match p.2 with | some r => (κ.ρ[r]?).getD undef | none => .slice none 0 0) := by
            intro i p hp
            simp only [ρOf, List.getElem?_map, hp, Option.map_some]
          have hfrom : ∀ (i : Nat) (ro : RowA) (v : Value), (m.map (·.1))[i]? = some ro → (ρOf κ m)[i]? = some v → (∃ (r0 : Nat) (ro1 : RowS), r0 ∈ callRows args caps ∧ rows[r0]? = some ro1 ∧ ro1.ro = ro ∧ κ.ρ[r0]? = some v) ∨ (v = .slice none 0 0 ∧ ro.len = 0) := by
            intro i ro v h1 h2
            simp only [List.getElem?_map, Option.map_eq_some_iff] at h1
            obtain ⟨⟨ro', q⟩, h3, rfl⟩ := h1
            rw [hget i _ h3] at h2
            simp only [Option.some.injEq] at h2
            cases q with
            | some r0 =>
              obtain ⟨h0, ro1, v1, h4, h5, h6⟩ := hcan1.sm i r0 ro' h3
              simp only [h6, Option.getD_some] at h2
              subst h2
              exact .inl ⟨r0, ro1, h0, h4, h5, h6⟩
            | none =>
              simp only at h2
              subst h2
              exact .inr ⟨rfl, hcan1.nn i ro' h3⟩
          have hare : RowsAre (m.map (·.1)) w (ρOf κ m) := by
            refine ⟨by simp [ρOf], fun i ro v h1 h2 => ?_⟩
            rcases hfrom i ro v h1 h2 with ⟨r0, ro1, _, h4, h5, h6⟩ | ⟨rfl, h0⟩
            · rw [← h5]; exact (hmem.row r0 ro1 v h4 h6).1
            · exact ⟨none, 0, by rw [h0], by omega, Nat.zero_le _, fun hl => by omega⟩
          have hβ : ∀ (j i b : Nat) (cs : List CV), caps[j]? = some (i, cs) → κ.β[i]? = some b → (βOf κ caps)[j]? = some b := by
            intro j i b cs h1 h2
            simp only [βOf, List.getElem?_map, h1, Option.map_some, h2, Option.getD_some]
          have hto : ∀ ρ', CapsTo κ ⟨w, [], βOf κ caps, ρ'⟩ (caps.map (·.1)) := by
            intro ρ' j i b h1 h2
            simp only [List.getElem?_map, Option.map_eq_some_iff] at h1
            obtain ⟨⟨i', cs⟩, h3, rfl⟩ := h1
            exact hβ j i' b cs h3 h2
          have hβinv : ∀ (j b : Nat), (βOf κ caps)[j]? = some b → ∃ i cs, caps[j]? = some (i, cs) ∧ κ.β[i]? = some b := by
            intro j b h1
            have hlt : j < caps.length := by
              have := (List.getElem?_eq_some_iff.1 h1).1
              simpa [βOf] using this
            obtain ⟨b', _, _, h2, _⟩ := hmem.cap caps[j].1 caps[j].2 (List.getElem_mem hlt)
            have h3 := hβ j caps[j].1 b' caps[j].2 (List.getElem?_eq_getElem hlt) h2
            rw [h3] at h1
            simp only [Option.some.injEq] at h1
            subst h1
            exact ⟨_, _, List.getElem?_eq_getElem hlt, h2⟩
          have hcaps : CapsAre (m.map (·.1)) caps' w (βOf κ caps) (ρOf κ m) := by
            refine ⟨by rw [hB0]; simp [βOf], fun j b cs' h1 h2 => ?_, ?_, fun i ro v h1 h2 hl g hg hin => ?_⟩
            · obtain ⟨i, cs, h3, h4⟩ := hβinv j b h2
              obtain ⟨b', xs, T, h5, h6, h7⟩ := hmem.cap i cs (List.mem_of_getElem? h3)
              rw [h4] at h5
              simp only [Option.some.injEq] at h5
              subst h5
              refine ⟨xs, T, h6, hB2 _ (fun i v hi => ?_) (hto _) j cs cs' xs (by simp [h3]) h1 h7⟩
              show (ρOf κ m)[m1.length + i]? = some v
              rw [hm, ρOf_append, List.getElem?_append_right (by rw [ρOf_length]; omega), ρOf_length]
              simpa using hi
            · refine nodup_of_inj (fun i j x hi hj => ?_)
              obtain ⟨i0, ci, h5, h6⟩ := hβinv i _ hi
              obtain ⟨j0, cj, h7, h8⟩ := hβinv j _ hj
              have e1 : i0 = j0 := (List.getElem?_inj (List.getElem?_eq_some_iff.1 h6).1 hmem.nodup).1 (h6.trans h8.symm)
              subst e1
              have h9 : (caps.map (·.1))[i]? = some i0 := by simp [h5]
              have h10 : (caps.map (·.1))[j]? = some i0 := by simp [h7]
              exact (List.getElem?_inj (List.getElem?_eq_some_iff.1 h9).1 hmem.capN).1 (h9.trans h10.symm)
            · rcases hfrom i ro v h1 h2 with ⟨r0, ro1, _, h4, h5, h6⟩ | ⟨rfl, h0⟩
              · refine (hmem.row r0 ro1 v h4 h6).2 (by rw [h5]; exact hl) g hg ?_
                obtain ⟨j, hj⟩ := List.getElem?_of_mem hin
                obtain ⟨i0, _, _, h8⟩ := hβinv j g hj
                exact List.mem_of_getElem? h8
              · omega
          have hden := hc2 ⟨w, [], βOf κ caps, ρOf κ m⟩ (fun i v hi => by
            show (ρOf κ m)[0 + i]? = some v
            rw [Nat.zero_add, hm, ρOf_append, List.getElem?_append_left (List.getElem?_eq_some_iff.1 hi).1]; exact hi) (hto _)
          obtain ⟨hcf, hcall⟩ := he args' _ caps' r hr ho w _ _ vs hare hcaps hden
          refine ⟨hcf, hcall.mono fun en w' hp => ?_⟩
          obtain ⟨x, ρ', h1, h2, h3, h4, h5, h6⟩ := hp
          refine ⟨x, ρ', h1, h2, ?_, ?_, h5, fun i ro v h7 h8 => ?_⟩
          · refine shiftAV (fun i v hi => ?_) hs h3
            simp only [Ctx.with]
            rw [List.getElem?_append_right (by rw [ρOf_length]; omega), ρOf_length] at hi
            rw [List.getElem?_append_right (by rw [hmem.rowN]; omega), hmem.rowN]
            simpa using hi
          · intro t p y e1
            cases hv : r.val with
            | one z => rw [hv] at e1; cases e1
            | tup l => rw [hv] at e1; cases e1
            | spec t' p' z => exact h4 t' p' z hv
          · obtain ⟨h9, h10⟩ := h6 i ro v h7 h8
            refine ⟨h9, fun g h11 h12 => ?_⟩
            rcases h10 g h11 h12 with h13 | ⟨r0, ro0, u, h13, h14, h15, h16⟩
            · exact .inl h13
            · right
              rcases hfrom r0 ro0 u h13 h15 with ⟨r1, ro1, h17, h18, h19, h20⟩ | ⟨_, h0⟩
              · exact ⟨r1, ro1, u, h17, h18, by rw [h19]; exact h14, h20, h16⟩
              · omega
      · cases h
    · cases h
  · cases h
theorem conF_sound : ∀ {es : List Ent}, (∀ e ∈ es, SoundEnt P e) → SoundCon P (conF es)
  | [], _ => fun f args rows caps res h => by cases h
  | e :: es, hes => by
    intro f args rows caps res h ho κ w vs hmem hargs
    simp only [conF] at h
    have ih := conF_sound (es := es) (fun e' he' => hes e' (List.mem_cons_of_mem _ he'))
    cases hb : Nat.beq f e.f with
    | true =>
      rw [hb, cond_true] at h
      have hfe := Nat.eq_of_beq_eq_true hb
      subst hfe
      split at h
      · rename_i r hr
        simp only [Option.some.injEq] at h
        subst h
        exact tryE_sound (hes e List.mem_cons_self) hr ho hmem hargs
      · exact ih _ args rows caps res h ho κ w vs hmem hargs
    | false =>
      rw [hb, cond_false] at h
      exact ih f args rows caps res h ho κ w vs hmem hargs

theorem conOf_sound {es : List Ent} (hes : ∀ e ∈ es, SoundEnt P e) : SoundG P (conOf es) := ⟨conF_sound hes, fun _ _ _ _ h => h.elim⟩

end
end Go.Proofs.Ythfliohfkhnpiaa
