/- Regions and code, run on states. No program in sight. -/
import Derived.Test.YtoklfnonbfcdlaaE9
namespace Go.Proofs.Ytoklfnonbfcdlaa
set_option linter.unusedVariables false
set_option linter.unusedSimpArgs false
open Go.RowKit

def cnd (b : Bool) (p q : Prop) : Prop :=
  match b with
  | true => p
  | false => q
def conjB : List Bool → Prop → Prop
  | [], k => k
  | b :: r, k => cnd b (conjB r k) False
theorem conjB_spec : ∀ {l : List Bool} {k : Prop}, conjB l k → AllB l ∧ k
  | [], _, h => ⟨trivial, h⟩
  | true :: r, _, h => ⟨⟨rfl, (conjB_spec (l := r) h).1⟩, (conjB_spec (l := r) h).2⟩
  | false :: _, _, h => h.elim

def gpath (s : St) : Nat → Nat → Bool → List (Nat × Bool)
  | 0, t, p => [(t, p)]
  | n + 1, t, p => (t, p) :: (match s.get t with
    | .spec t' p' _ => gpath s n t' p'
    | _ => [])
def gb (s : St) : Nat → Nat → Bool → Bool
  | 0, _, _ => true
  | n + 1, t, p =>
    match s.get t with
    | .one (.cel (.bool b)) => b == p
    | .spec t' p' (.cel (.bool b)) => gb s n t' p' && (b == p)
    | _ => true
def St.guard (s : St) (t : Nat) : St := bif s.gts.any (Nat.beq t) then s else { s with gts := t :: s.gts }

def exOps (P : Program) (Γ : Con) (ops : Array Oper) : List Oper → St → (St → Prop) → Prop
  | [], s, K => K s
  | o :: rest, s, K =>
    match o.guard with
    | none =>
      match opQ P Γ s [] o.op with
      | some (ob, v) => bif s.putOk o.dst then conjB ob (exOps P Γ ops rest (s.put o.dst v) K) else False
      | none =>
        match opE P Γ s o.op with
        | some (ob, v, s') => bif s'.putOk o.dst then conjB ob (exOps P Γ ops rest (s'.put o.dst v) K) else False
        | none => False
    | some (j, p) =>
      match (ops[j]?).bind (·.dst) with
      | some t =>
        match opQ P Γ s (gpath s 20 t p) o.op with
        | some (ob, .one v) => bif (s.guard t).putOk o.dst then conjB (ob.map (!gb s 20 t p || ·)) (exOps P Γ ops rest ((s.guard t).put o.dst (.spec t p v)) K) else False
        | _ => False
      | none => False
/-- A region that draws its order: operations that leave memory alone. -/
def exQ (P : Program) (Γ : Con) (ops : Array Oper) : List Oper → St → (St → Prop) → Prop
  | [], s, K => K s
  | o :: rest, s, K =>
    match o.guard with
    | none =>
      match opQ P Γ s [] o.op with
      | some (ob, v) => bif s.putOk o.dst then conjB ob (exQ P Γ ops rest (s.put o.dst v) K) else False
      | none => False
    | some (j, p) =>
      match (ops[j]?).bind (·.dst) with
      | some t =>
        match opQ P Γ s (gpath s 20 t p) o.op with
        | some (ob, .one v) => bif (s.guard t).putOk o.dst then conjB (ob.map (!gb s 20 t p || ·)) (exQ P Γ ops rest ((s.guard t).put o.dst (.spec t p v)) K) else False
        | _ => False
      | none => False

section
variable {P : Program} {Γ : Con} {κ : Ctx} {s : St} {a : Act} {w : World} {ops : Array Oper}

theorem undef_ne (p : Bool) : (undef : Value) ≠ .bool p := by simp [undef]

theorem gpath_holds (hR : Rep P κ s a w) : ∀ (n t : Nat) (p : Bool), a.tmps.getD t undef = .bool p → Holds (gpath s n t p) a.tmps
  | 0, t, p, h => holds_cons (holds_nil _) h
  | n + 1, t, p, h => by
    refine holds_cons ?_ h
    have hd := hR.get t
    split
    · rename_i t' p' x he
      rw [he] at hd
      refine gpath_holds hR n t' p' (Classical.byContradiction fun hne => ?_)
      have := hd.2 hne
      rw [h] at this
      exact undef_ne p this.symm
    · exact holds_nil _
theorem gb_true (hR : Rep P κ s a w) : ∀ (n t : Nat) (p : Bool), a.tmps.getD t undef = .bool p → gb s n t p = true
  | 0, _, _, _ => rfl
  | n + 1, t, p, h => by
    have hd := hR.get t
    simp only [gb]
    split
    · rename_i b he
      rw [he] at hd
      have hd : a.tmps.getD t undef = .bool b := hd
      rw [h] at hd
      simp only [Value.bool.injEq] at hd
      simp [hd]
    · rename_i t' p' b he
      rw [he] at hd
      have h1 : a.tmps.getD t' undef = .bool p' := Classical.byContradiction fun hne => by
        have := hd.2 hne
        rw [h] at this
        exact undef_ne p this.symm
      have h2 : a.tmps.getD t undef = .bool b := hd.1 h1
      rw [h] at h2
      simp only [Value.bool.injEq] at h2
      simp [gb_true hR n t' p' h1, h2]
    · rfl
theorem Rep.guard (hR : Rep P κ s a w) (t : Nat) : Rep P κ (s.guard t) a w := by
  unfold St.guard
  cases s.gts.any (Nat.beq t) with
  | true => exact hR
  | false => exact { hR with gts := fun t1 t' p x h => List.mem_cons_of_mem _ (hR.gts t1 t' p x h), fr := hR.fr }
theorem guard_mem (s : St) (t : Nat) : t ∈ (s.guard t).gts := by
  unfold St.guard
  cases h : s.gts.any (Nat.beq t) with
  | true =>
    rw [cond_true]
    obtain ⟨x, hx, he⟩ := List.any_eq_true.1 h
    rw [Nat.eq_of_beq_eq_true he]; exact hx
  | false => exact List.mem_cons_self
theorem allB_map {g : Bool} {l : List Bool} (hg : g = true) (h : AllB (l.map (!g || ·))) : AllB l := by
  subst hg
  induction l with
  | nil => trivial
  | cons b r ih => exact ⟨by simpa using h.1, ih h.2⟩

theorem wanted_guard {o : Oper} {j t : Nat} {p : Bool} (hgd : o.guard = some (j, p)) (ht : (ops[j]?).bind (·.dst) = some t) : Region.wanted o (yielded ops a.tmps) = true ↔ a.tmps.getD t undef = .bool p := by
  simp only [Region.wanted, hgd, yielded, ht, Option.bind_some, beq_iff_eq, Array.getD_eq_getD_getElem?]
  cases h : a.tmps[t]? with
  | none => simp [undef]
  | some v => cases v <;> simp

theorem spec_den {t : Nat} {p : Bool} {v : TV} {x : Value} (h : a.tmps.getD t undef = .bool p) (hd : v.Den κ x) : (AV.spec t p v).Den κ a.tmps x := ⟨fun _ => hd, fun hn => absurd h hn⟩
theorem spec_den_no {t : Nat} {p : Bool} {v : TV} (h : ¬ a.tmps.getD t undef = .bool p) : (AV.spec t p v).Den κ a.tmps undef := ⟨fun e => absurd e h, fun _ => rfl⟩

theorem exOps_ok (hΓ : SoundG P Γ) {K : St → Prop} {Q : Exit → Act → World → Prop} {W0 : World} {B0 : List Nat} (hQ : ∀ (κ' : Ctx) (s' : St) (a' : Act) (w' : World), κ'.W0 = W0 → κ'.B0 = B0 → Rep P κ' s' a' w' → K s' → Q .normal a' w') :
    ∀ (l : List Oper) (k : Nat) (κ : Ctx) (s : St) (a : Act) (w : World), (∀ j, l[j]? = ops[k + j]?) → κ.W0 = W0 → κ.B0 = B0 → Rep P κ s a w → exOps P Γ ops l s K → wpOps P ops Q (List.range' k l.length) a w
  | [], k, κ, s, a, w, _, h1, h2, hR, h => hQ κ s a w h1 h2 hR h
  | o :: rest, k, κ, s, a, w, hl, h1, h2, hR, h => by
    have h0 : ops[k]? = some o := by simpa using (hl 0).symm
    have hl' : ∀ j, rest[j]? = ops[k + 1 + j]? := fun j => by have := hl (j + 1); simpa [Nat.add_assoc, Nat.add_comm 1 j] using this
    rw [List.length_cons, List.range'_succ]
    simp only [wpOps, h0]
    simp only [exOps] at h
    split at h
    · rename_i hgd
      have hw : Region.wanted o (yielded ops a.tmps) = true := by simp [Region.wanted, hgd]
      rw [if_pos hw]
      left
      split at h
      · rename_i ob v hq
        cases hp : s.putOk o.dst with
        | false => rw [hp] at h; exact h.elim
        | true =>
          rw [hp, cond_true] at h
          obtain ⟨ho, h⟩ := conjB_spec h
          obtain ⟨x, hd, hns, hst⟩ := opQ_ok hΓ hR (holds_nil _) hq ho
          have key : ∀ w', Below w.heap.size w w' → wpOps P ops Q (List.range' (k + 1) rest.length) (a.put o.dst x) w' := fun w' hb =>
            exOps_ok hΓ hQ rest (k + 1) κ _ _ w' hl' h1 h2 ((hR.later hb).put hp hd (fun t p y e => absurd e (hns t p y))) h
          unfold Oper.wp
          rcases hst w (Below.refl _ _) with hrun | ⟨f, vs, hrun, hc⟩
          · rw [hrun]; exact key w (Below.refl _ _)
          · rw [hrun, Oper.upon_enter]
            exact hc.mono fun e w' ⟨he, hb⟩ => by subst he; exact key w' hb
      · split at h
        · rename_i hq ob v s' he
          cases hp : s'.putOk o.dst with
          | false => rw [hp] at h; exact h.elim
          | true =>
            rw [hp, cond_true] at h
            obtain ⟨ho, h⟩ := conjB_spec h
            refine opE_ok hΓ hR he ho _ _ fun x κ' w' k1 k2 hR' hd hns => ?_
            exact exOps_ok hΓ hQ rest (k + 1) κ' _ _ w' hl' (k1.trans h1) (k2.trans h2) (hR'.put hp hd (fun t p y e => absurd e (hns t p y))) h
        · exact h.elim
    · rename_i j p hgd
      split at h
      · rename_i t ht
        split at h
        · rename_i ob v hq
          cases hp : (s.guard t).putOk o.dst with
          | false => rw [hp] at h; exact h.elim
          | true =>
            rw [hp, cond_true] at h
            obtain ⟨ho, h⟩ := conjB_spec h
            by_cases hw : Region.wanted o (yielded ops a.tmps) = true
            · rw [if_pos hw]
              left
              have ht2 := (wanted_guard hgd ht).1 hw
              obtain ⟨x, hd, hns, hst⟩ := opQ_ok hΓ hR (gpath_holds hR 20 t p ht2) hq (allB_map (gb_true hR 20 t p ht2) ho)
              have key : ∀ w', Below w.heap.size w w' → wpOps P ops Q (List.range' (k + 1) rest.length) (a.put o.dst x) w' := fun w' hb =>
                exOps_ok hΓ hQ rest (k + 1) κ _ _ w' hl' h1 h2 (((hR.later hb).guard t).put hp (spec_den ht2 hd) (fun t' p' y e => by cases e; exact guard_mem s t)) h
              unfold Oper.wp
              rcases hst w (Below.refl _ _) with hrun | ⟨f, vs, hrun, hc⟩
              · rw [hrun]; exact key w (Below.refl _ _)
              · rw [hrun, Oper.upon_enter]
                exact hc.mono fun e w' ⟨he, hb⟩ => by subst he; exact key w' hb
            · rw [if_neg hw]
              have ht2 : ¬ a.tmps.getD t undef = .bool p := fun e => hw ((wanted_guard hgd ht).2 e)
              exact exOps_ok hΓ hQ rest (k + 1) κ _ _ w hl' h1 h2 ((hR.guard t).put hp (spec_den_no ht2) (fun t' p' y e => by cases e; exact guard_mem s t)) h
        · exact h.elim
      · exact h.elim

theorem exQ_ok (hΓ : SoundG P Γ) {w : World} {K : St → Prop} {Q : Act → Prop} (hQ : ∀ (s' : St) (a' : Act), Rep P κ s' a' w → K s' → Q a') :
    ∀ (l : List Oper) (s : St) (a : Act), Rep P κ s a w → exQ P Γ ops l s K → wpQuiet P ops (fun w' => Below w.heap.size w w') Q l a
  | [], s, a, hR, h => hQ s a hR h
  | o :: rest, s, a, hR, h => by
    simp only [wpQuiet]
    simp only [exQ] at h
    have quiet : ∀ (x : Value) (K' : Act → Prop), (∀ w', Below w.heap.size w w' → QStep P o a w' x) → K' (a.put o.dst x) → o.quiet P a (fun w' => Below w.heap.size w w') K' := by
      intro x K' hst hK
      refine ⟨x, fun w' hb => ?_, hK⟩
      unfold Oper.quietAt
      rcases hst w' hb with hrun | ⟨f, vs, hrun, hc⟩
      · rw [hrun]; exact ⟨rfl, rfl⟩
      · rw [hrun]
        exact ⟨rfl, hc.mono fun e w'' ⟨he, hb2⟩ => ⟨he, hb.trans (hb2.mono hb.size)⟩⟩
    split at h
    · rename_i hgd
      have hw : Region.wanted o (yielded ops a.tmps) = true := by simp [Region.wanted, hgd]
      rw [if_pos hw]
      split at h
      · rename_i ob v hq
        cases hp : s.putOk o.dst with
        | false => rw [hp] at h; exact h.elim
        | true =>
          rw [hp, cond_true] at h
          obtain ⟨ho, h⟩ := conjB_spec h
          obtain ⟨x, hd, hns, hst⟩ := opQ_ok hΓ hR (holds_nil _) hq ho
          exact quiet x _ hst (exQ_ok hΓ hQ rest _ _ (hR.put hp hd (fun t p y e => absurd e (hns t p y))) h)
      · exact h.elim
    · rename_i j p hgd
      split at h
      · rename_i t ht
        split at h
        · rename_i ob v hq
          cases hp : (s.guard t).putOk o.dst with
          | false => rw [hp] at h; exact h.elim
          | true =>
            rw [hp, cond_true] at h
            obtain ⟨ho, h⟩ := conjB_spec h
            by_cases hw : Region.wanted o (yielded ops a.tmps) = true
            · rw [if_pos hw]
              have ht2 := (wanted_guard hgd ht).1 hw
              obtain ⟨x, hd, hns, hst⟩ := opQ_ok hΓ hR (gpath_holds hR 20 t p ht2) hq (allB_map (gb_true hR 20 t p ht2) ho)
              exact quiet x _ hst (exQ_ok hΓ hQ rest _ _ ((hR.guard t).put hp (spec_den ht2 hd) (fun t' p' y e => by cases e; exact guard_mem s t)) h)
            · rw [if_neg hw]
              have ht2 : ¬ a.tmps.getD t undef = .bool p := fun e => hw ((wanted_guard hgd ht).2 e)
              exact exQ_ok hΓ hQ rest _ _ ((hR.guard t).put hp (spec_den_no ht2) (fun t' p' y e => by cases e; exact guard_mem s t)) h
        · exact h.elim
      · exact h.elim

end

/-! ### One state says what another says -/

def omapN (l : List (Option Nat)) (r : Nat) : Option (Option Nat) := l[r]?
def SubC (bm : List Nat) (rm : Nat → Option (Option Nat)) (u : CV) : CV → Prop
  | .junk => True
  | .int k n => match u with
    | .int k' n' => if k' = k then n' = n else False
    | _ => False
  | .bool b => match u with
    | .bool b' => b' = b
    | _ => False
  | .ptr i off => match u with
    | .ptr i' off' => match bm[i]? with
      | some i0 => bif Nat.beq i0 i' && Nat.beq off off' then True else False
      | none => False
    | _ => False
  | .row r => match u with
    | .row r' => match rm r with
      | some (some r0) => bif Nat.beq r0 r' then True else False
      | _ => False
    | .nilS => match rm r with
      | some none => True
      | _ => False
    | _ => False
  | .nilS => match u with
    | .nilS => True
    | _ => False
  | .fn f => match u with
    | .fn f' => bif Nat.beq f f' then True else False
    | _ => False
  | .elt _ _ _ _ => False
def SubL (bm : List Nat) (rm : Nat → Option (Option Nat)) : List CV → List CV → Prop
  | [], [] => True
  | [u], [c] => SubC bm rm u c
  | u :: us, c :: cs => SubC bm rm u c ∧ SubL bm rm us cs
  | _, _ => False
def SubTV (bm : List Nat) (rm : Nat → Option (Option Nat)) (u : TV) : TV → Prop
  | .cel c => match u with
    | .cel d => SubC bm rm d c
    | .agg _ => match c with
      | .junk => True
      | _ => False
  | .agg l => match u with
    | .agg m => SubL bm rm m l
    | _ => False
def SubT (bm : List Nat) (rm : Nat → Option (Option Nat)) : List TV → List TV → Prop
  | [], [] => True
  | [u], [c] => SubTV bm rm u c
  | u :: us, c :: cs => SubTV bm rm u c ∧ SubT bm rm us cs
  | _, _ => False
def SubAV (bm : List Nat) (rm : Nat → Option (Option Nat)) (u : AV) : AV → Prop
  | .one t => match u with
    | .one d => SubTV bm rm d t
    | _ => match t with
      | .cel .junk => True
      | _ => False
  | .tup l => match u with
    | .tup m => SubT bm rm m l
    | _ => False
  | .spec _ _ _ => False
def SubFr (bm : List Nat) (rm : Nat → Option (Option Nat)) (s : St) : List (Nat × AV) → Prop → Prop
  | [], k => k
  | (t, v) :: r, k => SubAV bm rm (s.get t) v ∧ SubFr bm rm s r k
def SubBl (bm0 : List Nat) (rm : Nat → Option (Option Nat)) (s : St) : List Nat → List (List CV) → Prop → Prop
  | [], [], k => k
  | i :: bm, cs :: r, k => match s.blks[i]? with
    | some us => SubL bm0 rm us cs ∧ SubBl bm0 rm s bm r k
    | none => False
  | _, _, _ => False
def SubRo : RowA → RowA → Prop → Prop
  | .ints k l, .ints k' l', q => if k = k' then l = l' ∧ q else False
  | .recs ks l, .recs ks' l', q => bif CK.beqL ks ks' then l = l' ∧ q else False
  | _, _, _ => False
def nilRo : RowA → Prop → Prop
  | .ints _ l, q => l = [] ∧ q
  | .recs _ l, q => l = [] ∧ q
def ownSub : Option TypeId → Option TypeId → Bool
  | _, none => true
  | some e, some e' => Nat.beq e e'
  | none, some _ => false
def SubRows (s : St) : List (Option Nat) → List RowS → Prop → Prop
  | [], [], k => k
  | some r :: rm, ro :: rows, k => match s.rows[r]? with
    | some ro' => bif ownSub ro'.own ro.own then SubRo ro'.ro ro.ro (SubRows s rm rows k) else False
    | none => False
  | none :: rm, ro :: rows, k => nilRo ro.ro (SubRows s rm rows k)
  | _, _, _ => False
def somes : List (Option Nat) → List Nat
  | [] => []
  | some r :: l => r :: somes l
  | none :: l => somes l
def nodupN : List Nat → Bool
  | [] => true
  | n :: l => !memN n l && nodupN l
def noSpec : List (Nat × AV) → Bool
  | [] => true
  | (_, .spec _ _ _) :: _ => false
  | _ :: l => noSpec l
/-- What s says, t says too. -/
def SubAt (bm : List Nat) (rm : List (Option Nat)) (s t : St) : Prop :=
  bif Nat.beq s.n t.n && noSpec t.fr && nodupN bm && nodupN (somes rm) then
    SubFr bm (omapN rm) s t.fr (SubBl bm (omapN rm) s bm t.blks (SubRows s rm t.rows True))
  else False

end Go.Proofs.Ytoklfnonbfcdlaa
