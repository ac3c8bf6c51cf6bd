/- Regions and code, run on states. No program in sight. -/
import Derived.Test.YthfliohfkhnpiaaE9
import Derived.Lib.LazyBuf
namespace Go.Proofs.Ythfliohfkhnpiaa
set_option linter.unusedVariables false
set_option linter.unusedSimpArgs false
open Go.RowKit

def cnd (b : Bool) (p q : Prop) : Prop :=
  match b with
  | true => p
  | false => q
def conjB : List Bool → Prop → Prop
  | [], k => k
  | b :: r, k => cnd b (conjB r k) False
theorem conjB_spec : ∀ {l : List Bool} {k : Prop}, conjB l k → AllB l ∧ k
  | [], _, h => ⟨trivial, h⟩
  | true :: r, _, h => ⟨⟨rfl, (conjB_spec (l := r) h).1⟩, (conjB_spec (l := r) h).2⟩
  | false :: _, _, h => h.elim

def gpath (s : St) : Nat → Nat → Bool → List (Nat × Bool)
  | 0, t, p => [(t, p)]
  | n + 1, t, p => (t, p) :: (match s.get t with
    | .spec t' p' _ => gpath s n t' p'
    | _ => [])
def gb (s : St) : Nat → Nat → Bool → Bool
  | 0, _, _ => true
  | n + 1, t, p =>
    match s.get t with
    | .one (.cel (.bool b)) => b == p
    | .spec t' p' (.cel (.bool b)) => gb s n t' p' && (b == p)
    | _ => true
def St.guard (s : St) (t : Nat) : St := bif s.gts.any (Nat.beq t) then s else { s with gts := t :: s.gts }

/-- What a guard comes to. -/
def gbs (s : St) : Nat → Nat → Bool → Option Bool
  | 0, _, _ => none
  | n + 1, t, p =>
    match s.get t with
    | .one (.cel (.bool b)) => some (b == p)
    | .spec t' p' (.cel (.bool b)) => match gbs s n t' p' with
      | some g => some (g && (b == p))
      | none => none
    | _ => none
/-- What stands where an operation was not wanted. -/
def dfl (P : Program) (t : TypeId) : TV :=
  match P.underlying t with
  | some (.int k) => .cel (.int k 0)
  | some .bool => .cel (.bool false)
  | _ => .cel .junk
/-- A call: the function, and its arguments with what it has captured. -/
def inlC (s : St) (gp : List (Nat × Bool)) : Op → Option (FuncId × List TV)
  | .call c =>
    match c.callee with
    | .value f => fargs s gp f c.args.toList
    | _ => none
  | _ => none
/-- Operations outside drawn regions: nil slices; the beginning of an own slice, which then stands for it (in functions that are run in place). -/
def opR (P : Program) (Γ : Con) (s : St) : Op → Option (List Bool × AV × St)
  | .binOp .eql t x y _ =>
    match rd1 s [] x, rd1 s [] y, P.underlying t with
    | .cel (.row r), .cel .nilS, some (.slice _) => match s.rows[r]? with
      | some ro => some ([Nat.blt 0 ro.ro.len], .one (.cel (.bool false)), s)
      | none => none
    | _, _, _ => none
  | .slice t x lo (some y) none =>
    match P.underlying t, rd1 s [] x, rd1 s [] y with
    | some (.slice e), .cel (.row r), .cel (.int _ h) =>
      match s.rows[r]?, P.info? e with
      | some ro, some it => match ro.own with
        | some E => bif Γ.uni && lo.isNone && Nat.beq it.size ro.ro.width && Nat.ble Γ.lim r then
            some ([decide (0 ≤ h), decide (h ≤ (ro.ro.len : Int))], .one (.cel (.row r)), { s with fr := killFr r s.fr, blks := s.blks.map (List.map (CV.kill r)), rows := s.rows.set r ⟨ro.ro.sub 0 h.toNat, some E⟩ }) else none
        | none => none
      | _, _ => none
    | some (.slice e), .cel .nilS, .cel (.int _ h) =>
      match P.info? e with
      | some it => bif lo.isNone then some ([decide (h = 0)], .one (.cel .nilS), s) else none
      | none => none
    | _, _, _ => none
  | .call c =>
    match c.callee with
    | .builtin .cap =>
      match c.args.toList, c.argTypes.toList with
      | [x], [t] =>
        match P.underlying t, rd1 s [] x with
        | some (.slice _), .cel .nilS => some ([], .one (.cel (.int .i64 0)), s)
        | _, _ => none
      | _, _ => none
    | _ => none
  | _ => none
/-- A slice that is there only if q. -/
def gRow (q : Bool) : RowA → RowA
  | .ints k l => .ints k (cond q l [])
  | .recs ks l => .recs ks (cond q l [])
/-- A call under guards: what it asks, the result, the slices that it takes, and those that it lays. -/
def callG (Γ : Con) (s : St) (gp : List (Nat × Bool)) (op : Op) : Option (List Bool × TV × List Nat × List RowA) :=
  match inlC s gp op with
  | some (g, args) =>
    match gath s.blks args with
    | some caps =>
      match Γ.con g args s.rows caps with
      | some r => match r.val with
        | .one v => v.force fun v => some (r.pre, v, callRows args caps, r.rows)
        | _ => none
      | none => none
    | none => none
  | none => none
def withRows (s : St) (ms : List Nat) (rr : List RowA) : St := { s with rows := demote ms 0 s.rows ++ rowsFrom rr }
/-- The operations that make memory or write it, and those of opR. -/
def opX (P : Program) (Γ : Con) (s : St) (op : Op) : Option (List Bool × AV × St) :=
  match opR P Γ s op with
  | some z => some z
  | none => opE P Γ s op
def exOps (P : Program) (Γ : Con) (ops : Array Oper) : List Oper → St → (St → Prop) → Prop
  | [], s, K => K s
  | o :: rest, s, K =>
    match o.guard with
    | none =>
      match opQ P Γ s [] o.op with
      | some (ob, v) => bif s.putOk o.dst then conjB ob (exOps P Γ ops rest (s.put o.dst v) K) else False
      | none =>
        match opX P Γ s o.op with
        | some (ob, v, s') => bif s'.putOk o.dst then conjB ob (exOps P Γ ops rest (s'.put o.dst v) K) else False
        | none =>
          match inlC s [] o.op with
          | some (g, args) => bif s.putOk o.dst && Nat.ble Γ.lim s.rows.length then Γ.inl g args s.blks s.rows s.ro fun v b r => exOps P Γ ops rest (({ s with blks := b, rows := r } : St).put o.dst v) K else False
          | none => False
    | some (j, p) =>
      match (ops[j]?).bind (·.dst) with
      | some t =>
        match opQ P Γ s (gpath s 20 t p) o.op with
        | some (ob, .one v) => bif (s.guard t).putOk o.dst then conjB (ob.map (!gb s 20 t p || ·)) (exOps P Γ ops rest ((s.guard t).put o.dst (.spec t p v)) K) else False
        | some _ => False
        | none =>
          match callG Γ s (gpath s 20 t p) o.op, gbs s 20 t p with
          | some (ob, v, ms, rr), some q =>
            bif (s.guard t).putOk o.dst then conjB (ob.map (!q || ·)) (exOps P Γ ops rest ((withRows (s.guard t) ms (rr.map (gRow q))).put o.dst (.spec t p v)) K) else False
          | none, some q =>
            match inlC s (gpath s 20 t p) o.op with
            | some (g, args) =>
              bif (s.guard t).putOk o.dst && s.putOk o.dst && Nat.ble Γ.lim s.rows.length then
                cnd q (Γ.inl g args s.blks s.rows s.ro fun v b r => exOps P Γ ops rest (({ s with blks := b, rows := r } : St).put o.dst v) K)
                  (exOps P Γ ops rest ((s.guard t).put o.dst (.spec t p (dfl P o.type))) K)
              else False
            | none =>
              match opX P Γ s o.op with
              | some (ob, v, s') =>
                bif (s.guard t).putOk o.dst && s'.putOk o.dst then
                  cnd q (conjB ob (exOps P Γ ops rest (s'.put o.dst v) K))
                    (exOps P Γ ops rest ((s.guard t).put o.dst (.spec t p (dfl P o.type))) K)
                else False
              | none => False
          | _, none => False
      | none => False
/-- A region that draws its order: operations that leave memory alone. -/
def exQ (P : Program) (Γ : Con) (ops : Array Oper) : List Oper → St → (St → Prop) → Prop
  | [], s, K => K s
  | o :: rest, s, K =>
    match o.guard with
    | none =>
      match opQ P Γ s [] o.op with
      | some (ob, v) => bif s.putOk o.dst then conjB ob (exQ P Γ ops rest (s.put o.dst v) K) else False
      | none => False
    | some (j, p) =>
      match (ops[j]?).bind (·.dst) with
      | some t =>
        match opQ P Γ s (gpath s 20 t p) o.op with
        | some (ob, .one v) => bif (s.guard t).putOk o.dst then conjB (ob.map (!gb s 20 t p || ·)) (exQ P Γ ops rest ((s.guard t).put o.dst (.spec t p v)) K) else False
        | _ => False
      | none => False

section
variable {P : Program} {Γ : Con} {κ : Ctx} {s : St} {a : Act} {w : World} {ops : Array Oper}

theorem undef_ne (p : Bool) : (undef : Value) ≠ .bool p := by simp [undef]

theorem gpath_holds (hR : Rep P κ s a w) : ∀ (n t : Nat) (p : Bool), a.tmps.getD t undef = .bool p → Holds (gpath s n t p) a.tmps
  | 0, t, p, h => holds_cons (holds_nil _) h
  | n + 1, t, p, h => by
    refine holds_cons ?_ h
    have hd := hR.get t
    split
    · rename_i t' p' x he
      rw [he] at hd
      refine gpath_holds hR n t' p' (Classical.byContradiction fun hne => ?_)
      have := hd.2 hne
      rw [h] at this
      exact undef_ne p this.symm
    · exact holds_nil _
theorem gb_true (hR : Rep P κ s a w) : ∀ (n t : Nat) (p : Bool), a.tmps.getD t undef = .bool p → gb s n t p = true
  | 0, _, _, _ => rfl
  | n + 1, t, p, h => by
    have hd := hR.get t
    simp only [gb]
    split
    · rename_i b he
      rw [he] at hd
      have hd : a.tmps.getD t undef = .bool b := hd
      rw [h] at hd
      simp only [Value.bool.injEq] at hd
      simp [hd]
    · rename_i t' p' b he
      rw [he] at hd
      have h1 : a.tmps.getD t' undef = .bool p' := Classical.byContradiction fun hne => by
        have := hd.2 hne
        rw [h] at this
        exact undef_ne p this.symm
      have h2 : a.tmps.getD t undef = .bool b := hd.1 h1
      rw [h] at h2
      simp only [Value.bool.injEq] at h2
      simp [gb_true hR n t' p' h1, h2]
    · rfl
theorem Rep.guard (hR : Rep P κ s a w) (t : Nat) : Rep P κ (s.guard t) a w := by
  unfold St.guard
  cases s.gts.any (Nat.beq t) with
  | true => exact hR
  | false => exact { hR with gts := fun t1 t' p x h => List.mem_cons_of_mem _ (hR.gts t1 t' p x h), fr := hR.fr }
theorem guard_mem (s : St) (t : Nat) : t ∈ (s.guard t).gts := by
  unfold St.guard
  cases h : s.gts.any (Nat.beq t) with
  | true =>
    rw [cond_true]
    obtain ⟨x, hx, he⟩ := List.any_eq_true.1 h
    rw [Nat.eq_of_beq_eq_true he]; exact hx
  | false => exact List.mem_cons_self
theorem allB_map {g : Bool} {l : List Bool} (hg : g = true) (h : AllB (l.map (!g || ·))) : AllB l := by
  subst hg
  induction l with
  | nil => trivial
  | cons b r ih => exact ⟨by simpa using h.1, ih h.2⟩

theorem wanted_guard {o : Oper} {j t : Nat} {p : Bool} (hgd : o.guard = some (j, p)) (ht : (ops[j]?).bind (·.dst) = some t) : Region.wanted o (yielded ops a.tmps) = true ↔ a.tmps.getD t undef = .bool p := by
  simp only [Region.wanted, hgd, yielded, ht, Option.bind_some, beq_iff_eq, Array.getD_eq_getD_getElem?]
  cases h : a.tmps[t]? with
  | none => simp [undef]
  | some v => cases v <;> simp

theorem spec_den {t : Nat} {p : Bool} {v : TV} {x : Value} (h : a.tmps.getD t undef = .bool p) (hd : v.Den κ x) : (AV.spec t p v).Den κ a.tmps x := ⟨fun _ => hd, fun hn => absurd h hn⟩
theorem spec_den_no {t : Nat} {p : Bool} {v : TV} (h : ¬ a.tmps.getD t undef = .bool p) : (AV.spec t p v).Den κ a.tmps undef := ⟨fun e => absurd e h, fun _ => rfl⟩

theorem gbs_iff (hR : Rep P κ s a w) : ∀ (n t : Nat) (p g : Bool), gbs s n t p = some g → (a.tmps.getD t undef = .bool p ↔ g = true)
  | 0, _, _, _, h => by cases h
  | n + 1, t, p, g, h => by
    have hd := hR.get t
    simp only [gbs] at h
    split at h
    · rename_i b he
      rw [he] at hd
      have hd : a.tmps.getD t undef = .bool b := hd
      simp only [Option.some.injEq] at h
      subst h
      rw [hd]
      simp
    · rename_i t' p' b he
      rw [he] at hd
      split at h
      · rename_i g' hg
        simp only [Option.some.injEq] at h
        subst h
        have ih := gbs_iff hR n t' p' g' hg
        constructor
        · intro h1
          have h2 : a.tmps.getD t' undef = .bool p' := Classical.byContradiction fun hne => by
            have := hd.2 hne
            rw [h1] at this
            exact undef_ne p this.symm
          have h3 : a.tmps.getD t undef = .bool b := hd.1 h2
          rw [h1] at h3
          simp only [Value.bool.injEq] at h3
          rw [ih.1 h2, h3]
          simp
        · intro h1
          simp only [Bool.and_eq_true, beq_iff_eq] at h1
          have h3 : a.tmps.getD t undef = .bool b := hd.1 (ih.2 h1.1)
          rw [h3, h1.2]
      · cases h
    · cases h
theorem inlC_run {o : Oper} {g : FuncId} {args : List TV} {gp : List (Nat × Bool)} (hR : Rep P κ s a w) (hg : Holds gp a.tmps) (h : inlC s gp o.op = some (g, args)) : ∃ vs, DenT κ args vs ∧ ((∀ ws us, (callFunc g us).run P ws = .ok (.enter g us) ws) → (execOp a.eval o).run P w = .ok (.enter g vs.toArray) w) := by
  cases hop : o.op with
  | call c =>
    rw [hop] at h
    obtain ⟨callee, ⟨ags⟩, ⟨tys⟩⟩ := c
    cases callee with
    | value f =>
      obtain ⟨cs, hf, hargs⟩ := fargs_den hR hg h
      refine ⟨_, hargs, fun hc => ?_⟩
      simp [execOp, hop, resolve, Deferred.ofValue, hf, invoke, hc]
    | _ => cases h
  | _ => rw [hop] at h; cases h
theorem putOk_eff {b : List (List CV)} {r : List RowS} {d : Option Tmp} (h : s.putOk d = true) : ({ s with blks := b, rows := r } : St).putOk d = true := by
  cases d <;> exact h
/-- A function that is run in place. -/
theorem inl_wp (hΓ : SoundG P Γ) {o : Oper} {g : FuncId} {args : List TV} {K : AV → List (List CV) → List RowS → Prop} {gp : List (Nat × Bool)} (hR : Rep P κ s a w) (hg : Holds gp a.tmps) (h : inlC s gp o.op = some (g, args)) (hi : Γ.inl g args s.blks s.rows s.ro K)
    {Kc : Act → World → Prop} {Q : Exit → Act → World → Prop} (hp : s.putOk o.dst = true) (hlim : Γ.lim ≤ s.rows.length) (hK : ∀ κ' v b r a' w', LeB Γ.lim κ κ' → Rep P κ' (({ s with blks := b, rows := r } : St).put o.dst v) a' w' → K v b r → Kc a' w') : o.wp P a w Kc Q := by
  obtain ⟨vs, h1, h2⟩ := inlC_run hR hg h
  obtain ⟨h3, h4⟩ := hΓ.inl g args s K hi κ a w vs hR h1
  unfold Oper.wp
  rw [h2 h3, Oper.upon_enter]
  refine h4.mono fun e w' hpost => ?_
  obtain ⟨x, v, κ', b, r, rfl, k1, k2, k3, k4, k5⟩ := hpost
  refine hK κ' v b r _ w' (LeB.trans hlim (LeB.refl _ _) k1) (k2.put (putOk_eff hp) ?_ ?_) k5
  · cases v with
    | one t => exact k3
    | tup l => exact k3
    | spec t p y => cases k4
  · intro t p y e
    rw [e] at k4
    cases k4

theorem gRow_true (l : List RowA) : l.map (gRow true) = l := by
  have : ∀ r : RowA, gRow true r = r := fun r => by cases r <;> rfl
  rw [show gRow true = id from funext this, List.map_id]
theorem gRow_false_len (r : RowA) : (gRow false r).len = 0 := by cases r <;> rfl
theorem withRows_guard (s : St) (t : Nat) (ms : List Nat) (rr : List RowA) : withRows (s.guard t) ms rr = (withRows s ms rr).guard t := by
  unfold withRows St.guard
  cases s.gts.any (Nat.beq t) <;> rfl
/-- A call under a guard, wanted or not. -/
theorem callG_wp (hΓ : SoundG P Γ) {o : Oper} {ob : List Bool} {v : TV} {ms : List Nat} {rr : List RowA} {t : Nat} {p q : Bool} (hR : Rep P κ s a w) (h : callG Γ s (gpath s 20 t p) o.op = some (ob, v, ms, rr)) (hq : gbs s 20 t p = some q) (ho : AllB (ob.map (!q || ·))) (hp : (s.guard t).putOk o.dst = true)
    {Kc : Act → World → Prop} {Q : Exit → Act → World → Prop} (hK : ∀ κ' a' w', LeB Γ.lim κ κ' → Rep P κ' ((withRows (s.guard t) ms (rr.map (gRow q))).put o.dst (.spec t p v)) a' w' → Kc a' w') :
    (a.tmps.getD t undef = .bool p → o.wp P a w Kc Q) ∧ (¬ a.tmps.getD t undef = .bool p → Kc (a.put o.dst undef) w) := by
  have hiff := gbs_iff hR 20 t p q hq
  have hput : ∀ rr', (withRows (s.guard t) ms rr').putOk o.dst = true := fun rr' => putOk_eff (b := (s.guard t).blks) hp
  have hwith : ∀ ρ', LeB Γ.lim κ (κ.with ρ') := fun ρ' => ⟨rfl, rfl, fun _ _ h => h, fun i u _ hu => by show (κ.ρ ++ ρ')[i]? = _; rw [List.getElem?_append_left (List.getElem?_eq_some_iff.1 hu).1]; exact hu⟩
  constructor
  · intro ht
    have hqt := hiff.1 ht
    subst hqt
    have ho' : AllB ob := allB_map rfl ho
    unfold callG at h
    split at h
    · rename_i g args hin
      obtain ⟨vs, h1, h2⟩ := inlC_run hR (gpath_holds hR 20 t p ht) hin
      split at h
      · rename_i caps hcaps
        split at h
        · rename_i r hr
          split at h
          · rename_i v0 hv0
            rw [TV.force_eq] at h
            simp only [Option.some.injEq, Prod.mk.injEq] at h
            obtain ⟨rfl, rfl, rfl, rfl⟩ := h
            obtain ⟨hcf, hc⟩ := hΓ.con g _ _ _ r hr ho' κ w _ (hR.memOk hcaps) h1
            unfold Oper.wp
            rw [h2 hcf, Oper.upon_enter]
            refine hc.mono fun e w1 hpost => ?_
            obtain ⟨x, ρ', rfl, hb, hd, hns, hl, hrows⟩ := hpost
            rw [hv0] at hd
            have hR2 := call_rows hR hb hl hrows
            have hR3 : Rep P (κ.with ρ') (withRows (s.guard t) (callRows args caps) (r.rows.map (gRow true))) a w1 := by
              rw [gRow_true, withRows_guard]
              exact hR2.guard t
            refine hK (κ.with ρ') _ w1 (hwith ρ') (hR3.put (hput _) (spec_den ht hd) fun t' p' y e => ?_)
            cases e
            exact guard_mem s t
          · cases h
        · cases h
      · cases h
    · cases h
  · intro ht
    have hqf : q = false := by
      cases q with
      | false => rfl
      | true => exact absurd (hiff.2 rfl) ht
    subst hqf
    obtain ⟨ρ', hρ'⟩ : ∃ ρ' : List Value, ρ' = (rr.map (gRow false)).map fun _ => Value.slice none 0 0 := ⟨_, rfl⟩
    have hR2 : Rep P (κ.with ρ') (withRows s ms (rr.map (gRow false))) a w := by
      refine call_rows hR (Below.refl _ _) (by rw [hρ']; simp) (fun i ro u h1 h2 => ?_)
      have hu : u = .slice none 0 0 := by
        have := List.mem_of_getElem? h2
        rw [hρ'] at this
        obtain ⟨_, _, h3⟩ := List.mem_map.1 this
        exact h3.symm
      have h0 : ro.len = 0 := by
        obtain ⟨r0, _, h3⟩ := List.mem_map.1 (List.mem_of_getElem? h1)
        rw [← h3]; exact gRow_false_len r0
      subst hu
      exact ⟨⟨none, 0, by rw [h0], by omega, Nat.zero_le _, fun hl => by omega⟩, fun g hl => by omega⟩
    refine hK (κ.with ρ') _ w (hwith ρ') ?_
    have hR3 : Rep P (κ.with ρ') (withRows (s.guard t) ms (rr.map (gRow false))) a w := by
      rw [withRows_guard]
      exact hR2.guard t
    refine hR3.put (hput _) (spec_den_no ht) fun t' p' y e => ?_
    cases e
    exact guard_mem s t

theorem RowA.sub_flat (ro : RowA) (h : Nat) : (ro.sub 0 h).flat = ro.flat.take (h * ro.width) := by
  cases ro with
  | ints k l => simp [RowA.sub, RowA.flat, RowA.width]
  | recs ks l => simp only [RowA.sub, RowA.flat, RowA.width, List.drop_zero]; exact flatMap_enc_take ks l h
theorem opR_ok {o : Oper} {ob : List Bool} {v : AV} {s' : St} (hR : Rep P κ s a w) (h : opR P Γ s o.op = some (ob, v, s')) (ho : AllB ob) : EOk P Γ.lim κ s' a w o v := by
  cases hop : o.op with
  | binOp op t x y t' =>
    rw [hop] at h
    have hx := rd1_den hR (holds_nil _) x
    have hy := rd1_den hR (holds_nil _) y
    cases op <;> first | (cases h; done) | skip
    simp only [opR] at h
    split at h
    · rename_i r e h1 h2 hu
      rw [h1] at hx
      rw [h2] at hy
      obtain ⟨hx, -⟩ := hx
      have hy : a.eval y = .slice none 0 0 := hy
      split at h
      · rename_i ro hro
        simp only [Option.some.injEq, Prod.mk.injEq] at h
        obtain ⟨rfl, rfl, rfl⟩ := h
        simp only [AllB, and_true] at ho
        have ho : 0 < ro.ro.len := by
          have := Nat.le_of_ble_eq_true ho
          omega
        obtain ⟨ad, cap, h3, h4, h5, h6⟩ := (hR.row r ro _ hro hx).1
        obtain ⟨b, off, h7, _⟩ := h6 ho
        refine eok_of (x := .bool false) ?_ hR (LeB.refl _ _) rfl
        have hgd : (eqGuard .eql t x y (.slice ad ro.ro.len cap) (.slice none 0 0)).run P w = .ok () w := by simp [eqGuard]
        have hbin := run_eql_slice_nil (P := P) w t e ad ro.ro.len cap hu
        rw [h7] at hbin hgd h3
        simp only [Option.isNone_some] at hbin
        simp [execOp, hop, h3, hy, Sem.run_bind, hgd, hbin]
      · cases h
    · cases h
  | slice t x lo hi mx =>
    rw [hop] at h
    have hx := rd1_den hR (holds_nil _) x
    cases mx with
    | some _ => cases hi <;> cases h
    | none =>
      cases hi with
      | none => cases h
      | some y =>
        have hy := rd1_den hR (holds_nil _) y
        simp only [opR] at h
        split at h
        · rename_i e r k hh hu h1 h2
          rw [h1] at hx
          rw [h2] at hy
          obtain ⟨hx, -⟩ := hx
          have hy : a.eval y = .int k hh := hy
          split at h
          · rename_i ro it hro hi'
            split at h
            · rename_i E hE
              cases hc : (Γ.uni && lo.isNone && Nat.beq it.size ro.ro.width && Nat.ble Γ.lim r) with
              | false => rw [hc] at h; cases h
              | true =>
                rw [hc, cond_true] at h
                simp only [Option.some.injEq, Prod.mk.injEq] at h
                obtain ⟨rfl, rfl, rfl⟩ := h
                simp only [Bool.and_eq_true, Option.isNone_iff_eq_none] at hc
                obtain ⟨⟨⟨_, hlo⟩, hw⟩, hlim⟩ := hc
                subst hlo
                have hw := Nat.eq_of_beq_eq_true hw
                have hlim := Nat.le_of_ble_eq_true hlim
                simp only [AllB, decide_eq_true_eq, and_true] at ho
                obtain ⟨ho1, ho2⟩ := ho
                obtain ⟨H, rfl⟩ : ∃ H : Nat, hh = H := ⟨hh.toNat, by omega⟩
                simp only [Int.toNat_natCast]
                obtain ⟨⟨xs, hd, hown⟩, -⟩ := hR.own r ro _ E hro hx hE
                have hform : ∃ (ad : Option Addr) (cap : Nat), a.eval x = .slice ad ro.ro.len cap ∧ ro.ro.len ≤ cap ∧ (ad = none ∨ ∃ g, ad = some ⟨g, 0, none⟩) ∧ w.ownsRow κ.W0.heap.size E ro.ro.width (.slice ad H cap) H (xs.take (H * ro.ro.width)) := by
                  have hlx : (xs.take (H * ro.ro.width)).length = H * ro.ro.width := by
                    rw [List.length_take, hown.1]
                    exact Nat.min_eq_left (Nat.mul_le_mul_right _ (by omega))
                  rcases hown.2 with ⟨h3, h4⟩ | ⟨g, cap, cur, h3, h4, h5, h6, h7, h8, h9⟩
                  · have hH : H = 0 := by omega
                    subst hH
                    exact ⟨none, 0, by rw [h3, h4], by omega, .inl rfl, hlx, .inl ⟨rfl, rfl⟩⟩
                  · refine ⟨_, cap, h3, h6, .inr ⟨g, rfl⟩, hlx, .inr ⟨g, cap, cur, rfl, h4, h5, by omega, h7, h8, ?_⟩⟩
                    rw [← h9, List.take_take, Nat.min_eq_left (Nat.mul_le_mul_right _ (by omega))]
                obtain ⟨ad, cap, h3, h4, h5, h6⟩ := hform
                have hlen : (ro.ro.sub 0 H).len = H := by rw [RowA.sub_len ro.ro 0 H (by omega)]; omega
                have hro' : s.rows[r]? = some ⟨ro.ro, some E⟩ := by rw [hro]; congr 1; cases ro; simp only at hE; rw [hE]
                have hd2 : DenL κ (ro.ro.sub 0 H).flat (xs.take (H * ro.ro.width)) := by
                  rw [RowA.sub_flat]
                  exact hd.take _
                have hR2 := hR.appendRow (rn := ro.ro.sub 0 H) (v' := .slice ad H cap) (w' := w) (xs' := xs.take (H * ro.ro.width)) hro' hx hd2 (by rw [hlen, RowA.sub_width]; exact h6)
                  ⟨rfl, rfl, rfl, Nat.le_refl _, fun _ _ _ => rfl⟩ (.inl (by rw [h3]; cases ad <;> rfl))
                refine eok_of (x := .slice ad H cap) ?_ hR2 ⟨rfl, rfl, fun _ _ h => h, fun i u hi hu => by show (κ.ρ.set r _)[i]? = _; rw [List.getElem?_set_ne (by omega)]; exact hu⟩ ⟨?_, _, _, _, rfl⟩
                · have hb : (Instr.sliceBounds true ro.ro.len cap none (some (a.eval y)) none).run P w = .ok (0, H, cap) w := by
                    unfold Instr.sliceBounds
                    simp [hy, Instr.sliceBound, asIntOf]
                    omega
                  have hres : (if cap = 0 then ad else ad.map (·.add (0 * it.size))) = ad := by
                    split
                    · rfl
                    · rcases h5 with rfl | ⟨g, rfl⟩
                      · rfl
                      · simp [Addr.add_mid]
                  simp [execOp, hop, h3, Instr.sliceAt, run_underlying hu, Instr.slice, hb, sizeOf, typeInfo, hi']
                  simpa using hres
                · show (κ.ρ.set r _)[r]? = _
                  exact List.getElem?_set_self (List.getElem?_eq_some_iff.1 hx).1
            · cases h
          · cases h
        · rename_i e k hh hu h1 h2
          rw [h1] at hx
          rw [h2] at hy
          have hx : a.eval x = .slice none 0 0 := hx
          have hy : a.eval y = .int k hh := hy
          split at h
          · rename_i it hi'
            cases hlo : lo.isNone with
            | false => rw [hlo] at h; cases h
            | true =>
              rw [hlo, cond_true] at h
              simp only [Option.isNone_iff_eq_none] at hlo
              subst hlo
              simp only [Option.some.injEq, Prod.mk.injEq] at h
              obtain ⟨rfl, rfl, rfl⟩ := h
              simp only [AllB, decide_eq_true_eq, and_true] at ho
              subst ho
              refine eok_of (x := .slice none 0 0) ?_ hR (LeB.refl _ _) rfl
              simp [execOp, hop, hx, hy, Instr.sliceAt, run_underlying hu, Instr.slice, Instr.sliceBounds, Instr.sliceBound, asIntOf, sizeOf, typeInfo, hi']
          · cases h
        · cases h
  | call c =>
    rw [hop] at h
    obtain ⟨callee, ⟨args⟩, ⟨tys⟩⟩ := c
    cases callee with
    | builtin b =>
      cases b <;> first | (cases h; done) | skip
      simp only [opR] at h
      split at h
      · rename_i x t
        have hx := rd1_den hR (holds_nil _) x
        split at h
        · rename_i e hu h1
          rw [h1] at hx
          have hx : a.eval x = .slice none 0 0 := hx
          simp only [Option.some.injEq, Prod.mk.injEq] at h
          obtain ⟨rfl, rfl, rfl⟩ := h
          refine eok_of (x := .int .i64 0) ?_ hR (LeB.refl _ _) rfl
          simp [execOp, hop, resolve, invoke, builtin, Builtin.cap_, run_underlying hu, hx, goInt]
        · cases h
      · cases h
    | _ => cases h
  | _ => rw [hop] at h; cases h

theorem opX_ok (hΓ : SoundG P Γ) {o : Oper} {ob : List Bool} {v : AV} {s' : St} (hR : Rep P κ s a w) (h : opX P Γ s o.op = some (ob, v, s')) (ho : AllB ob) : EOk P Γ.lim κ s' a w o v := by
  unfold opX at h
  split at h
  · rename_i z hz
    simp only [Option.some.injEq] at h
    subst h
    exact opR_ok hR hz ho
  · exact opE_ok hΓ hR h ho
theorem exOps_ok (hΓ : SoundG P Γ) {K : St → Prop} {Q : Exit → Act → World → Prop} {J : Ctx → Prop} (hJ : ∀ κ κ', J κ → LeB Γ.lim κ κ' → J κ') (hQ : ∀ (κ' : Ctx) (s' : St) (a' : Act) (w' : World), J κ' → Rep P κ' s' a' w' → K s' → Q .normal a' w') :
    ∀ (l : List Oper) (k : Nat) (κ : Ctx) (s : St) (a : Act) (w : World), (∀ j, l[j]? = ops[k + j]?) → J κ → Rep P κ s a w → exOps P Γ ops l s K → wpOps P ops Q (List.range' k l.length) a w
  | [], k, κ, s, a, w, _, h1, hR, h => hQ κ s a w h1 hR h
  | o :: rest, k, κ, s, a, w, hl, h1, hR, h => by
    have h0 : ops[k]? = some o := by simpa using (hl 0).symm
    have hl' : ∀ j, rest[j]? = ops[k + 1 + j]? := fun j => by have := hl (j + 1); simpa [Nat.add_assoc, Nat.add_comm 1 j] using this
    rw [List.length_cons, List.range'_succ]
    simp only [wpOps, h0]
    simp only [exOps] at h
    split at h
    · rename_i hgd
      have hw : Region.wanted o (yielded ops a.tmps) = true := by simp [Region.wanted, hgd]
      rw [if_pos hw]
      left
      split at h
      · rename_i ob v hq
        cases hp : s.putOk o.dst with
        | false => rw [hp] at h; exact h.elim
        | true =>
          rw [hp, cond_true] at h
          obtain ⟨ho, h⟩ := conjB_spec h
          obtain ⟨x, hd, hns, hst⟩ := opQ_ok hΓ hR (holds_nil _) hq ho
          have key : ∀ w', Below w.heap.size w w' → wpOps P ops Q (List.range' (k + 1) rest.length) (a.put o.dst x) w' := fun w' hb =>
            exOps_ok hΓ hJ hQ rest (k + 1) κ _ _ w' hl' h1 ((hR.later hb).put hp hd (fun t p y e => absurd e (hns t p y))) h
          unfold Oper.wp
          rcases hst w (Below.refl _ _) with hrun | ⟨f, vs, hrun, hc⟩
          · rw [hrun]; exact key w (Below.refl _ _)
          · rw [hrun, Oper.upon_enter]
            exact hc.mono fun e w' ⟨he, hb⟩ => by subst he; exact key w' hb
      · split at h
        · rename_i hq ob v s' he
          cases hp : s'.putOk o.dst with
          | false => rw [hp] at h; exact h.elim
          | true =>
            rw [hp, cond_true] at h
            obtain ⟨ho, h⟩ := conjB_spec h
            refine opX_ok hΓ hR he ho _ _ fun x κ' w' k1 hR' hd hns => ?_
            exact exOps_ok hΓ hJ hQ rest (k + 1) κ' _ _ w' hl' (hJ _ _ h1 k1) (hR'.put hp hd (fun t p y e => absurd e (hns t p y))) h
        · split at h
          · rename_i g args hin
            cases hp : (s.putOk o.dst && Nat.ble Γ.lim s.rows.length) with
            | false => rw [hp] at h; exact h.elim
            | true =>
              rw [hp, cond_true] at h
              simp only [Bool.and_eq_true] at hp
              exact inl_wp hΓ hR (holds_nil _) hin h hp.1 (Nat.le_of_ble_eq_true hp.2) (fun κ' v b r a' w' k1 hR' hk => exOps_ok hΓ hJ hQ rest (k + 1) κ' _ _ w' hl' (hJ _ _ h1 k1) hR' hk)
          · exact h.elim
    · rename_i j p hgd
      split at h
      · rename_i t ht
        split at h
        · rename_i ob v hq
          cases hp : (s.guard t).putOk o.dst with
          | false => rw [hp] at h; exact h.elim
          | true =>
            rw [hp, cond_true] at h
            obtain ⟨ho, h⟩ := conjB_spec h
            by_cases hw : Region.wanted o (yielded ops a.tmps) = true
            · rw [if_pos hw]
              left
              have ht2 := (wanted_guard hgd ht).1 hw
              obtain ⟨x, hd, hns, hst⟩ := opQ_ok hΓ hR (gpath_holds hR 20 t p ht2) hq (allB_map (gb_true hR 20 t p ht2) ho)
              have key : ∀ w', Below w.heap.size w w' → wpOps P ops Q (List.range' (k + 1) rest.length) (a.put o.dst x) w' := fun w' hb =>
                exOps_ok hΓ hJ hQ rest (k + 1) κ _ _ w' hl' h1 (((hR.later hb).guard t).put hp (spec_den ht2 hd) (fun t' p' y e => by cases e; exact guard_mem s t)) h
              unfold Oper.wp
              rcases hst w (Below.refl _ _) with hrun | ⟨f, vs, hrun, hc⟩
              · rw [hrun]; exact key w (Below.refl _ _)
              · rw [hrun, Oper.upon_enter]
                exact hc.mono fun e w' ⟨he, hb⟩ => by subst he; exact key w' hb
            · rw [if_neg hw]
              have ht2 : ¬ a.tmps.getD t undef = .bool p := fun e => hw ((wanted_guard hgd ht).2 e)
              exact exOps_ok hΓ hJ hQ rest (k + 1) κ _ _ w hl' h1 ((hR.guard t).put hp (spec_den_no ht2) (fun t' p' y e => by cases e; exact guard_mem s t)) h
        · exact h.elim
        · split at h
          · rename_i ob v ms rr q hcg hgq
            cases hp : (s.guard t).putOk o.dst with
            | false => rw [hp] at h; exact h.elim
            | true =>
              rw [hp, cond_true] at h
              obtain ⟨ho, h⟩ := conjB_spec h
              obtain ⟨hw1, hw2⟩ := callG_wp (Q := Q) (Kc := fun a' w' => wpOps P ops Q (List.range' (k + 1) rest.length) a' w') hΓ hR hcg hgq ho hp (fun κ' a' w' k1 hR' => exOps_ok hΓ hJ hQ rest (k + 1) κ' _ _ w' hl' (hJ _ _ h1 k1) hR' h)
              by_cases hw : Region.wanted o (yielded ops a.tmps) = true
              · rw [if_pos hw]
                left
                exact hw1 ((wanted_guard hgd ht).1 hw)
              · rw [if_neg hw]
                exact hw2 fun e => hw ((wanted_guard hgd ht).2 e)
          · rename_i q hcg hgq
            split at h
            · rename_i g args hin
              cases hp : ((s.guard t).putOk o.dst && s.putOk o.dst && Nat.ble Γ.lim s.rows.length) with
              | false => rw [hp] at h; exact h.elim
              | true =>
                rw [hp, cond_true] at h
                simp only [Bool.and_eq_true] at hp
                have hiff := gbs_iff hR 20 t p q hgq
                by_cases hw : Region.wanted o (yielded ops a.tmps) = true
                · rw [if_pos hw]
                  left
                  have ht2 := (wanted_guard hgd ht).1 hw
                  have hq := hiff.1 ht2
                  subst hq
                  exact inl_wp hΓ hR (gpath_holds hR 20 t p ht2) hin h hp.1.2 (Nat.le_of_ble_eq_true hp.2) (fun κ' v b r a' w' k1 hR' hk => exOps_ok hΓ hJ hQ rest (k + 1) κ' _ _ w' hl' (hJ _ _ h1 k1) hR' hk)
                · rw [if_neg hw]
                  have ht2 : ¬ a.tmps.getD t undef = .bool p := fun e => hw ((wanted_guard hgd ht).2 e)
                  have hq : q = false := by
                    cases q with
                    | false => rfl
                    | true => exact absurd (hiff.2 rfl) ht2
                  subst hq
                  exact exOps_ok hΓ hJ hQ rest (k + 1) κ _ _ w hl' h1 ((hR.guard t).put hp.1.1 (spec_den_no ht2) (fun t' p' y e => by cases e; exact guard_mem s t)) h
            · split at h
              · rename_i ob v s' he
                cases hp : ((s.guard t).putOk o.dst && s'.putOk o.dst) with
                | false => rw [hp] at h; exact h.elim
                | true =>
                  rw [hp, cond_true] at h
                  simp only [Bool.and_eq_true] at hp
                  have hiff := gbs_iff hR 20 t p q hgq
                  by_cases hw : Region.wanted o (yielded ops a.tmps) = true
                  · rw [if_pos hw]
                    left
                    have ht2 := (wanted_guard hgd ht).1 hw
                    have hq := hiff.1 ht2
                    subst hq
                    replace h : conjB ob (exOps P Γ ops rest (s'.put o.dst v) K) := h
                    obtain ⟨ho, h⟩ := conjB_spec h
                    refine opX_ok hΓ hR he ho _ _ fun x κ' w' k1 hR' hd hns => ?_
                    exact exOps_ok hΓ hJ hQ rest (k + 1) κ' _ _ w' hl' (hJ _ _ h1 k1) (hR'.put hp.2 hd (fun t p y e => absurd e (hns t p y))) h
                  · rw [if_neg hw]
                    have ht2 : ¬ a.tmps.getD t undef = .bool p := fun e => hw ((wanted_guard hgd ht).2 e)
                    have hq : q = false := by
                      cases q with
                      | false => rfl
                      | true => exact absurd (hiff.2 rfl) ht2
                    subst hq
                    exact exOps_ok hΓ hJ hQ rest (k + 1) κ _ _ w hl' h1 ((hR.guard t).put hp.1 (spec_den_no ht2) (fun t' p' y e => by cases e; exact guard_mem s t)) h
              · exact h.elim
          · exact h.elim
      · exact h.elim

theorem exQ_ok (hΓ : SoundG P Γ) {w : World} {K : St → Prop} {Q : Act → Prop} (hQ : ∀ (s' : St) (a' : Act), Rep P κ s' a' w → K s' → Q a') :
    ∀ (l : List Oper) (s : St) (a : Act), Rep P κ s a w → exQ P Γ ops l s K → wpQuiet P ops (fun w' => Below w.heap.size w w') Q l a
  | [], s, a, hR, h => hQ s a hR h
  | o :: rest, s, a, hR, h => by
    simp only [wpQuiet]
    simp only [exQ] at h
    have quiet : ∀ (x : Value) (K' : Act → Prop), (∀ w', Below w.heap.size w w' → QStep P o a w' x) → K' (a.put o.dst x) → o.quiet P a (fun w' => Below w.heap.size w w') K' := by
      intro x K' hst hK
      refine ⟨x, fun w' hb => ?_, hK⟩
      unfold Oper.quietAt
      rcases hst w' hb with hrun | ⟨f, vs, hrun, hc⟩
      · rw [hrun]; exact ⟨rfl, rfl⟩
      · rw [hrun]
        exact ⟨rfl, hc.mono fun e w'' ⟨he, hb2⟩ => ⟨he, hb.trans (hb2.mono hb.size)⟩⟩
    split at h
    · rename_i hgd
      have hw : Region.wanted o (yielded ops a.tmps) = true := by simp [Region.wanted, hgd]
      rw [if_pos hw]
      split at h
      · rename_i ob v hq
        cases hp : s.putOk o.dst with
        | false => rw [hp] at h; exact h.elim
        | true =>
          rw [hp, cond_true] at h
          obtain ⟨ho, h⟩ := conjB_spec h
          obtain ⟨x, hd, hns, hst⟩ := opQ_ok hΓ hR (holds_nil _) hq ho
          exact quiet x _ hst (exQ_ok hΓ hQ rest _ _ (hR.put hp hd (fun t p y e => absurd e (hns t p y))) h)
      · exact h.elim
    · rename_i j p hgd
      split at h
      · rename_i t ht
        split at h
        · rename_i ob v hq
          cases hp : (s.guard t).putOk o.dst with
          | false => rw [hp] at h; exact h.elim
          | true =>
            rw [hp, cond_true] at h
            obtain ⟨ho, h⟩ := conjB_spec h
            by_cases hw : Region.wanted o (yielded ops a.tmps) = true
            · rw [if_pos hw]
              have ht2 := (wanted_guard hgd ht).1 hw
              obtain ⟨x, hd, hns, hst⟩ := opQ_ok hΓ hR (gpath_holds hR 20 t p ht2) hq (allB_map (gb_true hR 20 t p ht2) ho)
              exact quiet x _ hst (exQ_ok hΓ hQ rest _ _ ((hR.guard t).put hp (spec_den ht2 hd) (fun t' p' y e => by cases e; exact guard_mem s t)) h)
            · rw [if_neg hw]
              have ht2 : ¬ a.tmps.getD t undef = .bool p := fun e => hw ((wanted_guard hgd ht).2 e)
              exact exQ_ok hΓ hQ rest _ _ ((hR.guard t).put hp (spec_den_no ht2) (fun t' p' y e => by cases e; exact guard_mem s t)) h
        · exact h.elim
      · exact h.elim

end

/-! ### One state says what another says -/

def omapN (l : List (Option Nat)) (r : Nat) : Option (Option Nat) := l[r]?
def capsMap (bm : List Nat) : List Nat → List Nat → Bool
  | [], [] => true
  | i :: r, i' :: r' => (match bm[i]? with
    | some i0 => Nat.beq i0 i'
    | none => false) && capsMap bm r r'
  | _, _ => false
def SubC (bm : List Nat) (rm : Nat → Option (Option Nat)) (u : CV) : CV → Prop
  | .junk => True
  | .int k n => match u with
    | .int k' n' => if k' = k then n' = n else False
    | _ => False
  | .bool b => match u with
    | .bool b' => b' = b
    | _ => False
  | .ptr i off => match u with
    | .ptr i' off' => match bm[i]? with
      | some i0 => bif Nat.beq i0 i' && Nat.beq off off' then True else False
      | none => False
    | _ => False
  | .row r => match u with
    | .row r' => match rm r with
      | some (some r0) => bif Nat.beq r0 r' then True else False
      | _ => False
    | .nilS => match rm r with
      | some none => True
      | _ => False
    | _ => False
  | .nilS => match u with
    | .nilS => True
    | _ => False
  | .fn f => match u with
    | .fn f' => bif Nat.beq f f' then True else False
    | _ => False
  | .elt r i c o => match u with
    | .elt r' i' c' o' => match rm r with
      | some (some r0) => bif Nat.beq r0 r' && Nat.beq c c' && Nat.beq o o' then i' = i else False
      | _ => False
    | _ => False
  | .clo f l => match u with
    | .clo f' l' => bif Nat.beq f f' && capsMap bm l l' then True else False
    | _ => False
  | .bsl i n => match u with
    | .bsl i' n' => match bm[i]? with
      | some i0 => bif Nat.beq i0 i' && Nat.beq n n' then True else False
      | none => False
    | _ => False
def SubL (bm : List Nat) (rm : Nat → Option (Option Nat)) : List CV → List CV → Prop
  | [], [] => True
  | [u], [c] => SubC bm rm u c
  | u :: us, c :: cs => SubC bm rm u c ∧ SubL bm rm us cs
  | _, _ => False
def SubTV (bm : List Nat) (rm : Nat → Option (Option Nat)) (u : TV) : TV → Prop
  | .cel c => match u with
    | .cel d => SubC bm rm d c
    | .agg _ => match c with
      | .junk => True
      | _ => False
  | .agg l => match u with
    | .agg m => SubL bm rm m l
    | _ => False
def SubT (bm : List Nat) (rm : Nat → Option (Option Nat)) : List TV → List TV → Prop
  | [], [] => True
  | [u], [c] => SubTV bm rm u c
  | u :: us, c :: cs => SubTV bm rm u c ∧ SubT bm rm us cs
  | _, _ => False
def SubAV (bm : List Nat) (rm : Nat → Option (Option Nat)) (u : AV) : AV → Prop
  | .one t => match u with
    | .one d => SubTV bm rm d t
    | _ => match t with
      | .cel .junk => True
      | _ => False
  | .tup l => match u with
    | .tup m => SubT bm rm m l
    | _ => False
  | .spec _ _ _ => False
def SubFr (bm : List Nat) (rm : Nat → Option (Option Nat)) (s : St) : List (Nat × AV) → Prop → Prop
  | [], k => k
  | (t, v) :: r, k => SubAV bm rm (s.get t) v ∧ SubFr bm rm s r k
def SubBl (bm0 : List Nat) (rm : Nat → Option (Option Nat)) (s : St) : List Nat → List (List CV) → Prop → Prop
  | [], [], k => k
  | i :: bm, cs :: r, k => match s.blks[i]? with
    | some us => SubL bm0 rm us cs ∧ SubBl bm0 rm s bm r k
    | none => False
  | _, _, _ => False
def SubRo : RowA → RowA → Prop → Prop
  | .ints k l, .ints k' l', q => if k = k' then l = l' ∧ q else False
  | .recs ks l, .recs ks' l', q => bif CK.beqL ks ks' then l = l' ∧ q else False
  | _, _, _ => False
def nilRo : RowA → Prop → Prop
  | .ints _ l, q => l = [] ∧ q
  | .recs _ l, q => l = [] ∧ q
def ownSub : Option TypeId → Option TypeId → Bool
  | _, none => true
  | some e, some e' => Nat.beq e e'
  | none, some _ => false
def SubRows (s : St) : List (Option Nat) → List RowS → Prop → Prop
  | [], [], k => k
  | some r :: rm, ro :: rows, k => match s.rows[r]? with
    | some ro' => bif ownSub ro'.own ro.own then SubRo ro'.ro ro.ro (SubRows s rm rows k) else False
    | none => False
  | none :: rm, ro :: rows, k => nilRo ro.ro (SubRows s rm rows k)
  | _, _, _ => False
def noneO : Option TypeId → Bool
  | none => true
  | some _ => false
/-- A row that two rows of the later state name is no own row there. -/
def shC (r : Nat) (o : Option TypeId) : List (Option Nat) → List RowS → Bool
  | some r' :: l, ro :: rows => (!(Nat.beq r r') || (noneO o && noneO ro.own)) && shC r o l rows
  | none :: l, _ :: rows => shC r o l rows
  | _, _ => true
def shOk : List (Option Nat) → List RowS → Bool
  | some r :: l, ro :: rows => shC r ro.own l rows && shOk l rows
  | none :: l, _ :: rows => shOk l rows
  | _, _ => true
def nodupN : List Nat → Bool
  | [] => true
  | n :: l => !memN n l && nodupN l
def noSpec : List (Nat × AV) → Bool
  | [] => true
  | (_, .spec _ _ _) :: _ => false
  | _ :: l => noSpec l
/-- The blocks of its own are own ones there too. -/
def bmRo (ro : Nat) (bm : List Nat) : Bool := (bm.drop ro).all fun i => Nat.ble ro i
/-- What s says, t says too. -/
def SubAt (bm : List Nat) (rm : List (Option Nat)) (s t : St) : Prop :=
  bif Nat.beq s.n t.n && noSpec t.fr && nodupN bm && shOk rm t.rows && Nat.beq s.ro t.ro && bmRo s.ro bm then
    SubFr bm (omapN rm) s t.fr (SubBl bm (omapN rm) s bm t.blks (SubRows s rm t.rows True))
  else False

end Go.Proofs.Ythfliohfkhnpiaa
