/- Sort and Compact of a slice of the function's own, as functions proved by hand. -/
import Derived.Test.YthfliohfkhnpiaaSl
import Derived.Test.YthfliohfkhnpiaaLw
import Derived.Sort.OwnSortedInts
namespace Go.Proofs.Ythfliohfkhnpiaa
set_option linter.unusedVariables false
set_option linter.unusedSimpArgs false
open Go.RowKit Go.Sort Go.Proofs Go.ChangeShapes Go.WideShapes

section
variable {P : Program} {κ : Ctx} {s : St} {a : Act} {w : World}
/-- A row of its own is given up. -/
theorem Rep.disown (h : Rep P κ s a w) {r : Nat} {ro : RowA} {own : Option TypeId} (hro : s.rows[r]? = some ⟨ro, own⟩) : Rep P κ { s with rows := s.rows.set r ⟨ro, none⟩ } a w := by
  have hlt : r < s.rows.length := (List.getElem?_eq_some_iff.1 hro).1
  have hcase : ∀ (i : Nat) (x : RowS), (s.rows.set r ⟨ro, none⟩)[i]? = some x → (i = r ∧ x = ⟨ro, none⟩) ∨ (i ≠ r ∧ s.rows[i]? = some x) := by
    intro i x hx
    by_cases e : i = r
    · subst e
      rw [List.getElem?_set_self hlt] at hx
      exact .inl ⟨rfl, by simpa using hx.symm⟩
    · rw [List.getElem?_set_ne (fun h => e h.symm)] at hx
      exact .inr ⟨e, hx⟩
  exact { size := h.size, defers := h.defers, fr := h.fr, gts := h.gts, blkN := h.blkN, blk := h.blk, nodup := h.nodup, big := h.big,
          rowN := by rw [h.rowN]; simp
          row := fun i x v h1 h2 => by
            rcases hcase i x h1 with ⟨e, rfl⟩ | ⟨e, h3⟩
            · subst e; have k := h.row i ⟨ro, own⟩ v hro h2; exact k
            · exact h.row i x v h3 h2
          own := fun i x v E h1 h2 h3 => by
            rcases hcase i x h1 with ⟨e, rfl⟩ | ⟨e, h4⟩
            · cases h3
            · obtain ⟨k1, k2⟩ := h.own i x v E h4 h2 h3
              refine ⟨k1, fun g hg => ⟨(k2 g hg).1, fun i' x' v' hne h5 h6 h7 => ?_⟩⟩
              rcases hcase i' x' h5 with ⟨e', rfl⟩ | ⟨e', h8⟩
              · subst e'
                rcases h7 with h7 | h7
                · exact (k2 g hg).2 i' _ v' hne hro h6 (.inl h7)
                · exact absurd rfl h7
              · exact (k2 g hg).2 i' x' v' hne h8 h6 h7
          b0lt := h.b0lt, below := h.below }
theorem denL_ints : ∀ {l : List Int} {xs : List Value}, DenL κ (l.map (.int .i64)) xs → xs = l.map (Value.int .i64)
  | [], [], _ => rfl
  | n :: l, x :: xs, h => by
    have h1 : x = .int .i64 n := h.1
    rw [List.map_cons, ← h1, denL_ints h.2]
  | [], _ :: _, h => h.elim
  | _ :: _, [], h => h.elim
theorem denL_ints' : ∀ l : List Int, DenL κ (l.map (.int .i64)) (l.map (Value.int .i64))
  | [] => trivial
  | n :: l => ⟨rfl, denL_ints' l⟩
theorem grownBy_refl (w : World) (o : Option Nat) : w.grownBy w o := ⟨rfl, rfl, rfl, Nat.le_refl _, fun _ _ _ => rfl⟩
end

def srt (l : List Int) : List Int := l.mergeSort fun x y => decide (x ≤ y)
def cmpL (l : List Int) : List Int := Lib.compact l
def cmpZ (l : List Int) : List Int := cmpL l ++ List.replicate (l.length - (cmpL l).length) 0
theorem compactUpTo_len (d : Array Int) : ∀ m, (Lib.compactUpTo d m).length ≤ m
  | 0 => by simp [Lib.compactUpTo]
  | m + 1 => by
    rw [Lib.compactUpTo_succ, List.length_append]
    have := compactUpTo_len d m
    split <;> simp <;> omega
theorem cmpL_len (l : List Int) : (cmpL l).length ≤ l.length := compactUpTo_len _ _
theorem cmpZ_len (l : List Int) : (cmpZ l).length = l.length := by
  have := cmpL_len l
  unfold cmpZ
  rw [List.length_append, List.length_replicate]
  omega
def sortS : Spc := ⟨52, fun args b r K => match args with
  | [.cel (.row i)] => match r[i]? with
    | some ⟨.ints .i64 l, some E⟩ => cnd (decide ((l.length : Int) ≤ 1000000)) (K (.tup []) b (r.set i ⟨.ints .i64 (srt l), some E⟩)) False
    | _ => False
  | _ => False⟩
def compS : Spc := ⟨53, fun args b r K => match args with
  | [.cel (.row i)] => match r[i]? with
    | some ⟨.ints .i64 l, some E⟩ => cnd (decide ((l.length : Int) ≤ 1000000)) (K (.one (.cel (.row r.length))) b (r.set i ⟨.ints .i64 (cmpZ l), none⟩ ++ [⟨.ints .i64 (cmpL l), none⟩])) False
    | _ => False
  | _ => False⟩
theorem callable_of {P : Program} {f : FuncId} {fn : Func} (hf : P.funcs[f]? = some fn) {c : Code} (hb : fn.body = some c) (hn : (fn.name == "runtime.NumGoroutine") = false) : Callable P f := fun ws us => by
  have : ¬ ((fn.name == "runtime.NumGoroutine") = true) := by rw [hn]; simp
  simp [callFunc, hf, hb]
  simpa using this
theorem sortS_call : Callable Try.prog 52 := callable_of (c := bodyOf Try.f52) Try.func52 (by kernel_rfl) (by kernel_rfl)
theorem compS_call : Callable Try.prog 53 := callable_of (c := bodyOf Try.f53) Try.func53 (by kernel_rfl) (by kernel_rfl)
theorem srt_len (l : List Int) : (srt l).length = l.length := by unfold srt; simp
theorem sortS_ok : SoundSpc Try.prog sortS := by
  intro args s K h κ a w vs hR hd
  refine ⟨sortS_call, ?_⟩
  simp only [sortS] at h ⊢
  split at h
  · rename_i i
    split at h
    · rename_i l E hro
      unfold cnd at h
      split at h
      · rename_i hl
        simp only [decide_eq_true_eq] at hl
        obtain ⟨v, rfl, hv⟩ : ∃ v, vs = [v] ∧ κ.ρ[i]? = some v := by
          match vs, hd with
          | [v], hd => exact ⟨v, rfl, hd.1.1⟩
          | [], hd => exact hd.elim
          | _ :: _ :: _, hd => exact hd.2.elim
        obtain ⟨⟨xs, hx, hown⟩, hap⟩ := hR.own i _ v E hro hv rfl
        have hxs := denL_ints hx
        subst hxs
        have fin : ∀ w' : World, w'.ownsRow κ.W0.heap.size E 1 v l.length ((srt l).map (Value.int .i64)) → w.grownBy w' v.ownBlock → InlPost Try.prog κ s a K (.returned (.tuple #[])) w' := by
          intro w' h1 h2
          have hR2 := hR.setRow (rn := .ints .i64 (srt l)) hro hv (denL_ints' _) (by
            show w'.ownsRow κ.W0.heap.size E 1 v (srt l).length _
            rw [srt_len]; exact h1) h2
          exact ⟨_, .tup [], κ, _, _, rfl, LeB.refl _ _, hR2, ⟨[], rfl, trivial⟩, rfl, h⟩
        rcases hown.2 with ⟨hnil, h0⟩ | ⟨g, cap, cur, hsl, hbase, hb, h1, h2, h3, h4⟩
        · have h0' : l.length = 0 := h0
          have hl0 : l = [] := List.eq_nil_of_length_eq_zero h0'
          subst hl0
          subst hnil
          have e0 : srt [] = [] := by simp [srt]
          refine (sh_slices_Sort_int_none none 0 w).mono ?_
          rintro e w' ⟨rfl, rfl⟩
          exact fin _ (by rw [e0]; exact hown) (grownBy_refl _ _)
        · subst hsl
          have hlen : (RowA.ints IntKind.i64 l).len = l.length := rfl
          change List.take (l.length * 1) _ = _ at h4
          rw [Nat.mul_one] at h4
          have hH : Go.Sort.Holds (Value.int .i64) w g 0 l.toArray := holds_of_blockI hb h4
          refine (sh_slices_Sort_int g 0 cap l w hH (Array.getElem?_eq_some_iff.1 hb).1 (by omega)).mono ?_
          rintro e w' ⟨rfl, n, os, rfl⟩
          exact fin _ (ownsRow_sortedI (srt_len l) hbase hb h1 h2 h3) (grownBy_sortedI _)
      · exact h.elim
    · exact h.elim
  · exact h.elim
theorem cmpL_nil : cmpL [] = [] := by simp [cmpL, Lib.compact, Lib.compactUpTo]
theorem cmpZ_nil : cmpZ [] = [] := by simp [cmpZ, cmpL_nil]
theorem compS_ok : SoundSpc Try.prog compS := by
  intro args s K h κ a w vs hR hd
  refine ⟨compS_call, ?_⟩
  simp only [compS] at h ⊢
  split at h
  · rename_i i
    split at h
    · rename_i l E hro
      unfold cnd at h
      split at h
      · rename_i hl
        simp only [decide_eq_true_eq] at hl
        obtain ⟨v, rfl, hv⟩ : ∃ v, vs = [v] ∧ κ.ρ[i]? = some v := by
          match vs, hd with
          | [v], hd => exact ⟨v, rfl, hd.1.1⟩
          | [], hd => exact hd.elim
          | _ :: _ :: _, hd => exact hd.2.elim
        obtain ⟨⟨xs, hx, hown⟩, hap⟩ := hR.own i _ v E hro hv rfl
        have hxs := denL_ints hx
        subst hxs
        have fin : ∀ (w' : World) (v' : Value), w'.ownsRow κ.W0.heap.size E 1 v l.length ((cmpZ l).map (Value.int .i64)) → w.grownBy w' v.ownBlock → RowOk w' v' (.ints .i64 (cmpL l)) → (∃ a n c, v' = .slice a n c) → v'.ownBlock = v.ownBlock → InlPost Try.prog κ s a K (.returned v') w' := by
          intro w' v' h1 h2 h3 h4 h5
          have hR2 := hR.setRow (rn := .ints .i64 (cmpZ l)) hro hv (denL_ints' _) (by
            show w'.ownsRow κ.W0.heap.size E 1 v (cmpZ l).length _
            rw [cmpZ_len]; exact h1) h2
          have hlt : i < s.rows.length := (List.getElem?_eq_some_iff.1 hro).1
          have hro2 : (s.rows.set i ⟨RowA.ints IntKind.i64 (cmpZ l), some E⟩)[i]? = some ⟨RowA.ints IntKind.i64 (cmpZ l), some E⟩ := by rw [List.getElem?_set_self hlt]
          have hR3 := hR2.disown hro2
          simp only [List.set_set] at hR3
          have hg : ∀ g, v'.ownBlock = some g → g ∉ κ.β ∧ (κ.W0.heap.size ≤ g ∨ g ∈ κ.B0) := fun g hg => by
            rw [h5] at hg
            refine ⟨(hap g hg).1, .inl ?_⟩
            rcases h1.2 with ⟨hnil, _⟩ | ⟨g', cap, cur, hsl, hbase, _⟩
            · rw [hnil] at hg; cases hg
            · rw [hsl] at hg
              simp only [Value.ownBlock, Option.some.injEq] at hg
              omega
          obtain ⟨hR4, hle⟩ := hR3.addRow (v := v') (ro := .ints .i64 (cmpL l)) (own := none) h3 (fun _ => hg) (fun E h => by cases h) (fun r' ro' v'' g h6 h7 h8 h9 h10 => by
            rcases h10 with h10 | h10
            · rw [h5]
              by_cases e : r' = i
              · subst e
                rw [List.getElem?_set_self hlt] at h6
                simp only [Option.some.injEq] at h6
                subst h6
                exact absurd rfl h8
              · rw [List.getElem?_set_ne (fun h => e h.symm)] at h6
                intro hc
                exact (hap g hc).2 r' ro' v'' e h6 h7 (.inr h8) h9
            · exact absurd rfl h10)
          have hn : κ.ρ.length = s.rows.length := hR.rowN
          refine ⟨_, .one (.cel (.row s.rows.length)), _, _, _, rfl, hle.toB _, hR4, ?_, rfl, h⟩
          refine ⟨?_, h4⟩
          show (κ.ρ ++ [v'])[s.rows.length]? = some v'
          rw [← hn, List.getElem?_append_right (Nat.le_refl _), Nat.sub_self]
          rfl
        rcases hown.2 with ⟨hnil, h0⟩ | ⟨g, cap, cur, hsl, hbase, hb, h1, h2, h3, h4⟩
        · have h0' : l.length = 0 := h0
          have hl0 : l = [] := List.eq_nil_of_length_eq_zero h0'
          subst hl0
          subst hnil
          refine (sh_slices_Compact_int_empty none 0 w).mono ?_
          rintro e w' ⟨rfl, rfl⟩
          refine fin _ _ (by rw [cmpZ_nil]; exact hown) (grownBy_refl _ _) ?_ ⟨_, _, _, rfl⟩ rfl
          rw [cmpL_nil]
          exact ⟨none, 0, rfl, Nat.le_refl _, Nat.zero_le _, fun h => absurd h (Nat.lt_irrefl 0)⟩
        · subst hsl
          change List.take (l.length * 1) _ = _ at h4
          rw [Nat.mul_one] at h4
          change l.length ≤ cap at h1
          have hH : Go.Sort.Holds (Value.int .i64) w g 0 l.toArray := holds_of_blockI hb h4
          refine (sh_slices_Compact_int g 0 cap l w hH (by omega) h1).mono ?_
          rintro e w' ⟨rfl, q, rfl⟩
          have hgr : grow (putRow (Value.int .i64) (Sort.ahead w q) g 0 (cmpZ l).toArray) #[] = putRow (Value.int .i64) (Sort.ahead w q) g 0 (cmpZ l).toArray := by simp only [grow, Array.append_empty]
          have ho := ownsRow_sortedI (n := q) (os := #[]) (cmpZ_len l) hbase hb h1 h2 h3
          have hgb := grownBy_sortedI (w := w) (g := g) (n := q) (os := #[]) (cmpZ l).toArray
          rw [hgr] at ho hgb
          refine fin _ _ ho hgb ?_ ⟨_, _, _, rfl⟩ rfl
          have hlc := cmpL_len l
          refine ⟨_, cap, rfl, by show (cmpL l).length ≤ cap; omega, h2, fun hpos => ⟨g, 0, rfl, ?_, fun j hj k c hc => ?_⟩⟩
          · have h5 := (Array.getElem?_eq_some_iff.1 hb).1
            exact Nat.lt_of_lt_of_le h5 hgb.size
          · change j < (cmpL l).length at hj
            have hcell : (RowA.ints IntKind.i64 (cmpL l)).cells j = [CV.int .i64 ((cmpL l).getD j 0)] := rfl
            rw [hcell] at hc
            have hk : k = 0 := by
              cases k with
              | zero => rfl
              | succ k => simp at hc
            subst hk
            simp only [List.getElem?_cons_zero, Option.some.injEq] at hc
            subst hc
            refine ⟨Value.int .i64 ((cmpL l).getD j 0), ?_, fun κ => rfl⟩
            have h7 := ho.cellAt j (by rw [Nat.mul_one]; omega)
            rw [List.getElem?_map] at h7
            have h8 : (cmpZ l)[j]? = some ((cmpL l).getD j 0) := by
              unfold cmpZ
              rw [List.getElem?_append_left hj, List.getD_eq_getElem?_getD, List.getElem?_eq_getElem hj]
              rfl
            rw [h8] at h7
            have e1 : 0 + j * (RowA.ints IntKind.i64 (cmpL l)).width + 0 = j := by
              show 0 + j * 1 + 0 = j
              omega
            rw [e1]
            exact h7
      · exact h.elim
    · exact h.elim
  · exact h.elim
end Go.Proofs.Ythfliohfkhnpiaa
