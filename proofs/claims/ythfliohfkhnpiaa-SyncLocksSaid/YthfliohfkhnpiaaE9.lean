/- append; all operations together. No program in sight. -/
import Derived.Test.YthfliohfkhnpiaaE8
import Derived.Lib.AppendZeros
namespace Go.Proofs.Ythfliohfkhnpiaa
set_option linter.unusedVariables false
set_option linter.unusedSimpArgs false
open Go.RowKit

section
variable {P : Program} {Γ : Con} {κ : Ctx} {s s' : St} {a : Act} {w : World} {o : Oper} {ob : List Bool} {v : AV}

theorem row_news {w : World} {vq : Value} {rq : RowA} (hq : RowOk w vq rq) (hp : 0 < rq.len) (hwp : 0 < rq.width) (κ : Ctx) :
    ∃ b off cap news, vq = .slice (some ⟨b, off, none⟩) rq.len cap ∧ DenL κ rq.flat news ∧ ∀ j u, news[j]? = some u → w.cell? ⟨b, off + j, none⟩ = some u := by
  obtain ⟨ad, cap, h1, h2, h3, h4⟩ := hq
  obtain ⟨b, off, rfl, h5, h6⟩ := h4 hp
  obtain ⟨news, h7, h8⟩ := denL_of (κ := κ) (C := fun j x => w.cell? ⟨b, off + j, none⟩ = some x) rq.flat 0 (fun j c hc => by
    have hj : j < rq.len * rq.width := by
      have := (List.getElem?_eq_some_iff.1 hc).1
      rwa [RowA.flat_length] at this
    have hi : j / rq.width < rq.len := (Nat.div_lt_iff_lt_mul hwp).2 hj
    have hm : j % rq.width < rq.width := Nat.mod_lt _ hwp
    have hjj : j / rq.width * rq.width + j % rq.width = j := Nat.div_add_mod' j rq.width
    have hcl : j % rq.width < (rq.cells (j / rq.width)).length := by rw [RowA.cells_length]; exact hm
    have h9 := RowA.cells_flat rq _ _ _ hi (List.getElem?_eq_getElem hcl)
    rw [hjj, hc] at h9
    simp only [Option.some.injEq] at h9
    obtain ⟨x, h10, h11⟩ := h6 _ hi _ c (by rw [List.getElem?_eq_getElem hcl, h9])
    refine ⟨x, ?_, h11 κ⟩
    rw [Nat.zero_add, ← h10, Nat.add_assoc, hjj])
  exact ⟨b, off, cap, news, h1, h7, fun j u hu => by simpa using h8 j u hu⟩

theorem den_one {l : List CV} (hp : ∀ c ∈ l, c.real = true) {xs : List Value} (hd : DenL κ l xs) : ∀ u ∈ xs, u.oneCell' = true := by
  intro u hu
  obtain ⟨j, hj⟩ := List.getElem?_of_mem hu
  have hlt : j < l.length := by
    have := (List.getElem?_eq_some_iff.1 hj).1
    rw [hd.length] at this; exact this
  obtain ⟨u', hu1, hu2⟩ := hd.get j _ (List.getElem?_eq_getElem hlt)
  rw [hj] at hu1
  simp only [Option.some.injEq] at hu1
  subst hu1
  exact hu2.one (hp _ (List.getElem_mem hlt))

theorem append_run {t ty e : TypeId} {it : TypeInfo} {z : Value} {base n : Nat} {x vq : Value} {xs : List Value} {rq : RowA} (ht : P.underlying t = some (.slice e)) (hi : P.info? e = some it) (hz : it.zero = some z) (hzs : z.cells.size = it.size) (h1 : 1 ≤ it.size) (hby : it.bytes ≤ 32768)
    (hown : w.ownsRow base e it.size x n xs) (hq : RowOk w vq rq) (hwq : rq.width = it.size) (hn : n + rq.len ≤ 4294967296) (hbase : base ≤ w.heap.size) (κ : Ctx) :
    ∃ v' w' news, (Builtin.append_ #[t, t] ty #[x, vq]).run P w = .ok v' w' ∧ DenL κ rq.flat news ∧ w'.ownsRow base e it.size v' (n + rq.len) (xs ++ news) ∧ w.grownBy w' x.ownBlock ∧ (v'.ownBlock = x.ownBlock ∨ v'.ownBlock = some w.heap.size) ∧ ∃ a' n' c', v' = .slice a' n' c' := by
  rcases Nat.eq_zero_or_pos rq.len with h0 | hp
  · have hfl : rq.flat = [] := List.eq_nil_of_length_eq_zero (by rw [RowA.flat_length, h0, Nat.zero_mul])
    obtain ⟨ad, cap, h2, h3, h4, -⟩ := hq
    rw [h0] at h2
    have hform : ∃ b sc, x = .slice b n sc ∧ n ≤ sc := by
      rcases hown.2 with ⟨h5, h6⟩ | ⟨g, cp, cur, h5, _, _, h6, _⟩
      · exact ⟨none, 0, by rw [h6]; exact h5, by omega⟩
      · exact ⟨_, cp, h5, h6⟩
    obtain ⟨b, sc, hx, hsc⟩ := hform
    refine ⟨x, w, [], ?_, by rw [hfl]; trivial, by rw [h0]; simpa using hown, ⟨rfl, rfl, rfl, Nat.le_refl _, fun _ _ _ => rfl⟩, .inl rfl, b, n, sc, hx⟩
    subst hx
    rw [h2]
    have hs : (sizeOf e).run P w = .ok it.size w := by simp [sizeOf, typeInfo, hi]
    cases ad <;> cases b <;> simp [Builtin.append_, run_underlying ht, hs, Builtin.lenOf, hsc, Builtin.firstCells, loadCells, loadCellsFrom, storeCells]
  · obtain ⟨b, off, cap, news, rfl, h2, h3⟩ := row_news hq hp (by omega) κ
    have hl : news.length = rq.len * it.size := by rw [h2.length, RowA.flat_length, hwq]
    obtain ⟨v', w', h4, h5, h6, -, h8⟩ := run_append_own_at (P := P) w base t ty e it z it.size it.bytes ht hi hz rfl rfl hzs (by omega) x n xs hown ⟨b, off, none⟩ rq.len cap news hl (fun j u hu => by rw [Addr.add_mid]; exact h3 j u hu)
      (den_one (fun c hc => (RowA.flat_plain rq c hc).2) h2) (by unfold maxLen; omega) (by
        have := Nat.mul_le_mul hn hby
        omega) hbase
    obtain ⟨g, cp, rfl, _⟩ := h5.form (by omega)
    exact ⟨_, w', news, h4, h2, h5, h6, h8, _, _, _, rfl⟩

theorem e_append (hR : Rep P κ s a w) (x y : Operand) (t t' : TypeId) (hop : o.op = .call ⟨.builtin .append, ⟨[x, y]⟩, ⟨[t, t']⟩⟩) (h : opE P Γ s o.op = some (ob, v, s')) (ho : AllB ob) : EOk P Γ.lim κ s' a w o v := by
  rw [hop] at h
  simp only [opE] at h
  have hx := rd1_den hR (holds_nil _) x
  have hy := rd1_den hR (holds_nil _) y
  cases htt : Nat.beq t t' with
  | false =>
    rw [htt, cond_false] at h
    split at h
    · rename_i e kn k n hu hun h1 h2
      rw [h1] at hx
      rw [h2] at hy
      have hx : a.eval x = .slice none 0 0 := hx
      have hy : a.eval y = .int k n := hy
      split at h
      · rename_i it ro zc hi hro hzc
        split at h
        · rename_i z hz
          cases hc : (eqPl (z.cells.toList.map CV.ofVal) zc && Nat.ble 1 it.size && Nat.beq zc.length it.size && Nat.ble it.bytes 32768) with
          | false => rw [hc] at h; cases h
          | true =>
            rw [hc, cond_true] at h
            simp only [Option.some.injEq, Prod.mk.injEq] at h
            obtain ⟨rfl, rfl, rfl⟩ := h
            simp only [AllB, decide_eq_true_eq, and_true] at ho
            obtain ⟨o1, o2⟩ := ho
            have o2 := Nat.le_of_ble_eq_true o2
            simp only [Bool.and_eq_true] at hc
            obtain ⟨⟨⟨c1, c2⟩, c3⟩, c4⟩ := hc
            have c1 := eqPl_eq c1
            have c2 := Nat.le_of_ble_eq_true c2
            have c3 := Nat.eq_of_beq_eq_true c3
            have c4 := Nat.le_of_ble_eq_true c4
            obtain ⟨N, rfl⟩ : ∃ N : Nat, n = N := ⟨n.toNat, by omega⟩
            simp only [Int.toNat_natCast] at hro o2
            obtain ⟨zc', h3, h4, h5, h6⟩ := zeroRow_flat hro
            rw [hzc] at h3
            simp only [Option.some.injEq] at h3
            subst h3
            have hN : N * it.bytes ≤ 281474976710656 := by
              have := Nat.mul_le_mul (show N ≤ 4294967296 by omega) c4
              omega
            have hrun := Lib.run_append_nil_zeros (P := P) w t t' o.type e it z k kn hu hun hi hz N (by omega) (by omega) (by omega) hN
            have hzl : z.cells.size = it.size := by
              have := congrArg List.length c1
              simp at this
              omega
            obtain ⟨zs, hzs⟩ : ∃ zs, zs = (madeCells z.cells (N * z.cells.size)).toList := ⟨_, rfl⟩
            have hd : DenL κ ro.flat zs := by
              rw [h4, ← c1, hzs]
              have e1 : (madeCells z.cells (N * z.cells.size)).toList = (List.replicate N z.cells.toList).flatten := made_flat z.cells N
              rw [e1]
              have : (List.replicate N (z.cells.toList.map CV.ofVal)).flatten = ((List.replicate N z.cells.toList).flatten).map CV.ofVal := by simp
              rw [this]
              exact DenL.ofVal κ _
            have hwd : ro.width = it.size := by omega
            have hzn : zs.length = N * it.size := by rw [hzs, Array.length_toList, size_madeCells, hzl]
            obtain ⟨C, hC⟩ : ∃ C, C = grownCap w N 0 e := ⟨_, rfl⟩
            have hC1 : N ≤ C := hC ▸ grownCap_ge w N 0 e
            have hC2 : C ≤ maxLen := hC ▸ grownCap_le_maxLen w N 0 e (by unfold maxLen; omega)
            obtain ⟨cs, hcs⟩ : ∃ cs, cs = Builtin.zeroCells z.cells N ++ Builtin.zeroCells z.cells (C - N) := ⟨_, rfl⟩
            rw [← hC, ← hcs] at hrun
            have hcsl : cs.toList = zs ++ (madeCells z.cells ((C - N) * z.cells.size)).toList := by
              rw [hcs, Array.toList_append, hzs]; rfl
            have hcsz : cs.size = C * it.size := by
              rw [← Array.length_toList, hcsl, List.length_append, hzn, Array.length_toList, size_madeCells, hzl, ← Nat.add_mul]
              congr 1; omega
            have hown : (w.drew.alloc (.cells cs e)).ownsRow κ.W0.heap.size e it.size (.slice (some ⟨w.heap.size, 0, none⟩) N C) N zs := by
              refine ⟨hzn, .inr ⟨w.heap.size, C, cs, rfl, hR.below.size, ?_, hC1, hC2, hcsz, ?_⟩⟩
              · exact heap_alloc_new w.drew _
              · rw [hcsl, ← hzn, List.take_left]
            have hb : Below w.heap.size w (w.drew.alloc (.cells cs e)) := ((Below.refl _ _).drew).alloc (Nat.le_refl _) _
            rw [← hwd, show N = ro.len from h5.symm] at hown
            obtain ⟨hR2, hle⟩ := (hR.later hb).addRow (own := some e) (rowOk_of_owns hd hown) (fun _ g hg => by
                simp only [Value.ownBlock, Option.some.injEq] at hg
                subst hg
                exact ⟨fun hm => absurd (hR.blt hm) (Nat.lt_irrefl _), .inl hR.below.size⟩)
              (fun E hE => by
                simp only [Option.some.injEq] at hE
                subst hE
                refine ⟨⟨zs, hd, hown⟩, fun g hg => ?_⟩
                simp only [Value.ownBlock, Option.some.injEq] at hg
                subst hg
                refine ⟨fun hm => absurd (hR.blt hm) (Nat.lt_irrefl _), fun r' ro' v' h4 h5 h6 h7 => ?_⟩
                rcases h6 with h6 | h6
                · exact absurd ((hR.row r' ro' v' h4 h5).1.lt h6 h7) (Nat.lt_irrefl _)
                · cases hE : ro'.own with
                  | none => exact h6 hE
                  | some E' =>
                    obtain ⟨⟨ys, _, hz⟩, _⟩ := hR.own r' ro' v' E' h4 h5 hE
                    exact absurd (owns_lt hz h7).1 (Nat.lt_irrefl _))
              (fun r' ro' v' g h4 h5 h6 h7 _ h8 => by
                simp only [Value.ownBlock, Option.some.injEq] at h8
                subst h8
                cases hE : ro'.own with
                | none => exact h6 hE
                | some E' =>
                  obtain ⟨⟨ys, _, hz⟩, _⟩ := hR.own r' ro' v' E' h4 h5 hE
                  exact absurd (owns_lt hz h7).1 (Nat.lt_irrefl _))
            refine eok_of (x := .slice (some ⟨w.heap.size, 0, none⟩) N C) ?_ hR2 (hle.toB _) ⟨?_, _, _, _, rfl⟩
            · simp [execOp, hop, resolve, invoke, builtin, hx, hy, hrun]
            · show (κ.ρ ++ [_])[s.rows.length]? = _
              rw [← hR.rowN, ← h5]; simp
        · cases h
      · cases h
    · cases h
  | true =>
    rw [htt, cond_true] at h
    have htt := Nat.eq_of_beq_eq_true htt
    subst htt
    split at h
    · rename_i e q hu h1
      rw [h1] at hy
      obtain ⟨hy, -⟩ := hy
      split at h
      · rename_i it rq hi hrq
        cases hc : ((it.zero.map (·.cells.size)) == some it.size && Nat.ble 1 it.size && Nat.ble it.bytes 32768 && Nat.beq it.size rq.ro.width) with
        | false => rw [hc] at h; cases h
        | true =>
          rw [hc, cond_true] at h
          simp only [Bool.and_eq_true, beq_iff_eq, Option.map_eq_some_iff] at hc
          obtain ⟨⟨⟨⟨z, hz, hzs⟩, c1⟩, c2⟩, c3⟩ := hc
          have c1 := Nat.le_of_ble_eq_true c1
          have c2 := Nat.le_of_ble_eq_true c2
          have c3 := Nat.eq_of_beq_eq_true c3
          have hq := (hR.row q rq _ hrq hy).1
          have hex : (execOp a.eval o).run P w = ((Builtin.append_ #[t, t] o.type #[a.eval x, a.eval y]).run P w).andThen fun u w' => .ok (.value u) w' := by
            simp [execOp, hop, resolve, invoke, builtin]
          split at h
          · rename_i r h2
            rw [h2] at hx
            obtain ⟨hx, -⟩ := hx
            split at h
            · rename_i ro hro
              split at h
              · rename_i e' rn hown hap
                cases hee : (Nat.beq e e' && !(Nat.beq r q) && Nat.ble Γ.lim r) with
                | false => rw [hee] at h; cases h
                | true =>
                  rw [hee, cond_true] at h
                  simp only [Option.some.injEq, Prod.mk.injEq] at h
                  obtain ⟨rfl, rfl, rfl⟩ := h
                  simp only [Bool.and_eq_true] at hee
                  have he := Nat.eq_of_beq_eq_true hee.1.1
                  have hlim := Nat.le_of_ble_eq_true hee.2
                  subst he
                  simp only [AllB, decide_eq_true_eq, and_true] at ho
                  obtain ⟨f1, f2, f3, f4⟩ := RowA.append_flat hap
                  obtain ⟨⟨ys, hd, hows⟩, -⟩ := hR.own r ro _ e hro hx hown
                  have hwr : ro.ro.width = it.size := by omega
                  rw [hwr] at hows
                  obtain ⟨v', w', news, k1, k2, k3, k4, k5, k6⟩ := append_run (ty := o.type) hu hi hz hzs c1 c2 hows hq (by omega) (by omega) hR.below.size κ
                  have hro' : s.rows[r]? = some ⟨ro.ro, some e⟩ := by rw [hro]; congr 1; cases ro; simp only at hown; rw [hown]
                  have hR2 := hR.appendRow (rn := rn) (xs' := ys ++ news) hro' hx (by rw [f1]; exact hd.append k2) (by rw [f2, f4, hwr]; exact k3) k4 k5
                  refine eok_of (x := v') ?_ hR2 ⟨rfl, rfl, fun _ _ h => h, fun i u hi hu => by show (κ.ρ.set r v')[i]? = _; rw [List.getElem?_set_ne (by omega)]; exact hu⟩ ⟨?_, k6⟩
                  · rw [hex, k1]; rfl
                  · show (κ.ρ.set r v')[r]? = _
                    exact List.getElem?_set_self (List.getElem?_eq_some_iff.1 hx).1
              · cases h
            · cases h
          · rename_i h2
            rw [h2] at hx
            have hx : a.eval x = .slice none 0 0 := hx
            simp only [Option.some.injEq, Prod.mk.injEq] at h
            obtain ⟨rfl, rfl, rfl⟩ := h
            simp only [AllB, decide_eq_true_eq, and_true] at ho
            obtain ⟨v', w', news, k1, k2, k3, k4, k5, k6⟩ := append_run (ty := o.type) (n := 0) (xs := []) hu hi hz hzs c1 c2 (World.ownsRow_nil _ κ.W0.heap.size _ _) hq (by omega) (by omega) hR.below.size κ
            simp only [Nat.zero_add, List.nil_append] at k3
            have hb : Below w.heap.size w w' := ⟨k4.os, k4.tape, k4.output, k4.size, fun k hk => k4.block k hk (by simp [Value.ownBlock])⟩
            have hnew : ∀ g, v'.ownBlock = some g → g = w.heap.size := by
              intro g hg
              rcases k5 with k5 | k5
              · rw [k5] at hg; cases hg
              · rw [k5] at hg; simp only [Option.some.injEq] at hg; exact hg.symm
            rw [c3] at k3
            obtain ⟨hR2, hle⟩ := (hR.later hb).addRow (own := some e) (rowOk_of_owns k2 k3) (fun _ g hg => by
                have := hnew g hg
                subst this
                exact ⟨fun hm => absurd (hR.blt hm) (Nat.lt_irrefl _), .inl hR.below.size⟩)
              (fun E hE => by
                simp only [Option.some.injEq] at hE
                subst hE
                refine ⟨⟨news, k2, k3⟩, fun g hg => ?_⟩
                have := hnew g hg
                subst this
                refine ⟨fun hm => absurd (hR.blt hm) (Nat.lt_irrefl _), fun r' ro' u h4 h5 h6 h7 => ?_⟩
                rcases h6 with h6 | h6
                · exact absurd ((hR.row r' ro' u h4 h5).1.lt h6 h7) (Nat.lt_irrefl _)
                · cases hE : ro'.own with
                  | none => exact h6 hE
                  | some E' =>
                    obtain ⟨⟨ys, _, hz⟩, _⟩ := hR.own r' ro' u E' h4 h5 hE
                    exact absurd (owns_lt hz h7).1 (Nat.lt_irrefl _))
              (fun r' ro' u g h4 h5 h6 h7 _ h8 => by
                have := hnew g h8
                subst this
                cases hE : ro'.own with
                | none => exact h6 hE
                | some E' =>
                  obtain ⟨⟨ys, _, hz⟩, _⟩ := hR.own r' ro' u E' h4 h5 hE
                  exact absurd (owns_lt hz h7).1 (Nat.lt_irrefl _))
            refine eok_of (x := v') ?_ hR2 (hle.toB _) ⟨?_, k6⟩
            · rw [hex, hx, k1]; rfl
            · show (κ.ρ ++ [_])[s.rows.length]? = _
              rw [← hR.rowN]; simp
          · cases h
      · cases h
    · cases h

theorem heap_setRow_same' {g : Nat} {cur cs : Array Value} {E : TypeId} (h : w.heap[g]? = some (.cells cur E (0, 0))) : (w.setRow g cs).heap[g]? = some (.cells cs E (0, 0)) := by
  simp [World.setRow, Array.getElem?_modify, h]
theorem grown_setRow {g : Nat} {cur cs : Array Value} {E : TypeId} (h : w.heap[g]? = some (.cells cur E (0, 0))) : w.grownBy (w.setRow g cs) (some g) := by
  refine ⟨rfl, rfl, rfl, by simp [World.setRow], fun k hk hne => ?_⟩
  have : g ≠ k := fun e => hne (by rw [e])
  simp [World.setRow, Array.getElem?_modify, this]
theorem copy_zero {dT sT ty e : TypeId} {b a : Option Addr} {dl dc sl sc : Nat} (hu : P.underlying dT = some (.slice e)) (hi : (P.info? e).isSome = true) (h0 : min sl dl = 0) :
    (Builtin.copy_ #[dT, sT] ty #[.slice b dl dc, .slice a sl sc]).run P w = .ok (goInt 0) w := by
  obtain ⟨it, hit⟩ := Option.isSome_iff_exists.1 hi
  have h0 : Nat.min sl dl = 0 := h0
  cases a <;> cases b <;> simp [Builtin.copy_, run_underlying hu, Builtin.lenOf, Builtin.firstCells, sizeOf, typeInfo, hit, h0, loadCells, loadCellsFrom, storeCells]

theorem e_copy (hR : Rep P κ s a w) (x y : Operand) (t t' : TypeId) (hop : o.op = .call ⟨.builtin .copy, ⟨[x, y]⟩, ⟨[t, t']⟩⟩) (h : opE P Γ s o.op = some (ob, v, s')) (ho : AllB ob) : EOk P Γ.lim κ s' a w o v := by
  rw [hop] at h
  simp only [opE] at h
  have hx := rd1_den hR (holds_nil _) x
  have hy := rd1_den hR (holds_nil _) y
  have hex : (execOp a.eval o).run P w = ((Builtin.copy_ #[t, t'] o.type #[a.eval x, a.eval y]).run P w).andThen fun u w' => .ok (.value u) w' := by
    simp [execOp, hop, resolve, invoke, builtin]
  split at h
  · rename_i e r hu h1
    rw [h1] at hx
    obtain ⟨hx, -⟩ := hx
    split at h
    · rename_i ro it hro hi
      split at h
      · rename_i E hown
        obtain ⟨⟨xs, hdx, hows⟩, hexcl⟩ := hR.own r ro _ E hro hx hown
        obtain ⟨da, dc, hdv⟩ : ∃ da dc, a.eval x = .slice da ro.ro.len dc := by
          rcases hows.2 with ⟨h5, h6⟩ | ⟨g, cp, cur, h5, _, _, h6, _⟩
          · exact ⟨none, 0, by rw [h6]; exact h5⟩
          · exact ⟨_, cp, h5⟩
        split at h
        · rename_i q h2
          rw [h2] at hy
          obtain ⟨hy, -⟩ := hy
          split at h
          · rename_i rq hrq
            split at h
            · rename_i rn hcp
              cases hc : (!(Nat.beq r q) && Nat.beq it.size 1 && Nat.beq ro.ro.width 1) with
              | false => rw [hc] at h; cases h
              | true =>
                rw [hc, cond_true] at h
                simp only [Option.some.injEq, Prod.mk.injEq] at h
                obtain ⟨-, rfl, rfl⟩ := h
                simp only [Bool.and_eq_true] at hc
                have c2 := Nat.eq_of_beq_eq_true hc.1.2
                have c3 := Nat.eq_of_beq_eq_true hc.2
                obtain ⟨f1, f2, f3, f4⟩ := RowA.copyIn_flat hcp
                have hqr := (hR.row q rq _ hrq hy).1
                have hro' : s.rows[r]? = some ⟨ro.ro, some E⟩ := by rw [hro]; congr 1; cases ro; simp only at hown; rw [hown]
                rcases Nat.eq_zero_or_pos (min rq.ro.len ro.ro.len) with hz | hp
                · obtain ⟨sa, sc, hs1, -⟩ := hqr
                  have hR2 := hR.setRow (rn := rn) (w' := w) (xs' := xs) hro' hx (by rw [f1, hz]; simpa using hdx) (by rw [f2, f4]; exact hows) ⟨rfl, rfl, rfl, Nat.le_refl _, fun _ _ _ => rfl⟩
                  refine eok_of (x := goInt 0) ?_ hR2 (LeB.refl _ _) (by rw [hz]; rfl)
                  rw [hex, hdv, hs1, copy_zero hu (by rw [hi]; rfl) hz]
                  rfl
                · obtain ⟨b, off, cap, news, hs1, h3, h4⟩ := row_news hqr (by omega) (by omega) κ
                  obtain ⟨g, cp, cur, h5, h6, h7, h8, h9, h10, h11⟩ : ∃ g cap cur, a.eval x = .slice (some ⟨g, 0, none⟩) ro.ro.len cap ∧ κ.W0.heap.size ≤ g ∧ w.heap[g]? = some (.cells cur E (0, 0)) ∧ ro.ro.len ≤ cap ∧ cap ≤ maxLen ∧ cur.size = cap * ro.ro.width ∧ cur.toList.take (ro.ro.len * ro.ro.width) = xs := by
                    rcases hows.2 with ⟨_, h6⟩ | h6
                    · omega
                    · exact h6
                  obtain ⟨m, hm⟩ : ∃ m, m = min rq.ro.len ro.ro.len := ⟨_, rfl⟩
                  rw [← hm] at hp f1
                  have hml : m ≤ rq.ro.len ∧ m ≤ ro.ro.len := by omega
                  have hwq : rq.ro.width = 1 := by omega
                  have hnl : news.length = rq.ro.len := by rw [h3.length, RowA.flat_length, hwq, Nat.mul_one]
                  have hxl : xs.length = ro.ro.len := by rw [hdx.length, RowA.flat_length, c3, Nat.mul_one]
                  rw [c3, Nat.mul_one] at f1 h10 h11
                  have htl : (news.take m).length = m := by rw [List.length_take]; omega
                  have hrun := run_copy_row (P := P) w t t' o.type e g 0 ro.ro.len cp ⟨b, off, none⟩ rq.ro.len cap cur E (news.take m) hu (by rw [hi]; simp [c2]) h7 (by rw [htl, hm])
                    (fun j u hj => by
                      rw [Addr.add_mid]
                      rw [List.getElem?_take] at hj
                      split at hj
                      · exact h4 j u hj
                      · cases hj) (by rw [htl]; omega)
                    (fun u hu' => den_one (fun c hc => (RowA.flat_plain rq.ro c hc).2) h3 u (List.mem_of_mem_take hu'))
                  simp only [List.take_zero, List.nil_append, Nat.zero_add, htl] at hrun
                  have hrowsz : (news.take m ++ cur.toList.drop m).toArray.size = cur.size := by
                    simp; omega
                  have hxs : xs.drop m = (cur.toList.drop m).take (ro.ro.len - m) := by
                    rw [← h11, List.drop_take]
                  have hown2 : (w.setRow g (news.take m ++ cur.toList.drop m).toArray).ownsRow κ.W0.heap.size E rn.width (.slice (some ⟨g, 0, none⟩) ro.ro.len cp) rn.len (news.take m ++ xs.drop m) := by
                    rw [f2, f4, c3]
                    refine ⟨by simp; omega, .inr ⟨g, cp, (news.take m ++ cur.toList.drop m).toArray, rfl, h6, ?_, h8, h9, by rw [hrowsz]; omega, ?_⟩⟩
                    · exact heap_setRow_same' h7
                    · rw [Nat.mul_one, hxs, List.toList_toArray, List.take_append, htl, List.take_of_length_le (l := news.take m) (by omega)]
                  rw [h5] at hx
                  have hR2 := hR.setRow (rn := rn) (xs' := news.take m ++ xs.drop m) hro' hx (by rw [f1]; exact (h3.take m).append (hdx.drop m)) hown2 (grown_setRow h7)
                  refine eok_of (x := goInt m) ?_ hR2 (LeB.refl _ _) (by rw [hm]; rfl)
                  rw [hex, h5, hs1, hrun]
                  rfl
            · cases h
          · cases h
        · rename_i h2
          rw [h2] at hy
          have hy : a.eval y = .slice none 0 0 := hy
          simp only [Option.some.injEq, Prod.mk.injEq] at h
          obtain ⟨rfl, rfl, rfl⟩ := h
          refine eok_of (x := goInt 0) ?_ hR (LeB.refl _ _) rfl
          rw [hex, hdv, hy, copy_zero hu (by rw [hi]; rfl) (by omega)]
          rfl
        · cases h
      · cases h
    · cases h
  · cases h

theorem opE_ok (hΓ : SoundG P Γ) (hR : Rep P κ s a w) (h : opE P Γ s o.op = some (ob, v, s')) (ho : AllB ob) : EOk P Γ.lim κ s' a w o v := by
  cases hop : o.op with
  | alloc t => exact e_alloc hR t hop h
  | box t x => exact e_box hR t x hop h
  | store t x y => exact e_store hR t x y hop h (fun h1 h2 h3 h4 h5 => hR.setRow h1 h2 h3 h4 h5)
  | makeSlice t x y => exact e_makeSlice hR t x y hop h ho
  | buildSlice t len parts => exact e_buildSlice hR t len parts hop h
  | slice t x lo hi mx =>
    cases mx with
    | none => exact e_slice hR t x lo hi hop h ho
    | some m => rw [hop] at h; cases h
  | call c =>
    obtain ⟨callee, ⟨args⟩, ⟨tys⟩⟩ := c
    cases callee with
    | value f => exact e_call hΓ hR args ⟨tys⟩ f hop h ho
    | invoke r m => rw [hop] at h; cases h
    | builtin b =>
      cases b with
      | copy =>
        match args, tys, hop with
        | [x, y], [t, t'], hop => exact e_copy hR x y t t' hop h ho
        | [], _, hop => rw [hop] at h; cases h
        | [_], _, hop => rw [hop] at h; cases h
        | _ :: _ :: _ :: _, _, hop => rw [hop] at h; cases h
        | [_, _], [], hop => rw [hop] at h; cases h
        | [_, _], [_], hop => rw [hop] at h; cases h
        | [_, _], _ :: _ :: _ :: _, hop => rw [hop] at h; cases h
      | append =>
        match args, tys, hop with
        | [x, y], [t, t'], hop => exact e_append hR x y t t' hop h ho
        | [], _, hop => rw [hop] at h; cases h
        | [_], _, hop => rw [hop] at h; cases h
        | _ :: _ :: _ :: _, _, hop => rw [hop] at h; cases h
        | [_, _], [], hop => rw [hop] at h; cases h
        | [_, _], [_], hop => rw [hop] at h; cases h
        | [_, _], _ :: _ :: _ :: _, hop => rw [hop] at h; cases h
      | _ => rw [hop] at h; cases h
  | _ => rw [hop] at h; cases h

end
end Go.Proofs.Ythfliohfkhnpiaa
