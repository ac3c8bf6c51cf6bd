/- slices.Repeat of one element, up to eight times. -/
import Derived.Test.YtoklfnonbfcdlaaBase
import Derived.Test.YtoklfnonbfcdlaaK7
namespace Go.Proofs.Ytoklfnonbfcdlaa
open Go.RowKit Go.Sort
set_option linter.unusedVariables false
set_option linter.unusedSimpArgs false

/-- The cells of some equal elements. -/
def repC (n : Nat) (x : List Value) : List Value := (List.replicate n x).flatten
theorem Try.infoKnock : (Try.prog.info? 23).map (fun i => (i.zero, i.size, i.bytes)) = some (some (.agg #[.int .i64 0, .int .i64 0, .int .i64 0]), 3, 24) := by kernel_rfl
theorem run_copy_wide {P : Program} (w : World) (dT sT ty elem : TypeId) (z g o dLen dCap : Nat) (a : Addr) (sLen sCap : Nat) (cur : Array Value) (t : TypeId) (cs : List Value)
    (hu : P.underlying dT = some (.slice elem)) (hs : (P.info? elem).map (·.size) = some z)
    (hg : w.heap[g]? = some (.cells cur t (0, 0))) (hn : cs.length = Nat.min sLen dLen * z)
    (hsrc : ∀ j v, cs[j]? = some v → w.cell? (a.add j) = some v) (hfit : o + cs.length ≤ cur.size) (h1 : ∀ v ∈ cs, v.oneCell' = true) :
    (Builtin.copy_ #[dT, sT] ty #[.slice (some ⟨g, o, none⟩) dLen dCap, .slice (some a) sLen sCap]).run P w =
      .ok (goInt (Nat.min sLen dLen)) (w.setRow g (cur.toList.take o ++ cs ++ cur.toList.drop (o + cs.length)).toArray) := by
  have hl := run_loadCells_list (P := P) w a cs hsrc
  have hst := run_storeCells_at P g o t cs 0 cur w hg (by simpa using hfit) h1
  cases hq : P.info? elem with
  | none => simp [hq] at hs
  | some i =>
    have hi : i.size = z := by simpa [hq] using hs
    simp [Builtin.copy_, run_underlying hu, Builtin.lenOf, Builtin.firstCells, sizeOf, typeInfo, hq, hi, ← hn, hl, hst]
/-- A part of an own row is copied over. -/
theorem own_copy {P : Program} {w : World} {base : Nat} {E dT sT ty : TypeId} {z N g cap off dLen dCap sLen sCap : Nat} {a : Addr} {xs cs : List Value} (hown : w.ownsRow base E z (.slice (some ⟨g, 0, none⟩) N cap) N xs)
    (hu : P.underlying dT = some (.slice E)) (hs : (P.info? E).map (·.size) = some z) (hn : cs.length = Nat.min sLen dLen * z) (hfit : off + cs.length ≤ N * z) (hsrc : ∀ j v, cs[j]? = some v → w.cell? (a.add j) = some v) (h1 : ∀ v ∈ cs, v.oneCell' = true) :
    ∃ w', (Builtin.copy_ #[dT, sT] ty #[.slice (some ⟨g, off, none⟩) dLen dCap, .slice (some a) sLen sCap]).run P w = .ok (goInt (Nat.min sLen dLen)) w' ∧
      w'.ownsRow base E z (.slice (some ⟨g, 0, none⟩) N cap) N (xs.take off ++ cs ++ xs.drop (off + cs.length)) ∧ w.grownBy w' (some g) := by
  obtain ⟨k1, h⟩ := hown
  rcases h with ⟨h, _⟩ | ⟨g', cap', cur, h2, h3, h4, h5, h6, h7, h8⟩
  · cases h
  · simp only [Value.slice.injEq, Option.some.injEq, Addr.mk.injEq, true_and, and_true] at h2
    obtain ⟨rfl, rfl⟩ := h2
    have hm : N * z ≤ cap * z := Nat.mul_le_mul_right z h5
    refine ⟨_, run_copy_wide w dT sT ty E z g off dLen dCap a sLen sCap cur E cs hu hs h4 hn hsrc (by omega) h1, ⟨?_, .inr ⟨g, cap, _, rfl, h3, heap_setRow_same' h4, h5, h6, ?_, ?_⟩⟩, grown_setRow h4⟩
    · simp; omega
    · simp; omega
    · rw [List.toList_toArray, ← h8, List.take_append, List.length_append, List.length_take, List.take_take]
      have hl : cur.toList.length = cur.size := Array.length_toList
      rw [Nat.min_eq_left (show off ≤ cur.toList.length by omega), List.take_of_length_le (l := cur.toList.take off ++ cs) (by simp; omega), Nat.min_eq_left (show off ≤ N * z by omega), List.drop_take]
theorem repC_len (n : Nat) (x : List Value) : (repC n x).length = n * x.length := by simp [repC]
theorem repC_add (a b : Nat) (x : List Value) : repC (a + b) x = repC a x ++ repC b x := by
  unfold repC
  rw [← List.replicate_append_replicate, List.flatten_append]
theorem repC_mem {n : Nat} {x : List Value} {v : Value} (h : v ∈ repC n x) : v ∈ x := by
  unfold repC at h
  obtain ⟨l, h1, h2⟩ := List.mem_flatten.1 h
  rw [(List.mem_replicate.1 h1).2] at h2
  exact h2
theorem rep_step {n k m : Nat} {xs zs : List Value} (hx : xs.length = 3) (hz : zs.length = 3) (h : k + m ≤ n) : (repC k xs ++ repC (n - k) zs).take (k * 3) ++ repC m xs ++ (repC k xs ++ repC (n - k) zs).drop (k * 3 + (repC m xs).length) = repC (k + m) xs ++ repC (n - (k + m)) zs := by
  have h1 : (repC k xs).length = k * 3 := by rw [repC_len, hx]
  have h2 : (repC m xs).length = m * 3 := by rw [repC_len, hx]
  have h3 : (repC m zs).length = m * 3 := by rw [repC_len, hz]
  have h4 : repC (n - k) zs = repC m zs ++ repC (n - (k + m)) zs := by rw [← repC_add]; congr 1; omega
  rw [h4, h2, List.take_append_of_le_length (by omega), List.take_of_length_le (by omega), List.drop_append, List.drop_of_length_le (l := repC k xs) (by omega), List.nil_append, show k * 3 + m * 3 - (repC k xs).length = m * 3 by omega, List.drop_append, List.drop_of_length_le (l := repC m zs) (by omega), List.nil_append, show m * 3 - (repC m zs).length = 0 by omega, List.drop_zero, repC_add]
/-- The same as one step of a region that draws its order. -/
theorem step_copy_own {P : Program} {ops : Array Oper} {o : Oper} {a : Act} {w : World} {K : Act → World → Prop} {Q : Exit → Act → World → Prop} {R : Prop} (hgd : o.guard = none) (d s : Operand) (dT sT : TypeId)
    (ho : o.op = .call { callee := .builtin .copy, args := #[d, s], argTypes := #[dT, sT] }) {base : Nat} {E : TypeId} {z N g cap : Nat} {xs : List Value} (off dLen dCap sLen sCap : Nat) (ad : Addr) (cs : List Value)
    (hd : a.eval d = .slice (some ⟨g, off, none⟩) dLen dCap) (hs : a.eval s = .slice (some ad) sLen sCap) (hown : w.ownsRow base E z (.slice (some ⟨g, 0, none⟩) N cap) N xs)
    (hu : P.underlying dT = some (.slice E)) (hsz : (P.info? E).map (·.size) = some z) (hn : cs.length = Nat.min sLen dLen * z) (hfit : off + cs.length ≤ N * z) (hsrc : ∀ j v, cs[j]? = some v → w.cell? (ad.add j) = some v) (h1 : ∀ v ∈ cs, v.oneCell' = true)
    (h : ∀ w', w'.ownsRow base E z (.slice (some ⟨g, 0, none⟩) N cap) N (xs.take off ++ cs ++ xs.drop (off + cs.length)) → w.grownBy w' (some g) → K (a.put o.dst (goInt (Nat.min sLen dLen))) w') : if Region.wanted o (yielded ops a.tmps) = true then Oper.wp P o a w K Q else R := by
  have hw : Region.wanted o (yielded ops a.tmps) = true := by simp [Region.wanted, hgd]
  rw [if_pos hw]
  obtain ⟨w', hrun, r1, r2⟩ := own_copy (dT := dT) (sT := sT) (ty := o.type) (dLen := dLen) (dCap := dCap) (sCap := sCap) hown hu hsz hn hfit hsrc h1
  unfold Oper.wp
  simp [execOp, ho, resolve, invoke, builtin, hd, hs, hrun, Result.andThen]
  exact h w' r1 r2
set_option maxHeartbeats 1000000 in
theorem rep_calls (b off cap : Nat) (x0 x1 x2 : Int) (n : Nat) (w : World) (h1 : 1 ≤ n) (h8 : n ≤ 8) (hb : b < w.heap.size)
    (c0 : w.cell? ⟨b, off, none⟩ = some (.int .i64 x0)) (c1 : w.cell? ⟨b, off + 1, none⟩ = some (.int .i64 x1)) (c2 : w.cell? ⟨b, off + 2, none⟩ = some (.int .i64 x2)) :
    Calls Try.prog 21 #[.slice (some ⟨b, off, none⟩) 1 cap, .int .i64 (n : Int)] w fun e w' => ∃ v, e = .returned v ∧ w'.ownsRow w.heap.size 23 3 v n (repC n [.int .i64 x0, .int .i64 x1, .int .i64 x2]) ∧ Below w.heap.size w w' := by
  obtain ⟨i0, hi0, hz0, hz1, hz2⟩ := info_parts Try.infoKnock
  have hu : inu64 (n : Int) = true := inu64_iff.2 (by omega)
  have hn1 : ¬ ((n : Int) < 0) := by omega
  have hn2 : ¬ ((9223372036854775807 : Int) < (n : Int)) := by omega
  go_enter Try.func21, Try.ntmps21
  go_wp2_with (first | (go_at_call 36; go_must (refine (bmul_call hu _).mono ?_; rintro e w1 ⟨rfl, hbw1⟩)) | (at_make; go_must (refine wpList_make_full _ rfl _ _ _ rfl w.heap.size 23 i0 _ 3 Try.underlying36 hi0 hz0 hz1 .i64 .i64 _ _ n rfl rfl rfl rfl (by rw [hz2]; omega) (by unfold maxLen; omega) hbw1.size ?_; intro w2 hown2 hgr2; have hB2 := hbw1.grown hgr2 hbw1.size (fun j hj => by cases hj))))
  have hz : (Try.prog.info? 23).map (·.size) = some 3 := by rw [hi0]; exact congrArg some hz1
  have hsrc : ∀ j v, [Value.int .i64 x0, Value.int .i64 x1, Value.int .i64 x2][j]? = some v → w2.cell? ((⟨b, off, none⟩ : Addr).add j) = some v := by
    intro j v hj
    have e : (⟨b, off, none⟩ : Addr).add j = ⟨b, off + j, none⟩ := by unfold Addr.add; split <;> simp_all
    rw [e, hB2.cell (p := ⟨b, off + j, none⟩) hb]
    match j, hj with
    | 0, hj => simp only [List.getElem?_cons_zero, Option.some.injEq] at hj; rw [← hj]; exact c0
    | 1, hj => simp only [List.getElem?_cons_succ, List.getElem?_cons_zero, Option.some.injEq] at hj; rw [← hj]; exact c1
    | 2, hj => simp only [List.getElem?_cons_succ, List.getElem?_cons_zero, Option.some.injEq] at hj; rw [← hj]; exact c2
    | j + 3, hj => simp at hj
  obtain ⟨w3, hrun3, hown3, hgr3⟩ := own_copy (P := Try.prog) (dT := 36) (sT := 36) (ty := 3) (off := 0) (dLen := n) (dCap := n) (sLen := 1) (sCap := cap) (a := ⟨b, off, none⟩) hown2 Try.underlying36 hz (cs := [.int .i64 x0, .int .i64 x1, .int .i64 x2]) (by show 3 = Nat.min 1 n * 3; rw [show Nat.min 1 n = 1 from Nat.min_eq_left h1]) (by simp; omega) hsrc (by simp [Value.oneCell'])
  rw [hrun3]
  have hB3 := hB2.grown hgr3 hB2.size (fun j hj => by simp at hj; have := hbw1.size; omega)
  obtain ⟨zs, hzs⟩ : ∃ zs : List Value, zs = [.int .i64 0, .int .i64 0, .int .i64 0] := ⟨_, rfl⟩
  obtain ⟨xs, hxs⟩ : ∃ xs : List Value, xs = [.int .i64 x0, .int .i64 x1, .int .i64 x2] := ⟨_, rfl⟩
  rw [← hxs] at hown3
  obtain ⟨G, hG⟩ : ∃ G, G = w1.heap.size := ⟨_, rfl⟩
  have hGw : w.heap.size ≤ G := by rw [hG]; exact hbw1.size
  rw [← hG] at hown3 ⊢
  have hown3' : w3.ownsRow w.heap.size 23 3 (.slice (some ⟨G, 0, none⟩) n n) n (repC 1 xs ++ repC (n - 1) zs) := by
    have hc : (Value.agg #[Value.int .i64 0, Value.int .i64 0, Value.int .i64 0]).cells = #[Value.int .i64 0, Value.int .i64 0, Value.int .i64 0] := by kernel_rfl
    have hmf : (madeCells (Value.agg #[Value.int .i64 0, Value.int .i64 0, Value.int .i64 0]).cells (n * 3)).toList = repC n zs := by
      rw [hc, hzs]
      exact made_flat #[Value.int .i64 0, Value.int .i64 0, Value.int .i64 0] n
    have hxl : xs.length = 3 := by rw [hxs]; rfl
    have hzl : zs.length = 3 := by rw [hzs]; rfl
    have h9 := rep_step (n := n) (k := 0) (m := 1) hxl hzl (by omega)
    have h8 : repC 0 xs ++ repC (n - 0) zs = repC n zs := by simp [repC]
    have h7 : repC 1 xs = xs := by simp [repC]
    rw [h8, h7] at h9
    rw [hmf] at hown3
    simp only [Nat.zero_mul, Nat.zero_add] at h9 hown3
    rw [h9] at hown3
    rw [h7]
    exact hown3
  have HO3 := Lib.hid hown3'
  clear hown3 hown3' hown2 hgr2 hgr3 hrun3 hsrc hB2 hbw1
  clear hG
  go_wp2_with fail
  go_loopw [8] (fun i wr => ∃ k : Nat, 1 ≤ k ∧ k ≤ n ∧ i = .int .i64 k ∧ Hid (wr.ownsRow w.heap.size 23 3 (.slice (some ⟨G, 0, none⟩) n n) n (repC k xs ++ repC (n - k) zs)) ∧ Below w.heap.size w wr) (fun i _ => n - (intOf i).toNat)
  case atStart => exact ⟨1, Nat.le_refl _, h1, rfl, HO3, hB3⟩
  case round =>
    obtain ⟨k, k1, k2, rfl, hO, hB⟩ := hrel
    by_cases hk : k < n
    · have hk' : ((k : Int) < (n : Int)) := by omega
      have e1 : ((k : Int)).toNat = k := by omega
      have hxl : xs.length = 3 := by rw [hxs]; rfl
      have hzl : zs.length = 3 := by rw [hzs]; rfl
      obtain ⟨m, hm⟩ : ∃ m, m = Nat.min k (n - k) := ⟨_, rfl⟩
      have hm1 : 1 ≤ m ∧ k + m ≤ n ∧ m ≤ k := by rw [hm]; have : Nat.min k (n - k) = min k (n - k) := rfl; omega
      have hcl : (repC m xs).length = m * 3 := by rw [repC_len, hxl]
      have hOd := hO.out.drew
      have hsrc : Hid (∀ j v, (repC m xs)[j]? = some v → wr.drew.cell? ((⟨G, 0, none⟩ : Addr).add j) = some v) := by
        intro j v hj
        have hj2 := (List.getElem?_eq_some_iff.1 hj).1
        have e : (⟨G, 0, none⟩ : Addr).add j = ⟨G, j, none⟩ := by unfold Addr.add; split <;> simp_all
        have h9 := hOd.cellAt j (by omega)
        rw [e, h9, List.getElem?_append_left (by rw [repC_len, hxl]; omega), show k = m + (k - m) by omega, repC_add, List.getElem?_append_left hj2]
        exact hj
      have hone : Hid (∀ v ∈ repC m xs, v.oneCell' = true) := by
        intro v hv
        have := repC_mem hv
        rw [hxs] at this
        simp only [List.mem_cons, List.not_mem_nil, or_false] at this
        rcases this with rfl | rfl | rfl <;> rfl
      have HOd := Lib.hid hOd
      clear hOd hO
      have hk0 : (0 : Int) ≤ (k : Int) := by omega
      have hk3 : (k : Int) ≤ (n : Int) := by omega
      have hkn : ¬ k = n := by omega
      have hkn2 : ¬ n = k := by omega
      go_wp2_with fail
      go_region_law (refine step_copy_own rfl (.tmp 41) (.tmp 44) 36 36 rfl (k * 3) (n - k) (n - k) k n ⟨G, 0, none⟩ (repC m xs) (by simp [Act.eval, Act.put]) (by simp [Act.eval, Act.put]) HOd.out Try.underlying36 hz (by rw [hcl, hm]) (by omega) hsrc.out hone.out ?_; intro w4 hown4 hgr4)
      rw [rep_step hxl hzl hm1.2.1] at hown4
      have hB4 : Below w.heap.size w w4 := by
        have hd : Below w.heap.size w wr.drew := hB.drew
        exact hd.grown hgr4 hd.size (fun j hj => by simp only [Option.some.injEq] at hj; omega)
      have HO4 := Lib.hid hown4
      clear hown4 hgr4 HOd hsrc hone
      have hmx : ((Nat.min k (n - k) : Nat) : Int) = m := by rw [hm]
      have hwm : IntKind.i64.wrap ((k : Int) + (m : Int)) = ((k + m : Nat) : Int) := by rw [w64 (by omega) (by omega)]; omega
      rw [hmx]
      clear hm hmx
      change Exit.inBlock 1 _ Exit.normal (Act.mk #[_, _, _, _, _, _, _, _, .int .i64 (IntKind.i64.wrap ((k : Int) + (m : Int))), _, _, _, _, _, _, _, _, _, _, _, _, _, _, _, _, _, _, _, _, _, _, _, _, _, _, _, _, _, _, _, _, _, _, _, _, _, _, _] []) w4
      rw [hwm]
      go_wp2
      go_roundw
      case rel => exact ⟨k + m, by omega, by omega, by go_num, HO4, hB4⟩
      case measure => simp [intOf]; omega
    · obtain rfl : k = n := by omega
      go_wp2
      go_ret
      have h0 : repC (k - k) zs = [] := by rw [Nat.sub_self]; rfl
      have h9 := hO.out
      rw [h0, List.append_nil, hxs] at h9
      exact ⟨_, rfl, h9, hB⟩
def rep_res (x : List Int) (n : Int) : CRes := ⟨[decide (1 ≤ n), decide (n ≤ 8)], .one (.cel (.row 1)), [.recs [.int .i64, .int .i64, .int .i64] (List.replicate n.toNat x)]⟩
def rep_go : List TV → List RowA → List (List CV) → Option CRes := fun args rows caps =>
  match args, rows, caps with
  | [.cel (.row 0), .cel (.int .i64 n)], [.recs [.int .i64, .int .i64, .int .i64] [x]], [] => some (rep_res x n)
  | _, _, _ => none
def rep_e : Ent := ⟨21, [.recs [.int .i64, .int .i64, .int .i64] []], rep_go⟩
theorem rep_call : Callable Try.prog 21 := fun ws us => by
  have hb : Try.f21.body = some (bodyOf Try.f21) := by kernel_rfl
  have hn : (Try.f21.name == "runtime.NumGoroutine") = false := by kernel_rfl
  have : ¬ ((Try.f21.name == "runtime.NumGoroutine") = true) := by rw [hn]; simp
  simp [callFunc, Try.func21, hb]
  simpa using this
theorem rep_ok : SoundEnt Try.prog rep_e := by
  intro args rows caps res h ho w ρ β vs hrows hcaps hargs
  change rep_go args rows caps = some res at h
  unfold rep_go at h
  split at h
  · rename_i n x
    simp only [Option.some.injEq] at h
    subst h
    obtain ⟨o1, o2, _⟩ := ho
    simp only [decide_eq_true_eq] at o1 o2
    refine ⟨rep_call, ?_⟩
    obtain ⟨N, rfl⟩ : ∃ N : Nat, n = N := ⟨n.toNat, by omega⟩
    match vs, hargs with
    | [v, u], hargs =>
      obtain ⟨⟨h1, h1'⟩, h2, _⟩ := hargs
      obtain rfl : u = .int .i64 N := h2
      obtain ⟨a, cap, rfl, l1, l2, hc⟩ := hrows.2 0 _ v rfl h1
      obtain ⟨b, off, rfl, hb, hcell⟩ := hc (by show 0 < 1; omega)
      have k0 : w.cell? ⟨b, off, none⟩ = some (.int .i64 (x.getD 0 0)) := by
        obtain ⟨y, h3, h4⟩ := hcell 0 (by show 0 < 1; omega) 0 (.int .i64 (x.getD 0 0)) rfl
        have e : y = .int .i64 (x.getD 0 0) := h4 ⟨w, [], [], []⟩
        rw [← e]
        exact h3
      have k1 : w.cell? ⟨b, off + 1, none⟩ = some (.int .i64 (x.getD 1 0)) := by
        obtain ⟨y, h3, h4⟩ := hcell 0 (by show 0 < 1; omega) 1 (.int .i64 (x.getD 1 0)) rfl
        have e : y = .int .i64 (x.getD 1 0) := h4 ⟨w, [], [], []⟩
        rw [← e]
        have e2 : off + 0 * (RowA.recs [.int .i64, .int .i64, .int .i64] [x]).width + 1 = off + 1 := by omega
        rw [e2] at h3
        exact h3
      have k2 : w.cell? ⟨b, off + 2, none⟩ = some (.int .i64 (x.getD 2 0)) := by
        obtain ⟨y, h3, h4⟩ := hcell 0 (by show 0 < 1; omega) 2 (.int .i64 (x.getD 2 0)) rfl
        have e : y = .int .i64 (x.getD 2 0) := h4 ⟨w, [], [], []⟩
        rw [← e]
        have e2 : off + 0 * (RowA.recs [.int .i64, .int .i64, .int .i64] [x]).width + 2 = off + 2 := by omega
        rw [e2] at h3
        exact h3
      refine (rep_calls b off cap _ _ _ N w (by omega) (by omega) hb k0 k1 k2).mono ?_
      rintro e w' ⟨v, rfl, hown, hB⟩
      have hl : (RowA.recs [.int .i64, .int .i64, .int .i64] (List.replicate N x)).len = N := List.length_replicate
      have hsl : ∃ a n c, v = .slice a n c := by
        rcases hown.2 with ⟨h3, _⟩ | ⟨g, c, cur, h3, _⟩
        · exact ⟨_, _, _, h3⟩
        · exact ⟨_, _, _, h3⟩
      have hden : DenL ⟨w, [], [], []⟩ (RowA.recs [.int .i64, .int .i64, .int .i64] (List.replicate N x)).flat (repC N [.int .i64 (x.getD 0 0), .int .i64 (x.getD 1 0), .int .i64 (x.getD 2 0)]) := by
        show DenL _ ((List.replicate N x).flatMap (encR [.int .i64, .int .i64, .int .i64] · 0)) (List.replicate N _).flatten
        generalize hN : N = M
        clear hN
        induction M with
        | zero => trivial
        | succ M ih =>
          rw [List.replicate_succ, List.replicate_succ, List.flatMap_cons, List.flatten_cons]
          exact DenL.append ⟨rfl, rfl, rfl, trivial⟩ ih
      refine ⟨v, [v], rfl, hB, ⟨?_, hsl⟩, (fun _ _ _ h => by cases h), rfl, fun i ro v' hi hv => ?_⟩
      · show (ρ ++ [v])[1]? = some v
        have h5 : ρ.length = 1 := hrows.1
        rw [List.getElem?_append_right (by omega), h5]
        rfl
      · cases i with
        | succ i => simp [rep_res] at hi
        | zero =>
          simp only [rep_res, List.getElem?_cons_zero, Option.some.injEq] at hi hv
          subst hi hv
          rw [Int.toNat_natCast]
          refine ⟨rowOk_of_owns hden (by rw [hl]; exact hown), fun g _ hg => .inl ?_⟩
          exact (hown.lt g hg).1
    | [], hargs => exact hargs.elim
    | [_], hargs => exact hargs.2.elim
    | _ :: _ :: _ :: _, hargs => exact hargs.2.2.elim
  · cases h
end Go.Proofs.Ytoklfnonbfcdlaa
