/- The contract of slices.Clone at []int. -/
import Derived.Test.YtnpoofddnmodoaaEq
import Derived.Lib.SliceRun
namespace Go.Proofs.Ytnpoofddnmodoaa
open Go.RowKit Go.Sort

set_option maxHeartbeats 400000 in
theorem clone_any (v : Value) (l : List Int) (w : World) (hr : Row w v l) (hlen : l.length ≤ 1000) :
    Calls Try.prog 25 #[v] w fun e w' => ∃ r, e = .returned r ∧ w'.ownsRow w.heap.size 3 1 r l.length (l.map (Value.int .i64)) ∧ Below w.heap.size w w' := by
  obtain ⟨⟨a, cap, rfl, hlc, hcm, hcell⟩, hwf⟩ := hr
  unfold maxLen at hcm
  obtain ⟨i0, hi0, hz0, hz1, hz2⟩ := info_parts Try.infoInt
  have hnil := fun (w : World) (a : Option Addr) (n c : Nat) => Lib.run_eql_slice_nil (P := Try.prog) w 33 3 a n c 0 0 Try.underlying33
  cases a with
  | none =>
    have h0 : l = [] := by
      rcases l with _ | ⟨x, r⟩
      · rfl
      · obtain ⟨b, off, h, _⟩ := hcell (by simp); cases h
    subst h0
    go_enter Try.func25, Try.ntmps25
    go_wp2
    go_ret
    exact ⟨_, rfl, World.ownsRow_nil _ _ _ _, Below.refl _ _⟩
  | some ad =>
    by_cases h0 : l = []
    · subst h0
      go_enter Try.func25, Try.ntmps25
      go_wp2
      go_ret
      exact ⟨_, rfl, World.ownsRow_made w #[] 0 (Nat.le_refl _) (Nat.zero_le _) rfl, (Below.refl _ _).alloc (Nat.le_refl _) _⟩
    · obtain ⟨b, off, hab, hb, hc⟩ := hcell h0
      obtain rfl : ad = ⟨b, off, none⟩ := by simpa using hab
      clear hab
      have hpos : 0 < l.length := List.length_pos_iff.2 h0
      go_enter Try.func25, Try.ntmps25
      go_wp2_with (at_builtin; refine wpList_append_lies _ (by rfl) _ _ _ (by rfl) w.heap.size 3 i0 (.int .i64 0) 1 8 Try.underlying33 hi0 hz0 hz1 hz2 rfl (by omega) (.slice (some ⟨w.heap.size, 0, none⟩) 0 0) 0 [] (by rfl) (World.ownsRow_made w #[] 0 (Nat.le_refl _) (Nat.zero_le _) rfl) ⟨b, off, none⟩ l.length cap (l.map (Value.int .i64)) (by rfl) (by simp) ?c1 ?c2 hpos (by unfold maxLen; omega) (by omega) (by simp) _ rfl ?_)
      case c1 =>
        intro j u hu
        have hj : j < l.length := by
          rcases Nat.lt_or_ge j l.length with h | h
          · exact h
          · rw [List.getElem?_eq_none (by simpa using h)] at hu; cases hu
        have e : (⟨b, off, none⟩ : Addr).add j = ⟨b, off + j, none⟩ := by unfold Addr.add; split <;> simp_all
        rw [e, World.cell?_alloc_past _ _ _ hb, hc j hj]
        simpa [List.getElem?_eq_getElem hj] using hu
      case c2 => intro u hu; obtain ⟨x, _, rfl⟩ := List.mem_map.1 hu; rfl
      intro gg cap2 wx hown1 hgrow hat hltx
      try simp only [Nat.zero_add, List.nil_append] at hown1
      have HO := Lib.hid hown1
      have hB : Below w.heap.size w wx := ((Below.refl _ _).alloc (Nat.le_refl _) _).grown hgrow (by simp) (fun j hj => by simp [Value.ownBlock] at hj; omega)
      clear hown1 hgrow hat hltx
      go_wp2
      go_ret
      exact ⟨_, rfl, by simpa using HO.out, hB⟩

end Go.Proofs.Ytnpoofddnmodoaa
