/- A slice of int that came in, opened. -/
import Derived.Test.YtnpoofddnmodoaaLst
import Derived.ProofKit
import Derived.OpenShut
namespace Go.Proofs.Ytnpoofddnmodoaa
open Go.ChangeShapes Go.WideShapes Go.ChangeAt Go.RowKit

theorem row_open_cs {H : Type} {enc : TypeId × Value → H} {P : Program} {W : World} {t e : TypeId} {n : Nat} {cs : List Value} {x : DataW H × List MemPlace} (ht : P.underlying t = some (.slice e)) (he : P.underlying e = some (.int .i64)) (hc : P.cellsOf e = 1)
    (hf : DataW.trod enc P W 0 (fun _ => true) true n t cs = some x) : ∃ v l, cs = [v] ∧ Row W v l := by
  rcases open_ints ht he hc hf with ⟨hcs, _⟩ | ⟨x, len, cap, zs, hcs, _, hl, hm, hz, _, hcell, hwz⟩
  · exact ⟨_, [], hcs, Row.nil _⟩
  · simp only [if_true] at hz
    have hlen : (zs.take len).length = len := by rw [List.length_take, hz]; omega
    refine ⟨_, zs.take len, hcs, ⟨some x, cap, by rw [hlen], by rw [hlen]; exact hl, hm, fun hne => ?_⟩, fun n hn => hwz n (List.mem_of_mem_take hn)⟩
    have h0 : 0 < len := by
      rcases Nat.eq_zero_or_pos len with h | h
      · subst h; simp at hne
      · exact h
    obtain ⟨b, off, spot⟩ := x
    have c0 := hcell 0 (by omega)
    have hspot : spot = none := by simpa [Addr.add] using World.cell?_spot c0
    subst hspot
    refine ⟨b, off, rfl, World.block_lt_of_cell? _ _ c0, fun i hi => ?_⟩
    rw [hlen] at hi
    have := hcell i (by omega)
    have e : (⟨b, off, none⟩ : Addr).add i = ⟨b, off + i, none⟩ := by unfold Addr.add; split <;> simp_all
    rw [e] at this
    simpa [List.getElem?_take, hi] using this

theorem row_open {H : Type} {enc : TypeId × Value → H} {P : Program} {W : World} {t e : TypeId} {v : Value} {d : DataW H} {p : List MemPlace} (ht : P.underlying t = some (.slice e)) (he : P.underlying e = some (.int .i64)) (hc : P.cellsOf e = 1)
    (hv : ∃ a len cap, v = .slice a len cap) (h : DataW.Trod enc P W 0 (fun _ => true) true t v d p) : ∃ l, Row W v l := by
  obtain ⟨a0, len0, cap0, rfl⟩ := hv
  obtain ⟨fuel, hf⟩ := h
  obtain ⟨v, l, hcs, hr⟩ := row_open_cs ht he hc hf
  simp only [Value.cells, List.cons.injEq, and_true] at hcs
  subst hcs
  exact ⟨l, hr⟩

end Go.Proofs.Ytnpoofddnmodoaa
