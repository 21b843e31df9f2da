/- An array of two one-cell elements, by value: opened and shut, as Lib.SmallJoins does it for a struct of two fields. -/
import Derived.Test.YtaanbojalolhnabDoorProg
import Derived.OpenShut
import Derived.Lib.SmallJoins
namespace Go.Proofs.YtaanbojalolhnabDoor.M
open Go.RowKit Go.Joins Go.WideShapes Go.ChangeShapes
section
variable {H : Type} {enc : TypeId × Value → H} {P : Program} {w : World} {base : Nat} {spare : Nat → Bool} {held : Bool}
theorem open_two {r : Reach} {b0 : Nat} {t el : TypeId} {v : Value} {d : DataW H} {p : List MemPlace} (hs : P.underlying t = some (.array 2 el)) (hone : P.cellsOf el = 1) (hC : P.cellsOf t = 2)
    (hv : Value.okWide P w r b0 t v) (h : DataW.Trod enc P w base spare held t v d p) :
    ∃ (v0 v1 : Value) (y0 y1 : DataW H × List MemPlace) (n : Nat), v = .agg #[v0, v1] ∧ d = .agg [y0.1, y1.1] ∧ p = y0.2 ++ y1.2 ∧
      DataW.trod enc P w base spare held n el [v0] = some y0 ∧ DataW.trod enc P w base spare held n el [v1] = some y1 := by
  have hv' : ∃ cs, v = .agg cs ∧ cs.size = P.cellsOf t := by
    simp only [Value.okWide, hs] at hv
    obtain ⟨cs, h1, h2, _⟩ := hv
    exact ⟨cs, h1, h2⟩
  obtain ⟨cs, rfl, hsz⟩ := hv'
  obtain ⟨c0, c1, rfl⟩ := array2 (hsz.trans hC)
  obtain ⟨fuel, hf⟩ := h
  obtain ⟨xs, m, _, hx, _, hl, hg⟩ := DataW.trod_array hs hf
  match xs, hl with
  | [y0, y1], _ =>
    simp only [Prod.mk.injEq] at hx
    have h0 := hg 0 (by omega)
    have h1 := hg 1 (by omega)
    refine ⟨c0, c1, y0, y1, m, rfl, by simpa using hx.1, by simpa using hx.2, by simpa [Value.cells, hone] using h0, by simpa [Value.cells, hone] using h1⟩
theorem shut_two {t el : TypeId} {v0 v1 : Value} {y0 y1 : DataW H × List MemPlace} (hs : P.underlying t = some (.array 2 el)) (hone : P.cellsOf el = 1) (hC : P.cellsOf t = 2)
    (t0 : ∃ n, DataW.trod enc P w base spare held n el [v0] = some y0) (t1 : ∃ n, DataW.trod enc P w base spare held n el [v1] = some y1) :
    DataW.Trod enc P w base spare held t (.agg #[v0, v1]) (.agg [y0.1, y1.1]) (y0.2 ++ y1.2) := by
  obtain ⟨n0, t0⟩ := t0
  obtain ⟨n1, t1⟩ := t1
  have t0' := DataW.trod_le (Nat.le_max_left n0 n1) t0
  have t1' := DataW.trod_le (Nat.le_max_right n0 n1) t1
  refine ⟨max n0 n1 + 1, ?_⟩
  unfold DataW.trod
  rw [hs]
  simp [Value.cells, hC, hone, List.range_succ, t0', t1']
end
end Go.Proofs.YtaanbojalolhnabDoor.M
