/- What all the statements on keys use: a right key is one of thirty; the chapter's example holds. -/
import Derived.Test.YtaanbojalolhnaaM3
import Derived.Test.YtaanbojalolhnaaM9
namespace Go.Proofs.Ytaanbojalolhnaa.Pure
open Go.RowKit Go.Proofs.Ytaanbojalolhnaa.M Go.Proofs.YtaanbojalolhnaaW.PrintWords Go.Proofs.YtaanbojalolhnaaW.PrintLast

theorem awake_ok : partitalaw03_awake.f 100 = some true := by decide +kernel

theorem key_cases (a : Int) : (∃ i : Fin 15, a = -7 + (i.val : Int)) ∨ ∀ m, key_Right.f a m = some false ∧ partitaref03_Right.f a m = some false := by
  by_cases h : -7 ≤ a ∧ a ≤ 7
  · exact .inl ⟨⟨(a + 7).toNat, by omega⟩, by simp only; omega⟩
  · refine .inr fun m => ?_
    unfold key_Right.f partitaref03_Right.f
    by_cases h1 : a ≥ -7
    · rw [if_pos h1, decide_eq_false (by omega)]; exact ⟨rfl, rfl⟩
    · rw [if_neg h1]; exact ⟨rfl, rfl⟩
end Go.Proofs.Ytaanbojalolhnaa.Pure
