/- For any two pitches, interval and text: what is told of pitches is as the document says; no condition. -/
import Derived.Test.YtnpinngdiipogaaDoorM20
import Derived.Test.YtnpinngdiipogaaDoorPureTellsBase
set_option linter.unusedVariables false
set_option linter.unusedSimpArgs false
namespace Go.Proofs.YtnpinngdiipogaaDoor.Pure
open Go.RowKit Go.Proofs.YtnpinngdiipogaaDoor.M Go.Proofs.YtnpinngdiipogaaDoorW.PrintWords Go.Proofs.YtnpinngdiipogaaDoorW.PrintLast
set_option maxRecDepth 100000


theorem bne_int (x : Int) : (x != x) = false := by rw [bne_eq_false_iff_eq]
theorem PitchTells : partitalaw02_PitchTells.Pure := by
  intro a1 a2 a3 b1 b2 b3 h1 h2 s wa1 wa2 wa3 wb1 wb2 wb3 wh1 wh2 hs
  obtain ⟨x, y, z, e1, _⟩ := Pitch_eq wa1 wa2 wa3
  obtain ⟨u, v, w, e2, _⟩ := Pitch_eq wb1 wb2 wb3
  obtain ⟨p1, f1, _, _⟩ := pick_eq (n := 41) wh1 (by omega) (by omega)
  obtain ⟨p2, f2, _, _⟩ := pick_eq (n := 81) wh2 (by omega) (by omega)
  obtain ⟨t, e, ht, _⟩ := text_tot a1 a2 a3
  obtain ⟨t', e', ht', _⟩ := text_tot x y z
  refine ⟨1000, ?_⟩
  unfold partitalaw02_PitchTells.f partitalaw02_PitchTells.t
  have hmn : 0 ≤ (if (20 : Int) < (s.size : Int) then (20 : Int) else (s.size : Int)) ∧ (if (20 : Int) < (s.size : Int) then (20 : Int) else (s.size : Int)) ≤ (s.size : Int) ∧ (if (20 : Int) < (s.size : Int) then (20 : Int) else (s.size : Int)) ≤ 20 := by split <;> omega
  generalize (if (20 : Int) < (s.size : Int) then (20 : Int) else (s.size : Int)) = m at hmn ⊢
  obtain ⟨rx, ra, ro, re, g1, _⟩ := read_tells (s.extract (Int.toNat 0) m.toNat) (by rw [ByteArray.size_extract]; omega)
  have g2 := rRead_eq (s.extract (Int.toNat 0) m.toNat) (by rw [ByteArray.size_extract]; omega) 1000 (by omega)
  rw [awake_ok, Option.bind_some, if_pos ⟨hmn.1, hmn.2.1⟩, if_pos ⟨Int.le_refl 0, hmn.1⟩, e1, Option.bind_some]
  simp only [e2, f1, f2, Number_eq, rNumber_eq, Line_eq, rLine_eq, rText_eq 1000 (by omega), ht, ht', right_eq, rright_eq, Up_k, rUp_eq 1000 (by omega), upS_upG, Between_k, rBetween_eq 999, Compare_k, rCompare_eq 999, g2, g1, Option.bind_some, beq_self_eq_true, Bool.and_self, Bool.not_true, cond_false, cond_true, _root_.id]

end Go.Proofs.YtnpinngdiipogaaDoor.Pure
