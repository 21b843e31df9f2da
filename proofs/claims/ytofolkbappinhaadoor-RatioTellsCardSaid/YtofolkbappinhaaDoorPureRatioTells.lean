/- For any numbers, ratios and text: what is told of ratios is as the document says; no condition. -/
import Derived.Test.YtofolkbappinhaaDoorM26
import Derived.Test.YtofolkbappinhaaDoorPureRefRead
set_option linter.unusedVariables false
set_option linter.unusedSimpArgs false
namespace Go.Proofs.YtofolkbappinhaaDoor.Pure
open Go.RowKit Go.Proofs.YtofolkbappinhaaDoor.M Go.Proofs.YtofolkbappinhaaDoorW.PrintWords Go.Proofs.YtofolkbappinhaaDoorW.PrintLast
set_option maxRecDepth 100000

theorem told_ok {a b c d : Int} (ia : I64 a) (ib : I64 b) (ic : I64 c) (id : I64 d) : partitalaw01_told.f 1000 a b c d = some true := by
  unfold partitalaw01_told.f partitalaw01_told.t
  rw [Add_eq (by omega) ia ib ic id, rAdd_eq (by omega) ia ib ic id, Sub_eq (by omega) ia ib ic id, rSub_eq (by omega) ia ib ic id, Mul_eq (by omega) ia ib ic id, rMul_eq (by omega) ia ib ic id, Div_eq (by omega) ia ib ic id, rDiv_eq (by omega) ia ib ic id]
  rw [Floor_eq (by omega) ia ib, rFloor_eq (by omega) ia ib, Text_eq (by omega) ia ib, rText_eq (by omega) ia ib, right_eq (by omega) ia ib, rright_eq (by omega) ia ib, Compare_eq (by omega) ia ib ic id, rCompare_eq (by omega) ia ib ic id]
  simp only [Option.bind_some, beq_self_eq_true, Bool.and_self, Bool.not_true, cond_false, cond_true, _root_.id]

theorem RatioTells : partitalaw01_RatioTells.Pure := by
  intro x y a b c d s hx hy ha hb hc hd hs
  have ia := wf64 ha
  have ib := wf64 hb
  have ic := wf64 hc
  have id := wf64 hd
  obtain ⟨p, q, e1, h⟩ := Ratio_eq (k := 1000) (by omega) ia ib
  obtain ⟨p', q', e2, h'⟩ := Ratio_eq (k := 1000) (by omega) ic id
  obtain ⟨ip, iq⟩ := Rt_I64 h
  obtain ⟨ip', iq'⟩ := Rt_I64 h'
  refine ⟨1000, ?_⟩
  unfold partitalaw01_RatioTells.f
  have hmn : 0 ≤ mn (s.size : Int) 30 ∧ mn (s.size : Int) 30 ≤ s.size ∧ mn (s.size : Int) 30 ≤ 30 := by unfold mn; split <;> omega
  obtain ⟨few, hf⟩ : ∃ few, few = s.extract 0 (mn (s.size : Int) 30).toNat := ⟨_, rfl⟩
  have hfs : few.size ≤ 30 := by rw [hf, ByteArray.size_extract]; omega
  have hread : ∃ u v w, ratio_Read.f 1000 few = some (u, v, w) ∧ partitaref01_Read.f 1000 few = some (u, v, w) := by
    rcases Read_tells (k := 1000) (by omega) few (by omega) with ⟨u, v, f1, f2, f3⟩ | ⟨f1, f2⟩
    · rcases rRead_tells few (by omega) with ⟨u', v', g1, g2, g3⟩ | ⟨g1, g2⟩
      · obtain ⟨rfl, rfl⟩ := text_inj f2 g2 (by rw [f3, g3])
        exact ⟨_, _, _, f1, g1⟩
      · exact absurd f3 (g2 u v f2)
    · rcases rRead_tells few (by omega) with ⟨u', v', g1, g2, g3⟩ | ⟨g1, g2⟩
      · exact absurd g3 (f2 u' v' g2)
      · exact ⟨_, _, _, f1, g1⟩
  obtain ⟨u, v, w, r1, r2⟩ := hread
  rw [examples_ok, Option.bind_some, if_pos rfl, if_pos hmn.1, if_pos hmn.2.1, ← hf, Of_eq (by omega) (wf64 hx) (wf64 hy), rOf_eq (by omega) (wf64 hx) (wf64 hy), r1, r2, Option.bind_some, Option.bind_some, Option.bind_some, Option.bind_some, if_pos (by simp), if_pos rfl, if_pos (by simp), if_pos rfl]
  rw [told_ok ia ib ic id, Option.bind_some, if_pos rfl, e1, Option.bind_some, told_ok ip iq ic id, Option.bind_some, if_pos rfl, Option.bind_some, e2, Option.bind_some, told_ok ip iq ip' iq', Option.bind_some]

end Go.Proofs.YtofolkbappinhaaDoor.Pure
