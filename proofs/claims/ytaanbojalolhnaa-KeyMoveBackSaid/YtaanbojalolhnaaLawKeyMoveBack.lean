/- The law KeyMoveBack (partita/partitalaw03.KeyMoveBack) returns true at every input, and leaves its arguments as they were; no condition beyond the row's own. (Written by wip/mprint.py; the plain part stands in the text PureKeyMoveBack.) -/
import Derived.Test.YtaanbojalolhnaaRows
import Derived.Test.YtaanbojalolhnaaM19
import Derived.Test.YtaanbojalolhnaaPureKeyMoveBack
import Derived.WalkKit
import Derived.ProofKit
import Derived.OpenShut
import Derived.ShutString
import Derived.ChangeOld
import Derived.Below
import Derived.SizedLaws
import Derived.Lib.SmallJoins
namespace Go.Proofs.Ytaanbojalolhnaa.keyMoveBack
open Go.ChangeShapes Go.WideShapes Go.ChangeAt Go.RowKit Go.Joins
open Go.ChangeMaps (open_string shut_string)
set_option linter.unusedVariables false
set_option linter.unusedSimpArgs false
theorem own : ownKnob Try.prog.godebug = none := by kernel_rfl
theorem cells23 : Try.prog.cellsOf 23 = 2 := by kernel_rfl
theorem cells37 : Try.prog.cellsOf 37 = 2 := by kernel_rfl
set_option maxRecDepth 100000 in
theorem lifted (os : Os) (started : os.Started) (H : Type) (enc : TypeId × Value → H) :
    ReturnsInHanded {} Try.checked os 7 .any (Rows.keyMoveBackSpec.pre6 enc Try.prog Try.f7 Rows.keyMoveBackRow.domain false) (Rows.keyMoveBackSpec.post enc Try.prog Try.f7 false true false false) := by
  refine returnsInHanded_of_change_sized (C := Try.checked) own started (by kernel_rfl) Try.func7
    (ChangeSpec.witness6 (enc := enc) (C := Try.checked) false ⟨#[], #[.agg #[.int .i64 0, .bool false], .agg #[.int .i64 0, .int .i64 0], .agg #[.int .i64 0, .int .i64 0]], []⟩ 8 (by kernel_rfl) (by kernel_rfl) (by kernel_rfl) (by kernel_rfl)) ?_
  intro W base args ds gs before hval0 hW hcnd hsz0 _
  have hsz : (DataW.weightsEach Try.prog (Try.f7.params.toList ++ Rows.keyMoveBackSpec.plain.varTypes Try.prog) (ds ++ gs)).all (· ≤ reachBytes) = true := hsz0
  have hval : ∀ (j : Nat) t v, Try.f7.params[j]? = some t → args[j]? = some v → Value.okWide Try.prog W .any base t v := hval0
  have hW' := hW
  obtain ⟨p, q, hA0, hV, rfl, hfz, hnd⟩ := hW
  have hA : DataW.TrodAll enc Try.prog W 0 (fun _ => true) true Try.f7.params.toList args.toList ds p := hA0
  rw [Try.params7] at hA hval hsz
  obtain ⟨v0, vs0, d0, ds0, p0, q0, hargs, rfl, rfl, h0, r0⟩ := trodAll_cons hA
  obtain ⟨v1, vs1, d1, ds1, p1, q1, rfl, rfl, rfl, h1, r1⟩ := trodAll_cons r0
  obtain ⟨v2, vs2, d2, ds2, p2, q2, rfl, rfl, rfl, h2, r2⟩ := trodAll_cons r1
  obtain ⟨rfl, rfl, rfl⟩ := trodAll_nil r2
  obtain rfl : args = #[v0, v1, v2] := by cases args; simp_all
  obtain ⟨rfl, rfl⟩ := trodVars_none hV
  obtain ⟨c0_0, c0_1, y0_0, y0_1, m0, rfl, rfl, rfl, hy0_0, hy0_1⟩ := open_agg2 Try.underlying23 (by kernel_rfl) cells23 (hval 0 23 v0 rfl rfl) h0
  obtain ⟨a0_0, e0_0, rfl, w0_0⟩ := DataW.trod_int Try.underlying3 hy0_0
  simp at e0_0
  subst e0_0
  obtain ⟨a0_1, e0_1, rfl⟩ := DataW.trod_bool Try.underlying4 hy0_1
  simp at e0_1
  subst e0_1
  obtain ⟨c1_0, c1_1, y1_0, y1_1, m1, rfl, rfl, rfl, hy1_0, hy1_1⟩ := open_agg2 Try.underlying37 (by kernel_rfl) cells37 (hval 1 37 v1 rfl rfl) h1
  obtain ⟨a1_0, e1_0, rfl, w1_0⟩ := DataW.trod_int Try.underlying3 hy1_0
  simp at e1_0
  subst e1_0
  obtain ⟨a1_1, e1_1, rfl, w1_1⟩ := DataW.trod_int Try.underlying3 hy1_1
  simp at e1_1
  subst e1_1
  obtain ⟨c2_0, c2_1, y2_0, y2_1, m2, rfl, rfl, rfl, hy2_0, hy2_1⟩ := open_agg2 Try.underlying37 (by kernel_rfl) cells37 (hval 2 37 v2 rfl rfl) h2
  obtain ⟨a2_0, e2_0, rfl, w2_0⟩ := DataW.trod_int Try.underlying3 hy2_0
  simp at e2_0
  subst e2_0
  obtain ⟨a2_1, e2_1, rfl, w2_1⟩ := DataW.trod_int Try.underlying3 hy2_1
  simp at e2_1
  subst e2_1
  simp only [List.append_nil, List.nil_append] at hW'
  have sr0 : ∀ (W' : World) (sp : Nat → Bool), DataW.Trod enc Try.prog W' 0 sp true 23 (.agg #[.int .i64 a0_0, .bool a0_1]) (.agg [.lit (.int .i64 a0_0), .lit (.bool a0_1)]) [] := fun W' sp =>
    shut_agg2 (y0 := (.lit (.int .i64 a0_0), [])) (y1 := (.lit (.bool a0_1), [])) Try.underlying23 (by kernel_rfl) cells23 ⟨1, by simp [DataW.trod, Try.underlying3, w0_0]⟩ ⟨1, by simp [DataW.trod, Try.underlying4]⟩
  have sr1 : ∀ (W' : World) (sp : Nat → Bool), DataW.Trod enc Try.prog W' 0 sp true 37 (.agg #[.int .i64 a1_0, .int .i64 a1_1]) (.agg [.lit (.int .i64 a1_0), .lit (.int .i64 a1_1)]) [] := fun W' sp =>
    shut_agg2 (y0 := (.lit (.int .i64 a1_0), [])) (y1 := (.lit (.int .i64 a1_1), [])) Try.underlying37 (by kernel_rfl) cells37 ⟨1, by simp [DataW.trod, Try.underlying3, w1_0]⟩ ⟨1, by simp [DataW.trod, Try.underlying3, w1_1]⟩
  have sr2 : ∀ (W' : World) (sp : Nat → Bool), DataW.Trod enc Try.prog W' 0 sp true 37 (.agg #[.int .i64 a2_0, .int .i64 a2_1]) (.agg [.lit (.int .i64 a2_0), .lit (.int .i64 a2_1)]) [] := fun W' sp =>
    shut_agg2 (y0 := (.lit (.int .i64 a2_0), [])) (y1 := (.lit (.int .i64 a2_1), [])) Try.underlying37 (by kernel_rfl) cells37 ⟨1, by simp [DataW.trod, Try.underlying3, w2_0]⟩ ⟨1, by simp [DataW.trod, Try.underlying3, w2_1]⟩
  clear hA0 hval0 hsz0 hsz
  refine (M.partitalaw03_KeyMoveBack.walk Pure.KeyMoveBack a0_0 a0_1 a1_0 a1_1 a2_0 a2_1 W w0_0 w1_0 w1_1 w2_0 w2_1).mono fun e W' ⟨he, bel⟩ => ?_
  subst he
  exact ⟨_, rfl, _, _, _, [], _, [], hW', trodAll_mk1 (shut_bool Try.underlying4 _), (trodAll_cons_mk (sr0 _ _) (trodAll_cons_mk (sr1 _ _) (trodAll_cons_mk (sr2 _ _) trodAll_mk0))), rfl, bel.frame _, fun h => by cases h⟩
theorem over : Rows.keyMoveBackRow.holds Try.pinned (OpenSpec.ofChange Rows.keyMoveBackSpec) :=
  OpenClaim.holds_of_wide 7 Try.f7 rfl rfl rfl rfl rfl rfl rfl ⟨rfl, rfl, rfl, rfl, rfl⟩ rfl rfl rfl rfl rfl (by kernel_rfl) Try.func7 (by kernel_rfl)
    (of_decide_eq_true (by kernel_rfl)) (by unfold Func.isWrapper; first | (rw [if_pos (by decide +kernel)]; kernel_rfl) | (rw [if_neg (by decide +kernel)]; exact ⟨rfl, rfl⟩))
    (fun os started H enc _ => lifted os started H enc)
theorem proved : Rows.KeyMoveBackSaid := over
#print axioms proved
end Go.Proofs.Ytaanbojalolhnaa.keyMoveBack
namespace Go.Proofs.Ytaanbojalolhnaa
/-- The row, under a short name, for the claim. -/
theorem keyMoveBack_holds : Rows.KeyMoveBackSaid := keyMoveBack.proved
end Go.Proofs.Ytaanbojalolhnaa
