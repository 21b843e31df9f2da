/- The law ValueSplits (partita/partitalaw04.ValueSplits) returns true at every input, and leaves its arguments as they were; no condition beyond the row's own. (Written by wip/mprint.py; the plain part stands in the text PureValueSplits.) -/
import Derived.Test.YtajbnfidcpfonaaDoorRows
import Derived.Test.YtajbnfidcpfonaaDoorV3
import Derived.Test.YtajbnfidcpfonaaDoorPureValueSplits
import Derived.WalkKit
import Derived.ProofKit
import Derived.OpenShut
import Derived.ShutString
import Derived.ChangeOld
import Derived.Below
import Derived.SizedLaws
import Derived.Lib.SmallJoins
import Derived.LaidMore
import Derived.Stop.Joined
import Derived.SevenTiedAt
import Derived.Lib.LaidTab
import Derived.Stop.LaidErr
import Derived.Lay
import Derived.MakeChecks
import Derived.Test.YtajbnfidcpfonaaDoorTie
import Derived.Test.YtajbnfidcpfonaaDoorCards
import Derived.Test.YtajbnfidcpfonaaDoorGLaid
namespace Go.Proofs.YtajbnfidcpfonaaDoor.valueSplits
open Go.ChangeShapes Go.WideShapes Go.ChangeAt Go.RowKit Go.Joins
open Go.ChangeMaps (open_string shut_string)
set_option linter.unusedVariables false
set_option linter.unusedSimpArgs false
theorem own : ownKnob Tryd.prog.godebug = none := by kernel_rfl
theorem cells25 : Tryd.prog.cellsOf 25 = 2 := by kernel_rfl
theorem door_met (os : Os) (args : Array Value) : laidMetH Tryd.prog Rows.valueSplitsRow.laid ((World.laidAll Tryd.prog os Rows.valueSplitsRow.laid).forCall (fun _ _ => 0) ⟨#[], args, []⟩).memory := by
  rw [MakeChecks.laidMetH_plain _ _ _ (by kernel_rfl)]; exact laidMet_laidAll _ (by kernel_rfl) (by kernel_rfl)
set_option maxRecDepth 100000 in
theorem lifted (os : Os) (started : os.Started) (H : Type) (enc : TypeId × Value → H) :
    ReturnsInHanded {} Tryd.checked os 7 .any (fun w args => (Rows.valueSplitsSpec.pre enc Tryd.prog Tryd.f7 [] false w args ∧ laidMetH Tryd.prog Rows.valueSplitsRow.laid w) ∧ sizedMet enc Tryd.prog Tryd.f7 (OpenSpec.ofChange Rows.valueSplitsSpec) false w args) (Rows.valueSplitsSpec.post enc Tryd.prog Tryd.f7 false true false false) := by
  refine M.returns_shaped (C := Tryd.checked) (X := fun w _ => laidMetH Tryd.prog Rows.valueSplitsRow.laid w) (fun _ _ _ hh h => h.of_heap hh) own started (by kernel_rfl) Tryd.func7
    (ChangeSpec.witness_shaped (enc := enc) (C := Tryd.checked) (os := os) (X := fun w _ => laidMetH Tryd.prog Rows.valueSplitsRow.laid w) false (World.laidAll Tryd.prog os Rows.valueSplitsRow.laid) #[.agg #[.int .i64 0, .int .i64 0]] 8 (World.laidAll_os _ _ _) (World.shaped_of_ZipB (by kernel_rfl) (by kernel_rfl)) (by kernel_rfl) (by kernel_rfl) (by kernel_rfl) (door_met os _)) ?_
  intro W base args ds gs before hval0 hW hcnd hsz0 hL hsh
  have hsz : (DataW.weightsEach Tryd.prog (Tryd.f7.params.toList ++ Rows.valueSplitsSpec.plain.varTypes Tryd.prog) (ds ++ gs)).all (· ≤ reachBytes) = true := hsz0
  have hval : ∀ (j : Nat) t v, Tryd.f7.params[j]? = some t → args[j]? = some v → Value.okWide Tryd.prog W .any base t v := hval0
  have hW' := hW
  obtain ⟨p, q, hA0, hV, rfl, hfz, hnd⟩ := hW
  have hA : DataW.TrodAll enc Tryd.prog W 0 (fun _ => true) true Tryd.f7.params.toList args.toList ds p := hA0
  rw [Tryd.params7] at hA hval hsz
  obtain ⟨v0, vs0, d0, ds0, p0, q0, hargs, rfl, rfl, h0, r0⟩ := trodAll_cons hA
  obtain ⟨rfl, rfl, rfl⟩ := trodAll_nil r0
  obtain rfl : args = #[v0] := by cases args; simp_all
  obtain ⟨rfl, rfl⟩ := trodVars_none hV
  obtain ⟨c0_0, c0_1, y0_0, y0_1, m0, rfl, rfl, rfl, hy0_0, hy0_1⟩ := open_agg2 Tryd.underlying25 (by kernel_rfl) cells25 (hval 0 25 v0 rfl rfl) h0
  obtain ⟨a0_0, e0_0, rfl, w0_0⟩ := DataW.trod_int Tryd.underlying3 hy0_0
  simp at e0_0
  subst e0_0
  obtain ⟨a0_1, e0_1, rfl, w0_1⟩ := DataW.trod_int Tryd.underlying3 hy0_1
  simp at e0_1
  subst e0_1
  simp only [List.append_nil, List.nil_append] at hW'
  have sr0 : ∀ (W' : World) (sp : Nat → Bool), DataW.Trod enc Tryd.prog W' 0 sp true 25 (.agg #[.int .i64 a0_0, .int .i64 a0_1]) (.agg [.lit (.int .i64 a0_0), .lit (.int .i64 a0_1)]) [] := fun W' sp =>
    shut_agg2 (y0 := (.lit (.int .i64 a0_0), [])) (y1 := (.lit (.int .i64 a0_1), [])) Tryd.underlying25 (by kernel_rfl) cells25 ⟨1, by simp [DataW.trod, Tryd.underlying3, w0_0]⟩ ⟨1, by simp [DataW.trod, Tryd.underlying3, w0_1]⟩
  have hGw := M.GW.of_laid hL hsh
  clear hA0 hval0 hsz0 hsz
  refine (M.partitalaw04_ValueSplits.walk Pure.ValueSplits a0_0 a0_1 W hGw w0_0 w0_1).mono fun e W' ⟨he, bel⟩ => ?_
  subst he
  exact ⟨_, rfl, _, _, _, [], _, [], hW', trodAll_mk1 (shut_bool Tryd.underlying4 _), (trodAll_cons_mk (sr0 _ _) trodAll_mk0), rfl, bel.frame _, fun h => by cases h⟩
theorem over : Rows.valueSplitsRow.holds Tryd.pinned (OpenSpec.ofChange Rows.valueSplitsSpec) :=
  OpenClaim.holds_of_wide 7 Tryd.f7 rfl rfl rfl rfl rfl rfl rfl ⟨rfl, rfl, rfl, rfl, rfl⟩ rfl rfl rfl rfl rfl (by kernel_rfl) Tryd.func7 (by kernel_rfl)
    (of_decide_eq_true (by kernel_rfl)) (by unfold Func.isWrapper; first | (rw [if_pos (by decide +kernel)]; kernel_rfl) | (rw [if_neg (by decide +kernel)]; exact ⟨rfl, rfl⟩))
    (fun os started H enc _ => lifted os started H enc)
theorem proved : Rows.ValueSplitsSaid := over
#print axioms proved
end Go.Proofs.YtajbnfidcpfonaaDoor.valueSplits
namespace Go.Proofs.YtajbnfidcpfonaaDoor
/-- The row, under a short name, for the claim. -/
theorem valueSplits_holds : Rows.ValueSplitsSaid := valueSplits.proved
/-- The tied card. -/
theorem valueSplits_card : Rows.ValueSplitsCardSaid :=
  Claim7.holds_tied_plain_at .later [] [.data, .data, .data, .data, .sentinel, .sentinel, .data, .data, .pinned] true (true, "f2fbf5e9a7d43bdf0ddd988a3a061b988f36f36ab3aa2630c0f1666dc3fc69ba") true
    valueSplits_holds (fun _ h => by cases h) (by kernel_rfl) (fun _ h => by cases h) valueSplits_row_tie rfl ⟨rfl, rfl⟩ (by kernel_rfl) rfl
    (fun f fn hf hfn => by
      obtain rfl : f = 7 := Option.some.inj ((show Tryd.prog.funcNamed "partita/partitalaw04.ValueSplits" = some 7 by kernel_rfl).symm.trans hf) |>.symm
      obtain rfl : fn = Tryd.f7 := (Option.some.inj (Tryd.func7.symm.trans hfn)).symm
      exact ⟨by kernel_rfl, fun j t ht => by
        rw [Tryd.params7] at ht
        have hm : t ∈ [25] := by simpa using Array.mem_of_getElem? ht
        have hall : ([25].all fun u => !Tryd.prog.wantsStandIn u) = true := by kernel_rfl
        exact (show Tryd.prog.wantsStandIn t = false by simpa using List.all_eq_true.1 hall t hm)⟩)
    (by kernel_rfl)
end Go.Proofs.YtajbnfidcpfonaaDoor
