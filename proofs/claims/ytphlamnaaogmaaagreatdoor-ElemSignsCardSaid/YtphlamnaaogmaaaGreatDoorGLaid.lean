import Derived.Test.YtphlamnaaogmaaaGreatDoorRows
import Derived.Test.YtphlamnaaogmaaaGreatDoorGGlob
import Derived.LaidMore
import Derived.LaidSub
import Derived.Stop.LaidErr
import Derived.Lib.LaidTab
import Derived.Lib.LaidU8T
import Derived.Shelf.Vars
import Derived.KernelRfl
import Derived.Handed
import Derived.MakeChecks
namespace Go.Proofs.YtphlamnaaogmaaaGreatDoor.M
open Go.RowKit Go.ChangeShapes

theorem synT : (Tryz.prog.globals[3]?).map (·.type) = some 61 := by kernel_rfl
theorem rngT : (Tryz.prog.globals[4]?).map (·.type) = some 61 := by kernel_rfl
theorem errC : Tryz.prog.cellsOf 218 = 1 := by kernel_rfl
theorem strC : Tryz.prog.cellsOf 9 = 1 := by kernel_rfl
theorem star : "*" ++ "errors.errorString" = "*errors.errorString" := by decide
theorem errRow (u : TypeId) (h : Tryz.prog.typeName? 3 u = some "*errors.errorString") : u = 216 :=
  typeName_ptr_named (P := Tryz.prog) (nm := "errors.errorString") (by rw [star]; kernel_rfl) (by kernel_rfl) (by decide) u (by rw [star]; exact h)
theorem u8x : U8Extra Tryz.prog Tryz.laysValid_ren := ⟨by kernel_rfl, by kernel_rfl, by kernel_rfl, by kernel_rfl, by kernel_rfl, by kernel_rfl, by kernel_rfl⟩
theorem firstD : Rows.laid_unicode_utf8_first = Lib.firstData := by kernel_rfl
theorem acceptD : Rows.laid_unicode_utf8_acceptRanges = Lib.acceptData := by kernel_rfl

theorem GW.of_laid {W : World} {l : List (String × DataW Unit)} (h : laidMetH Tryz.prog l W) (hsh : W.ShapedOpen Tryz.prog)
    (e1 : l.filter (fun x => x.1 == "unicode/utf8.first") = [("unicode/utf8.first", Rows.laid_unicode_utf8_first)])
    (e2 : l.filter (fun x => x.1 == "unicode/utf8.acceptRanges") = [("unicode/utf8.acceptRanges", Rows.laid_unicode_utf8_acceptRanges)])
    (e3 : l.filter (fun x => x.1 == "strconv.ErrSyntax") = [("strconv.ErrSyntax", Rows.laid_strconv_ErrSyntax)])
    (e4 : l.filter (fun x => x.1 == "strconv.ErrRange") = [("strconv.ErrRange", Rows.laid_strconv_ErrRange)]) : GW W := by
  have h1 : laidMetH Tryz.prog [("unicode/utf8.first", Rows.laid_unicode_utf8_first)] W := e1 ▸ laidMetH.filter (fun x => x.1 == "unicode/utf8.first") h
  have h2 : laidMetH Tryz.prog [("unicode/utf8.acceptRanges", Rows.laid_unicode_utf8_acceptRanges)] W := e2 ▸ laidMetH.filter (fun x => x.1 == "unicode/utf8.acceptRanges") h
  have h3 : laidMetH Tryz.prog [("strconv.ErrSyntax", Rows.laid_strconv_ErrSyntax)] W := e3 ▸ laidMetH.filter (fun x => x.1 == "strconv.ErrSyntax") h
  have h4 : laidMetH Tryz.prog [("strconv.ErrRange", Rows.laid_strconv_ErrRange)] W := e4 ▸ laidMetH.filter (fun x => x.1 == "strconv.ErrRange") h
  rw [MakeChecks.laidMetH_plain _ _ _ (by kernel_rfl)] at h1 h2 h3 h4
  obtain ⟨a1, _, hv1, _⟩ := laid_sentinel h3 synN synT Tryz.underlying61 errRow Tryz.underlying216 Tryz.underlying218 rfl rfl Tryz.underlying9 errC strC
  obtain ⟨a2, _, hv2, _⟩ := laid_sentinel h4 rngN rngT Tryz.underlying61 errRow Tryz.underlying216 Tryz.underlying218 rfl rfl Tryz.underlying9 errC strC
  have r1 : Lib.VarReads Tryz.prog W "unicode/utf8.first" Lib.firstData := Lib.laidMet.reads (l := [("unicode/utf8.first", Rows.laid_unicode_utf8_first)]) h1 (by rw [firstD]; exact List.mem_singleton.2 rfl)
  have r2 : Lib.VarReads Tryz.prog W "unicode/utf8.acceptRanges" Lib.acceptData := Lib.laidMet.reads (l := [("unicode/utf8.acceptRanges", Rows.laid_unicode_utf8_acceptRanges)]) h2 (by rw [acceptD]; exact List.mem_singleton.2 rfl)
  exact ⟨utf8Tabs_of_readsT (U8Types.of196 Tryz.laysValid) u8x r1 r2, cell_of_shapedOpen_int hsh (g := 2) (t := 3) (zero := #[.int .i64 0]) (of_decide_eq_true (by kernel_rfl)) (by kernel_rfl) rfl (by kernel_rfl) (by kernel_rfl) Tryz.underlying3, ⟨_, _, hv1⟩, ⟨_, _, hv2⟩⟩

theorem returns_shaped {H : Type} {enc : TypeId × Value → H} {a : Assume} {C : Checked} {os : Os} {f : FuncId} {fn : Func} {s : ChangeSpec} {conds : List PathCond} {apart fresh handsOn again : Bool} {X : World → Array Value → Prop}
    (hX : ∀ (w w' : World) (args : Array Value), w.heap = w'.heap → X w args → X w' args)
    (own : ownKnob C.prog.godebug = none) (started : os.Started) (noInit : C.prog.inits.idxOf? f = none) (hfn : C.prog.funcs[f]? = some fn)
    (witness : ∃ (w : World) (tape : Tape) (i : Input), w.os = os ∧ (w.forCall tape i).Shaped C.prog ∧ i.vars = [] ∧ Input.okWide C.prog (w.forCall tape i) .any w.heap.size f i ∧
      ((s.pre enc C.prog fn conds apart (w.forCall tape i).memory i.args ∧ X (w.forCall tape i).memory i.args) ∧ sizedMet enc C.prog fn (OpenSpec.ofChange s) apart (w.forCall tape i).memory i.args) ∧ a.holds C.prog (lone (Frame.enter C.prog f i.args .normal) [] (w.forCall tape i)))
    (contract : ∀ (W : World) (base : Nat) (args : Array Value) (ds gs : List (DataW H)) (before : List MemPlace),
      (∀ (j : Nat) t v, fn.params[j]? = some t → args[j]? = some v → Value.okWide C.prog W .any base t v) →
      DataW.Whole enc C.prog fn.params.toList s.vars apart W args.toList ds gs before →
      conds.all (PathCond.test C.prog ⟨fn.params.toList, ds, s.plain.varTypes C.prog, gs⟩) = true →
      (DataW.weightsEach C.prog (fn.params.toList ++ s.plain.varTypes C.prog) (ds ++ gs)).all (· ≤ reachBytes) = true → X W args → W.ShapedOpen C.prog →
      Calls C.prog f args W fun e W' => ∃ v, e = .returned v ∧ s.post enc C.prog fn apart fresh handsOn again W args v W') :
    ReturnsInHanded a C os f .any (fun w args => (s.pre enc C.prog fn conds apart w args ∧ X w args) ∧ sizedMet enc C.prog fn (OpenSpec.ofChange s) apart w args) (s.post enc C.prog fn apart fresh handsOn again) := by
  refine returnsInHanded_of_calls own started noInit witness ?_
  intro w tape i _ hsh _ hok hpre _
  obtain ⟨_, _, _, fn', hfn', _, _, _, _, hval⟩ := hok
  obtain rfl : fn' = fn := Option.some.inj (hfn'.symm.trans hfn)
  obtain ⟨⟨⟨ds, gs, before, hw, hc⟩, hx⟩, hz⟩ := hpre
  have hw' := DataW.Whole.of_heap (w' := w.forCall tape i) (by rfl) hw
  refine (contract (w.forCall tape i) w.heap.size i.args ds gs before hval hw' hc (hz.weights hw) (hX _ _ _ (by rfl) hx) hsh).mono fun e W' ⟨v, he, hp⟩ => ?_
  subst he
  exact ChangeSpec.post_blind hp
end Go.Proofs.YtphlamnaaogmaaaGreatDoor.M
