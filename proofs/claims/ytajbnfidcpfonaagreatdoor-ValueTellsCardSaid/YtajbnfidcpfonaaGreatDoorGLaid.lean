/- The row's condition on the listed variables, and the world's shape, give what the walks ask. -/
import Derived.Test.YtajbnfidcpfonaaGreatDoorRows
import Derived.Test.YtajbnfidcpfonaaGreatDoorGGlob
import Derived.LaidMore
import Derived.LaidSub
import Derived.Stop.LaidErr
import Derived.Lib.LaidTab
import Derived.Shelf.Vars
import Derived.KernelRfl
import Derived.Handed
namespace Go.Proofs.YtajbnfidcpfonaaGreatDoor.M
open Go.RowKit Go.ChangeShapes

theorem powT : (Tryz.prog.globals[5]?).map (·.type) = some 132 := by kernel_rfl
theorem powC : Tryz.prog.cellsOf 60 = 1 := by kernel_rfl
theorem powC20 : Tryz.prog.cellsOf 132 = 20 := by kernel_rfl
theorem synT : (Tryz.prog.globals[3]?).map (·.type) = some 49 := by kernel_rfl
theorem rngT : (Tryz.prog.globals[4]?).map (·.type) = some 49 := by kernel_rfl
theorem errC : Tryz.prog.cellsOf 130 = 1 := by kernel_rfl
theorem strC : Tryz.prog.cellsOf 9 = 1 := by kernel_rfl
theorem star : "*" ++ "errors.errorString" = "*errors.errorString" := by decide
theorem errRow (u : TypeId) (h : Tryz.prog.typeName? 3 u = some "*errors.errorString") : u = 128 :=
  typeName_ptr_named (P := Tryz.prog) (nm := "errors.errorString") (by rw [star]; kernel_rfl) (by kernel_rfl) (by decide) u (by rw [star]; exact h)
noncomputable def fieldsOf (t : TypeId) : Array Field := match Tryz.prog.underlying t with | some (.struct fs) => fs | _ => #[]
noncomputable def fieldsV : Array Field := fieldsOf 23
noncomputable def fieldsR : Array Field := fieldsOf 25
theorem fieldsV_is : Tryz.prog.underlying 23 = some (.struct fieldsV) := by kernel_rfl
theorem fieldsR_is : Tryz.prog.underlying 25 = some (.struct fieldsR) := by kernel_rfl
noncomputable def plainFields (fs : Array Field) : Bool := (List.range fs.size).all fun j => match fs[j]? with
  | some f => f.offset == j && (match Tryz.prog.underlying f.type with | some (.int .i64) => true | _ => false) && Tryz.prog.cellsOf f.type == 1
  | none => true
theorem plainFields_ok {fs : Array Field} (h : plainFields fs = true) (j : Nat) (f : Field) (hf : fs[j]? = some f) : f.offset = j ∧ Tryz.prog.underlying f.type = some (.int .i64) ∧ Tryz.prog.cellsOf f.type = 1 := by
  unfold plainFields at h
  rw [List.all_eq_true] at h
  have hj : j < fs.size := (Array.getElem?_eq_some_iff.1 hf).1
  have := h j (List.mem_range.2 hj)
  rw [hf] at this
  simp only [Bool.and_eq_true, beq_iff_eq] at this
  obtain ⟨⟨a, b⟩, c⟩ := this
  have key : ∀ u : Option TypeDesc, (match u with | some (.int .i64) => true | _ => false) = true → u = some (.int .i64) := by
    intro u hu
    split at hu
    · rfl
    · cases hu
  exact ⟨a, key _ b, c⟩
theorem fieldsV_ok : ∀ (j : Nat) (f : Field), fieldsV[j]? = some f → f.offset = j ∧ Tryz.prog.underlying f.type = some (.int .i64) ∧ Tryz.prog.cellsOf f.type = 1 := plainFields_ok (by kernel_rfl)
theorem fieldsR_ok : ∀ (j : Nat) (f : Field), fieldsR[j]? = some f → f.offset = j ∧ Tryz.prog.underlying f.type = some (.int .i64) ∧ Tryz.prog.cellsOf f.type = 1 := plainFields_ok (by kernel_rfl)
theorem kindsN : Tryz.prog.globalNamed "partita/value.kinds" = some 1 := by kernel_rfl
theorem dottedN : Tryz.prog.globalNamed "partita/value.dotted" = some 0 := by kernel_rfl

/-- An array of structs of numbers: its cells, one by one. -/
theorem cells_of_rows {H : Type} {enc : TypeId × Value → H} {P : Program} {w : World} {base : Nat} {sp : Nat → Bool} {held : Bool} {fuel : Nat} {t e : TypeId} {n m : Nat} {fs : Array Field} {cs : List Value} {rows : List (List Int)} {p : List MemPlace}
    (ht : P.underlying t = some (.array n e)) (he : P.underlying e = some (.struct fs)) (hce : P.cellsOf e = m) (hm : fs.size = m)
    (hfs : ∀ (j : Nat) (f : Field), fs[j]? = some f → f.offset = j ∧ P.underlying f.type = some (.int .i64) ∧ P.cellsOf f.type = 1)
    (h : DataW.trod enc P w base sp held fuel t cs = some (.agg (rows.map fun r => .agg (r.map fun z => .lit (.int .i64 z))), p)) :
    ∀ i j, i < n → j < m → cs[i * m + j]? = some (.int .i64 ((rows.getD i []).getD j 0)) := by
  intro i j hi hj
  obtain ⟨xs, k, _, hx, hl, hxn, hel⟩ := DataW.trod_array ht h
  have hxi : xs[i]? = some xs[i] := List.getElem?_eq_getElem (by omega)
  have h1 := hel i hi
  rw [hxi] at h1
  have hrow : (xs[i]).1 = .agg ((rows.getD i []).map fun z => .lit (.int .i64 z)) := by
    have e0 := congrArg Prod.fst hx
    simp only [DataW.agg.injEq] at e0
    have e1 := congrArg (·[i]?) e0
    simp only [List.getElem?_map, hxi, Option.map_some] at e1
    cases hr : rows[i]? with
    | none => rw [hr] at e1; cases e1
    | some r =>
      rw [hr] at e1
      simp only [Option.map_some, Option.some.injEq] at e1
      rw [← e1, List.getD_eq_getElem?_getD, hr]; rfl
  obtain ⟨ys, k', _, hy, hl2, hyn, hf⟩ := DataW.trod_struct he h1
  have hfj : fs[j]? = some fs[j] := Array.getElem?_eq_getElem (by omega)
  obtain ⟨o1, o2, o3⟩ := hfs j fs[j] hfj
  have h2 := hf j fs[j] hfj
  rw [o1, o3, List.drop_take, List.drop_drop, List.take_take] at h2
  have hyj : ys[j]? = some ys[j] := List.getElem?_eq_getElem (by omega)
  rw [hyj] at h2
  obtain ⟨z, hz, hz2, _⟩ := DataW.trod_int o2 h2
  have hzj : (rows.getD i [])[j]? = some z := by
    have e0 := congrArg Prod.fst hy
    rw [hrow] at e0
    simp only [DataW.agg.injEq] at e0
    have e1 := congrArg (·[j]?) e0
    simp only [List.getElem?_map, hyj, Option.map_some] at e1
    rw [hz2] at e1
    cases hr : (rows.getD i [])[j]? with
    | none => rw [hr] at e1; cases e1
    | some r => rw [hr] at e1; simp at e1; rw [e1]
  rw [List.getD_eq_getElem?_getD (l := rows.getD i []), hzj]
  have := congrArg (·[0]?) hz
  simp only [List.getElem?_take, List.getElem?_drop, hce] at this
  rw [if_pos (by omega)] at this
  simpa using this

theorem cell_of_rows {W : World} {name : String} {g : Nat} {t e : TypeId} {n m : Nat} {fs : Array Field} {rows : List (List Int)} {zs : List Int} {rest : List (String × DataW Unit)} (hg : Tryz.prog.globalNamed name = some g) (hty : (Tryz.prog.globals[g]?).map (·.type) = some t)
    (ht : Tryz.prog.underlying t = some (.array n e)) (he : Tryz.prog.underlying e = some (.struct fs)) (hce : Tryz.prog.cellsOf e = m) (hm : fs.size = m) (hpos : 0 < m)
    (hfs : ∀ (j : Nat) (f : Field), fs[j]? = some f → f.offset = j ∧ Tryz.prog.underlying f.type = some (.int .i64) ∧ Tryz.prog.cellsOf f.type = 1)
    (hz : ∀ i, i < n * m → (rows.getD (i / m) []).getD (i % m) 0 = zs.getD i 0)
    (h : laidMet Tryz.prog ((name, .agg (rows.map fun r => .agg (r.map fun z => .lit (.int .i64 z)))) :: rest) W) : ∀ i, i < n * m → W.cell? ⟨g, i, none⟩ = some (.int .i64 (zs.getD i 0)) := by
  intro i hi
  obtain ⟨ps, ⟨g', t', cs, fuel, p, q, hg', ht', hvar, hd, _, _⟩, _⟩ := h
  obtain rfl := Option.some.inj (hg.symm.trans hg')
  obtain rfl := Option.some.inj (hty.symm.trans ht')
  have hc := cells_of_rows ht he hce hm hfs hd (i / m) (i % m) (Nat.div_lt_of_lt_mul (by rw [Nat.mul_comm]; exact hi)) (Nat.mod_lt _ hpos)
  rw [Nat.div_add_mod' i m, hz i hi] at hc
  rw [World.var?_cell hg hvar i]
  simpa using hc

theorem GW.of_laid {W : World} (h : laidMetH Tryz.prog Rows.valueTellsRow.laid W) (hsh : W.ShapedOpen Tryz.prog) : GW W := by
  have h1 : laidMetH Tryz.prog [("internal/strconv.uint64pow10", Rows.laid_internal_strconv_uint64pow10)] W := laidMetH.filter (fun x => x.1 == "internal/strconv.uint64pow10") h
  have h2 : laidMetH Tryz.prog [("strconv.ErrSyntax", Rows.laid_strconv_ErrSyntax)] W := laidMetH.filter (fun x => x.1 == "strconv.ErrSyntax") h
  have h3 : laidMetH Tryz.prog [("strconv.ErrRange", Rows.laid_strconv_ErrRange)] W := laidMetH.filter (fun x => x.1 == "strconv.ErrRange") h
  have h4 : laidMetH Tryz.prog [("partita/value.kinds", Rows.laid_partita_value_kinds)] W := laidMetH.filter (fun x => x.1 == "partita/value.kinds") h
  have h5 : laidMetH Tryz.prog [("partita/value.dotted", Rows.laid_partita_value_dotted)] W := laidMetH.filter (fun x => x.1 == "partita/value.dotted") h
  rw [MakeChecks.laidMetH_plain _ _ _ (by kernel_rfl)] at h1 h2 h3 h4 h5
  obtain ⟨a1, _, hv1, _⟩ := laid_sentinel h2 synN synT Tryz.underlying49 errRow Tryz.underlying128 Tryz.underlying130 rfl rfl Tryz.underlying9 errC strC
  obtain ⟨a2, _, hv2, _⟩ := laid_sentinel h3 rngN rngT Tryz.underlying49 errRow Tryz.underlying128 Tryz.underlying130 rfl rfl Tryz.underlying9 errC strC
  have f4 : ∀ (j : Nat) (f : Field), (fieldsV)[j]? = some f → f.offset = j ∧ Tryz.prog.underlying f.type = some (.int .i64) ∧ Tryz.prog.cellsOf f.type = 1 := fieldsV_ok
  have f5 : ∀ (j : Nat) (f : Field), (fieldsR)[j]? = some f → f.offset = j ∧ Tryz.prog.underlying f.type = some (.int .i64) ∧ Tryz.prog.cellsOf f.type = 1 := fieldsR_ok
  exact ⟨⟨Lib.tabIs_of_head (zs := Lib.pow10Tab) pow10N powT Tryz.underlying132 Tryz.underlying60 powC powC20 h1, cell_of_shapedOpen_int hsh (g := 2) (t := 3) (zero := #[.int .i64 0]) (of_decide_eq_true (by kernel_rfl)) (by kernel_rfl) rfl (by kernel_rfl) (by kernel_rfl) Tryz.underlying3, ⟨_, _, hv1⟩, ⟨_, _, hv2⟩⟩,
    cell_of_rows (t := 63) (n := 4) (m := 4) (rows := [[0, 0, 0, 0], [0, 0, 3, 2], [0, 0, 5, 4], [0, 0, 7, 4]]) (zs := kindTab) kindsN (by kernel_rfl) (by kernel_rfl) fieldsV_is (by kernel_rfl) (by kernel_rfl) (by decide) f4 (by decide) h4,
    cell_of_rows (t := 57) (n := 3) (m := 2) (rows := [[1, 1], [3, 2], [7, 4]]) (zs := dotTab) dottedN (by kernel_rfl) (by kernel_rfl) fieldsR_is (by kernel_rfl) (by kernel_rfl) (by decide) f5 (by decide) h5⟩

/-- A row's contract, the listed variables and the world's shape at hand. -/
theorem returns_shaped {H : Type} {enc : TypeId × Value → H} {a : Assume} {C : Checked} {os : Os} {f : FuncId} {fn : Func} {s : ChangeSpec} {conds : List PathCond} {apart fresh handsOn again : Bool} {X : World → Array Value → Prop}
    (hX : ∀ (w w' : World) (args : Array Value), w.heap = w'.heap → X w args → X w' args)
    (own : ownKnob C.prog.godebug = none) (started : os.Started) (noInit : C.prog.inits.idxOf? f = none) (hfn : C.prog.funcs[f]? = some fn)
    (witness : ∃ (w : World) (tape : Tape) (i : Input), w.os = os ∧ (w.forCall tape i).Shaped C.prog ∧ i.vars = [] ∧ Input.okWide C.prog (w.forCall tape i) .any w.heap.size f i ∧
      ((s.pre enc C.prog fn conds apart (w.forCall tape i).memory i.args ∧ X (w.forCall tape i).memory i.args) ∧ sizedMet enc C.prog fn (OpenSpec.ofChange s) apart (w.forCall tape i).memory i.args) ∧ a.holds C.prog (lone (Frame.enter C.prog f i.args .normal) [] (w.forCall tape i)))
    (contract : ∀ (W : World) (base : Nat) (args : Array Value) (ds gs : List (DataW H)) (before : List MemPlace),
      (∀ (j : Nat) t v, fn.params[j]? = some t → args[j]? = some v → Value.okWide C.prog W .any base t v) →
      DataW.Whole enc C.prog fn.params.toList s.vars apart W args.toList ds gs before →
      conds.all (PathCond.test C.prog ⟨fn.params.toList, ds, s.plain.varTypes C.prog, gs⟩) = true →
      (DataW.weightsEach C.prog (fn.params.toList ++ s.plain.varTypes C.prog) (ds ++ gs)).all (· ≤ reachBytes) = true → X W args → W.ShapedOpen C.prog →
      Calls C.prog f args W fun e W' => ∃ v, e = .returned v ∧ s.post enc C.prog fn apart fresh handsOn again W args v W') :
    ReturnsInHanded a C os f .any (fun w args => (s.pre enc C.prog fn conds apart w args ∧ X w args) ∧ sizedMet enc C.prog fn (OpenSpec.ofChange s) apart w args) (s.post enc C.prog fn apart fresh handsOn again) := by
  refine returnsInHanded_of_calls own started noInit witness ?_
  intro w tape i _ hsh _ hok hpre _
  obtain ⟨_, _, _, fn', hfn', _, _, _, _, hval⟩ := hok
  obtain rfl : fn' = fn := Option.some.inj (hfn'.symm.trans hfn)
  obtain ⟨⟨⟨ds, gs, before, hw, hc⟩, hx⟩, hz⟩ := hpre
  have hw' := DataW.Whole.of_heap (w' := w.forCall tape i) (by rfl) hw
  refine (contract (w.forCall tape i) w.heap.size i.args ds gs before hval hw' hc (hz.weights hw) (hX _ _ _ (by rfl) hx) hsh).mono fun e W' ⟨v, he, hp⟩ => ?_
  subst he
  exact ChangeSpec.post_blind hp
end Go.Proofs.YtajbnfidcpfonaaGreatDoor.M
