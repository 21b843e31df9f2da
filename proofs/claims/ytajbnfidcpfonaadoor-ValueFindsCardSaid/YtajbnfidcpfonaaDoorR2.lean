/- The small machine's quiet operations do what the model's do. -/
import Derived.Test.YtajbnfidcpfonaaDoorR1
namespace Go.Proofs.Rx
open Go Go.RowKit
set_option linter.unusedVariables false
set_option linter.unusedSimpArgs false

/-! ### laid open is the same -/
theorem forceL_eq {α β : Type} : ∀ (l : List α) (k : List α → Option β), forceL l k = k l
  | [], k => rfl
  | a :: l, k => by simp only [forceL]; exact forceL_eq l _
theorem head1_eq {β : Type} (a : AV) (k : AV → Option β) : head1 a k = k a := by cases a <;> rfl
theorem forceC_eq {β : Type} : ∀ (l : List AV) (k : List AV → Option β), forceC l k = k l
  | [], k => rfl
  | a :: l, k => by simp only [forceC, head1_eq]; exact forceC_eq l _
theorem headK_eq {β : Type} (a : AV) (k : AV → Option β) : headK a k = k a := by
  cases a <;> simp only [headK, forceC_eq]

section
variable {P : Program} {G : Gh} {w : World}

theorem run_isAggT {t : TypeId} {b : Bool} (h : isAggT P t = some b) (w : World) : (isAgg t).run P w = .ok b w := by
  unfold isAggT at h
  unfold isAgg
  cases hu : P.underlying t with
  | none => simp [hu] at h
  | some d =>
    rw [hu] at h
    rw [Sem.run_bind, run_underlying hu w, Result.andThen_ok]
    cases d <;> simp at h <;> subst h <;> rfl

theorem run_szT {t : TypeId} {n : Nat} (h : szT P t = some n) (w : World) : (sizeOf t).run P w = .ok n w := by
  unfold szT at h
  cases hq : P.info? t with
  | none => simp [hq] at h
  | some i => simp [hq] at h; subst h; simp [sizeOf, typeInfo, hq]

theorem run_partA {t : TypeId} {l : List AV} {off : Nat} {av : AV} (h : partA P t l off = some av) {cs : Array Value} (hl : AV.isL G w l cs.toList) (w' : World) :
    ∃ v, (part t cs off).run P w' = .ok v w' ∧ av.is G w v := by
  unfold partA at h
  cases ha : isAggT P t with
  | none => simp [ha] at h
  | some b =>
    cases b with
    | true =>
      cases hn : szT P t with
      | none => simp [ha, hn] at h
      | some n =>
        simp only [ha, hn] at h
        split at h
        · cases h
          refine ⟨.agg (cs.extract off (off + n)), by simp [part, run_isAggT ha w', run_szT hn w'], ?_⟩
          simp only [AV.is]
          refine ⟨_, rfl, ?_⟩
          rw [Array.toList_extract]
          have := isL_take (isL_drop hl off) n
          simpa [List.extract_eq_take_drop] using this
        · cases h
    | false =>
      simp only [ha] at h
      obtain ⟨v, hv, k⟩ := isL_get hl off av h
      refine ⟨v, ?_, k⟩
      have hv' : cs[off]? = some v := by simpa using hv
      simp [part, run_isAggT ha w', hv']

theorem add_addr (b o n : Nat) : (⟨b, o, none⟩ : Addr).add n = ⟨b, o + n, none⟩ := by unfold Addr.add; split <;> simp_all

theorem run_loadA {B : Nat} {h : Hp} (H : HRep G B h w) {t : TypeId} {p av : AV} (hl : loadA P h t p = some av) {v : Value} (hp : p.is G w v) :
    ∃ u, (Instr.loadAt t v).run P w = .ok u w ∧ av.is G w u := by
  unfold loadA at hl
  cases p <;> simp only at hl <;> try (cases hl; done)
  case ptr b o =>
    simp only [AV.is] at hp
    obtain ⟨hb, rfl⟩ := hp
    cases hk : h[b]? with
    | none => simp [hk] at hl
    | some k =>
      simp only [hk] at hl
      obtain ⟨⟨c, hc, hcl⟩, _⟩ := H.blk b k hk
      have hcell : ∀ j, w.cell? ⟨G.at_ b, j, none⟩ = c.toList[j]? := fun j => by simp [World.cell?, hc]
      unfold partA at hl
      cases ha : isAggT P t with
      | none => simp [ha] at hl
      | some q =>
        cases q with
        | true =>
          cases hn : szT P t with
          | none => simp [ha, hn] at hl
          | some n =>
            simp only [ha, hn] at hl
            split at hl
            · rename_i hle
              cases hl
              have hlen := isL_len hcl
              have hcs := run_loadCells_list (P := P) w ⟨G.at_ b, o, none⟩ ((c.toList.drop o).take n) (fun j u hj => by
                rw [add_addr, hcell]
                rw [List.getElem?_take] at hj
                split at hj
                · rw [List.getElem?_drop] at hj; exact hj
                · cases hj)
              have hll : ((c.toList.drop o).take n).length = n := by simp at hlen ⊢; omega
              rw [hll] at hcs
              refine ⟨.agg ((c.toList.drop o).take n).toArray, by simp [Instr.loadAt, Instr.sureAddr, loadVar, run_isAggT ha w, run_szT hn w, hcs], ?_⟩
              simp only [AV.is]
              exact ⟨_, rfl, by simpa using isL_take (isL_drop hcl o) n⟩
            · cases hl
        | false =>
          simp only [ha] at hl
          obtain ⟨u, hu, k'⟩ := isL_get hcl o av hl
          refine ⟨u, ?_, k'⟩
          simp [Instr.loadAt, Instr.sureAddr, loadVar, run_isAggT ha w, hcell, hu]

/-! ### building -/
theorem foldl_lay (off : Nat) : ∀ (vs : List Value) (k : Nat) (c : Array Value), off + k + vs.length ≤ c.size →
    ((vs.zipIdx k).foldl (fun cs p => cs.setIfInBounds (off + p.2) p.1) c).toList = c.toList.take (off + k) ++ vs ++ c.toList.drop (off + k + vs.length)
  | [], k, c, h => by simp
  | v :: vs, k, c, h => by
    simp only [List.zipIdx_cons, List.foldl_cons]
    rw [foldl_lay off vs (k + 1) _ (by simp at h ⊢; omega)]
    have e := list_seg_step c.toList (off + k) v vs (by simp at h ⊢; omega)
    simpa [Array.toList_setIfInBounds, Nat.add_assoc] using e

theorem fill_is {place place' : Nat → Option (Nat × Nat)} (hpl : ∀ i, place' i = place i) : ∀ (parts : List (Nat × AV)) (vparts : List (Nat × Value)) (l : List AV) (cs : Array Value) (r : List AV),
    vparts.map (·.1) = parts.map (·.1) → AV.isL G w (parts.map (·.2)) (vparts.map (·.2)) → AV.isL G w l cs.toList → fillA place l parts = some r →
    ∃ rs, Instr.fill place' cs vparts = some rs ∧ AV.isL G w r rs.toList
  | [], vparts, l, cs, r, hi, hp, hl, h => by
    simp at hi; subst hi
    simp only [fillA] at h; cases h
    exact ⟨cs, rfl, hl⟩
  | (i, a) :: parts, [], l, cs, r, hi, hp, hl, h => by simp at hi
  | (i, a) :: parts, (i', v) :: vparts, l, cs, r, hi, hp, hl, h => by
    simp only [List.map_cons, List.cons.injEq] at hi
    obtain ⟨rfl, hi⟩ := hi
    simp only [List.map_cons, AV.isL] at hp
    obtain ⟨v', rest, e, ha, hrest⟩ := hp
    cases e
    simp only [fillA] at h
    simp only [Instr.fill, hpl]
    cases hq : place i' with
    | none => simp [hq] at h
    | some q =>
      obtain ⟨off, size⟩ := q
      simp only [hq] at h ⊢
      split at h
      · rename_i hc
        simp only [Bool.and_eq_true, beq_iff_eq, decide_eq_true_eq] at hc
        obtain ⟨⟨hk, hsz⟩, hle⟩ := hc
        obtain ⟨hcl, _⟩ := cells_is hk ha
        have hlen := isL_len hcl
        have hlen2 := isL_len hl
        have h1 : v.cells.size = size := by simp at hlen; omega
        have h2 : off + v.cells.size ≤ cs.size := by simp at hlen2; omega
        rw [if_neg (by simp [h1]; omega)]
        refine fill_is hpl parts vparts _ _ r hi hrest ?_ h
        have e : (Array.foldl (fun cs x => cs.setIfInBounds (off + x.2) x.1) cs v.cells.zipIdx).toList = cs.toList.take off ++ v.cells.toList ++ cs.toList.drop (off + size) := by
          rw [← Array.foldl_toList, Array.toList_zipIdx]
          have := foldl_lay off v.cells.toList 0 cs (by simp; omega)
          simpa [h1] using this
        have e2 : (v.cells.zipIdx.foldl (fun cs (x : Value × Nat) => match x with | (c, j) => cs.setIfInBounds (off + j) c) cs).toList = cs.toList.take off ++ v.cells.toList ++ cs.toList.drop (off + size) := e
        rw [e2]
        exact isL_append (isL_append (isL_take hl off) hcl) (isL_drop hl (off + size))
      · cases h

theorem run_buildA {t : TypeId} {parts : List (Nat × AV)} {av : AV} (h : buildA P t parts = some av) {vparts : Array (Nat × Value)} (hi : vparts.toList.map (·.1) = parts.map (·.1))
    (hp : AV.isL G w (parts.map (·.2)) (vparts.toList.map (·.2))) (w' : World) : ∃ v, (Instr.build t vparts).run P w' = .ok v w' ∧ av.is G w v := by
  unfold buildA at h
  cases hit : P.info? t with
  | none => simp [hit] at h
  | some it =>
    cases hu : P.underlying t with
    | none => simp [hit, hu] at h
    | some d =>
      rw [hit, hu] at h
      cases d <;> try (simp at h; done)
      case array n e =>
        simp only at h
        cases hz : it.zero with
        | none => simp [hz] at h
        | some z =>
          cases hie : P.info? e with
          | none => simp [hz, hie] at h
          | some ie =>
            simp only [hz, hie, Option.map_eq_some_iff] at h
            obtain ⟨r, hr, rfl⟩ := h
            obtain ⟨rs, hrs, k⟩ := fill_is (G := G) (w := w) (fun _ => rfl) parts vparts.toList _ z.cells r hi hp (ofCs_is G w _) hr
            exact ⟨.agg rs, run_build w' t vparts rs (by simp [Program.built, hit, hu, hz, hie, hrs]), by simp only [AV.is]; exact ⟨_, rfl, k⟩⟩
      case struct fs =>
        simp only at h
        cases hz : it.zero with
        | none => simp [hz] at h
        | some z =>
          cases hpl : fs.toList.mapM (fun f => (P.info? f.type).map fun i => (f.offset, i.size)) with
          | none => simp [hz, hpl] at h
          | some places =>
            simp only [hz, hpl, Option.map_eq_some_iff] at h
            obtain ⟨r, hr, rfl⟩ := h
            obtain ⟨rs, hrs, k⟩ := fill_is (G := G) (w := w) (place' := fun i => places.toArray[i]?) (fun i => by simp) parts vparts.toList _ z.cells r hi hp (ofCs_is G w _) hr
            exact ⟨.agg rs, run_build w' t vparts rs (by simp only [Program.built, hit, hu, hz, hpl]; exact hrs), by simp only [AV.is]; exact ⟨_, rfl, k⟩⟩

/-! ### equality -/
theorem run_eqCell {t : TypeId} {x y : AV} {b : Bool} (h : eqCell P t x y = some b) {u v : Value} (hx : x.is G w u) (hy : y.is G w v) (d : Nat) (w' : World) :
    (Op.equalIn (d + 1) t u v).run P w' = .ok b w' := by
  unfold eqCell at h
  cases x <;> cases y <;> simp only at h <;> try (cases h; done)
  case int k a k' a' =>
    simp only [AV.is] at hx hy; subst hx; subst hy
    cases hu : P.underlying t with
    | none => simp [hu] at h
    | some q =>
      cases q <;> simp [hu] at h
      obtain ⟨rfl, rfl⟩ := h
      exact run_equalIn_int w' d t k _ a a' hu
  case bool a a' =>
    simp only [AV.is] at hx hy; subst hx; subst hy
    cases hu : P.underlying t with
    | none => simp [hu] at h
    | some q =>
      cases q <;> simp [hu] at h
      subst h
      exact run_equalIn_bool w' d t a a' hu
  case str a a' =>
    simp only [AV.is] at hx hy; subst hx; subst hy
    cases hu : P.underlying t with
    | none => simp [hu] at h
    | some q =>
      cases q <;> simp [hu] at h
      subst h
      exact run_equalIn_string w' d t a a' hu

theorem run_eqFields {xs ys : List AV} {us vs : Array Value} (hx : AV.isL G w xs us.toList) (hy : AV.isL G w ys vs.toList) (d : Nat) (w' : World) :
    ∀ (fs : List Field) (b : Bool), eqFieldsA P xs ys fs = some b → (Op.eqFields (d + 1) us vs fs).run P w' = .ok b w'
  | [], b, h => by simp only [eqFieldsA] at h; cases h; simp [Op.eqFields]
  | f :: fs, b, h => by
    simp only [eqFieldsA] at h
    split at h
    · cases h
    · rename_i hn
      have hne : f.name ≠ "_" := by simpa using hn
      cases ha : isAggT P f.type with
      | none => simp [ha] at h
      | some q =>
        cases q with
        | true => simp [ha] at h
        | false =>
          cases hxo : xs[f.offset]? with
          | none => simp [ha, hxo] at h
          | some x =>
            cases hyo : ys[f.offset]? with
            | none => simp [ha, hxo, hyo] at h
            | some y =>
              simp only [ha, hxo, hyo] at h
              cases hc : eqCell P f.type x y with
              | none => simp [hc] at h
              | some p =>
                cases hr : eqFieldsA P xs ys fs with
                | none => simp [hc, hr] at h
                | some q =>
                  simp only [hc, hr] at h
                  cases h
                  obtain ⟨u, hu, ku⟩ := isL_get hx _ _ hxo
                  obtain ⟨v, hv, kv⟩ := isL_get hy _ _ hyo
                  have e1 : (part f.type us f.offset).run P w' = .ok u w' := by
                    have : us[f.offset]? = some u := by simpa using hu
                    simp [part, run_isAggT ha w', this]
                  have e2 : (part f.type vs f.offset).run P w' = .ok v w' := by
                    have : vs[f.offset]? = some v := by simpa using hv
                    simp [part, run_isAggT ha w', this]
                  have e3 := run_eqCell hc ku kv d w'
                  have ih := run_eqFields hx hy d w' fs q hr
                  simp only [Op.eqFields, hne, ne_eq, not_false_eq_true, if_true, Sem.run_bind, e1, e2, e3, Result.andThen_ok, Sem.run_ite, ih, Sem.run_pure]
                  cases p <;> simp

theorem run_eqA {t : TypeId} {x y : AV} {b : Bool} (h : eqA P t x y = some b) {u v : Value} (hx : x.is G w u) (hy : y.is G w v) (ox oy : Operand) (w' : World) :
    ((eqGuard .eql t ox oy u v).run P w' = .ok () w' ∧ (binOp .eql t u v).run P w' = .ok (.bool b) w') ∧
    ((eqGuard .neq t ox oy u v).run P w' = .ok () w' ∧ (binOp .neq t u v).run P w' = .ok (.bool (!b)) w') := by
  unfold eqA at h
  cases x <;> cases y <;> simp only at h <;> try (cases h; done)
  case agg xs ys =>
    simp only [AV.is] at hx hy
    obtain ⟨us, rfl, hx⟩ := hx
    obtain ⟨vs, rfl, hy⟩ := hy
    cases hu : P.underlying t with
    | none => simp [hu] at h
    | some q =>
      cases q <;> simp [hu] at h
      rename_i fs
      obtain ⟨⟨hs, hg⟩, h⟩ := h
      have hf : P.fieldsOf t = fs := by simp [Program.fieldsOf, hu]
      have e := run_equalIn_struct w' 9999 t us vs (by rw [hf]; exact hu) hs
      rw [hf, run_eqFields hx hy 9998 w' fs.toList b h] at e
      refine ⟨⟨run_eqGuard_agg w' _ t ox oy us vs hg, ?_⟩, ⟨run_eqGuard_agg w' _ t ox oy us vs hg, ?_⟩⟩
      · rw [run_eql_struct, e]; rfl
      · rw [run_neq_struct, e]; rfl
  case int k a k' a' =>
    simp only [AV.is] at hx hy; subst hx; subst hy
    split at h
    · rename_i hk; subst hk; cases h
      refine ⟨⟨by simp [eqGuard], ?_⟩, ⟨by simp [eqGuard], ?_⟩⟩ <;> simp [binOp, Op.intCmp, bne]
    · cases h
  case bool a a' =>
    simp only [AV.is] at hx hy; subst hx; subst hy
    cases hu : P.underlying t with
    | none => simp [hu] at h
    | some q =>
      cases q <;> simp [hu] at h
      subst h
      have e := run_equalIn_bool (P := P) w' 9999 t a a' hu
      refine ⟨⟨by simp [eqGuard], ?_⟩, ⟨by simp [eqGuard], ?_⟩⟩
      · simp [binOp, Op.equal, Op.maxDepth, e]
      · simp [binOp, Op.equal, Op.maxDepth, e]
  case str a a' =>
    simp only [AV.is] at hx hy; subst hx; subst hy
    cases h
    refine ⟨⟨by simp [eqGuard], ?_⟩, ⟨by simp [eqGuard], ?_⟩⟩ <;> simp [binOp, Op.stringOp]

end

/-! ### a quiet operation -/
/-- A callee has answered: more may be known, and no old memory has turned. -/
structure After (G : Gh) (w : World) (G' : Gh) (w' : World) : Prop where
  n : G'.n = G.n
  at_ : G'.at_ = G.at_
  imm : ∀ b o, G.imm b o → G'.imm b o
  old : ∀ b o, b < w.heap.size → G'.imm b o → G.imm b o
  new : ∀ b o, G'.imm b o → b < w'.heap.size
  below : Below w.heap.size w w'

def TellsOk (P : Program) (GW : World → Prop) (f : Nat) (s : Tells) : Prop :=
  (∀ args w, (callFunc f args).run P w = .ok (.enter f args) w) ∧
  ∀ (args : List AV) (τ : Type) (x : Option τ) (out : τ → AV) (r : τ), s args = some (.mk τ x out) → x = some r → ∀ (G : Gh) (w : World) (vs : Array Value), GW w → (∀ b o, G.imm b o → b < w.heap.size) →
    AV.isL G w args vs.toList → Calls P f vs w fun e w' => ∃ G' v, e = .returned v ∧ After G w G' w' ∧ (out r).is G' w' v

def AllOk (P : Program) (GW : World → Prop) (Γ : List (Nat × Tells)) : Prop := ∀ f s, Γ.lookup f = some s → TellsOk P GW f s

/-- Two memories of which one may know more blocks. -/
def Compat (h h2 : Hp) : Prop := ∀ b : Nat, b < h2.length → b < h.length → h2[b]? = h[b]?
theorem Compat.refl (h : Hp) : Compat h h := fun _ _ _ => rfl
theorem Compat.get {h h2 : Hp} (hc : Compat h h2) {b : Nat} {k : Blk} (hk : h[b]? = some k) (hb : b < h2.length) : h2[b]? = some k := by
  rw [hc b hb (List.getElem?_eq_some_iff.1 hk).1]; exact hk

def QOk (P : Program) (GW : World → Prop) (h : Hp) (o : Oper) (e : Operand → AV) (av : AV) : Prop :=
  ∀ (B : Nat) (G : Gh) (w : World) (a : Act) (next : Act → World → Prop) (Q : Exit → Act → World → Prop) (h2 : Hp), (readsM o.op = true → Compat h h2) → HRep G B h2 w → GW w → (∀ x ∈ o.op.operands, (e x).is G w (a.eval x)) →
    (∀ (G' : Gh) (v : Value) (w' : World), HRep G' B h2 w' → G.le w G' w' → After G w G' w' → av.is G' w' v → next (a.put o.dst v) w') → o.wp P a w next Q

theorem QOk.of_run {P : Program} {GW : World → Prop} {h : Hp} {o : Oper} {e : Operand → AV} {av : AV}
    (hr : ∀ (B : Nat) (G : Gh) (w : World) (ρ : Operand → Value) (h2 : Hp), (readsM o.op = true → Compat h h2) → HRep G B h2 w → (∀ x ∈ o.op.operands, (e x).is G w (ρ x)) → ∃ v, (execOp ρ o).run P w = .ok (.value v) w ∧ av.is G w v) : QOk P GW h o e av := by
  intro B G w a next Q h2 hcp H _ hop hk
  obtain ⟨v, hrun, hv⟩ := hr B G w a.eval h2 hcp H hop
  unfold Oper.wp
  rw [hrun]
  exact hk G v w H (Gh.le.refl G w) ⟨rfl, rfl, fun _ _ q => q, fun _ _ _ q => q, H.imm, Below.refl _ _⟩ hv

section
variable {α : Type} {P : Program} {GW : World → Prop} {r : α} {h : Hp} {e : Operand → AV}

theorem int_sound {op : BinOp} {i j : IntKind} {a b : Int} {t : TypeId} {x y : Operand} {k : AV → Option α} (h1 : op ≠ .eql) (h2 : op ≠ .neq) (hq : intA op i a j b k = some r) :
    ∃ av, k av = some r ∧ ∀ (G : Gh) (w : World), ∃ z, (eqGuard op t x y (.int i a) (.int j b)).run P w = .ok () w ∧ (binOp op t (.int i a) (.int j b)).run P w = .ok z w ∧ av.is G w z := by
  unfold intA at hq
  cases op <;> simp only at hq <;> try (first | exact absurd rfl h1 | exact absurd rfl h2 | cases hq; done)
  all_goals
    repeat' (split at hq <;> try (cases hq; done))
  all_goals
    refine ⟨_, hq, fun G w => ⟨_, by simp [eqGuard], ?_, by simp only [AV.is]; rfl⟩⟩
    clear hq
    first
      | (rename_i hk; subst hk; simp [binOp, Op.intArith, Op.intCmp]; done)
      | (rename_i hk hb; subst hk; simp [binOp, Op.intDiv, hb]; done)
      | (rename_i hb; simp [binOp, Op.shift, Int.not_lt.2 hb]; done)

theorem str_sound {op : BinOp} {a b : ByteArray} {t : TypeId} {x y : Operand} {k : AV → Option α} (h1 : op ≠ .eql) (h2 : op ≠ .neq) (hq : strA op a b k = some r) :
    ∃ av, k av = some r ∧ ∀ (G : Gh) (w : World), ∃ z, (eqGuard op t x y (.string a) (.string b)).run P w = .ok () w ∧ (binOp op t (.string a) (.string b)).run P w = .ok z w ∧ av.is G w z := by
  unfold strA at hq
  cases op <;> simp only at hq <;> try (first | exact absurd rfl h1 | exact absurd rfl h2 | cases hq; done)
  all_goals
    repeat' (split at hq <;> try (cases hq; done))
  all_goals
    refine ⟨_, hq, fun G w => ⟨_, by simp [eqGuard], ?_, by simp only [AV.is]; rfl⟩⟩
    clear hq
    first
      | (simp [binOp, Op.stringOp]; done)
      | (rename_i hb; simp only [binOp, Op.stringOp]; rw [if_neg hb]; rfl)

theorem bin_sound {op : BinOp} {t yt : TypeId} {x y : Operand} {k : AV → Option α} (hq : binA P op t (e x) (e y) k = some r) :
    ∃ av, k av = some r ∧ ∀ o : Oper, o.op = .binOp op t x y yt → QOk P GW h o e av := by
  have fin : ∀ av, k av = some r → (∀ (G : Gh) (w : World) (u v : Value), (e x).is G w u → (e y).is G w v → ∃ z, (eqGuard op t x y u v).run P w = .ok () w ∧ (binOp op t u v).run P w = .ok z w ∧ av.is G w z) →
      ∃ av, k av = some r ∧ ∀ o : Oper, o.op = .binOp op t x y yt → QOk P GW h o e av := fun av hk hz =>
    ⟨av, hk, fun o ho => QOk.of_run fun B G w ρ hp2 hcp H hop => by
      obtain ⟨z, h1, h2, h3⟩ := hz G w (ρ x) (ρ y) (hop x (by simp [ho, Op.operands])) (hop y (by simp [ho, Op.operands]))
      exact ⟨z, by simp [execOp, ho, h1, h2], h3⟩⟩
  by_cases h1 : op = .eql
  · subst h1
    simp only [binA] at hq
    cases hb : eqA P t (e x) (e y) with
    | none => simp [hb] at hq
    | some b =>
      simp only [hb] at hq
      exact fin _ hq fun G w u v hu hv => ⟨_, (run_eqA hb hu hv x y w).1.1, (run_eqA hb hu hv x y w).1.2, by simp [AV.is]⟩
  by_cases h2 : op = .neq
  · subst h2
    simp only [binA] at hq
    cases hb : eqA P t (e x) (e y) with
    | none => simp [hb] at hq
    | some b =>
      simp only [hb] at hq
      exact fin _ hq fun G w u v hu hv => ⟨_, (run_eqA hb hu hv x y w).2.1, (run_eqA hb hu hv x y w).2.2, by simp [AV.is]⟩
  have hq' : (match e x, e y with
    | .int i a, .int j b => intA op i a j b k
    | .str a, .str b => strA op a b k
    | _, _ => none) = some r := by
    unfold binA at hq
    cases op <;> first | exact absurd rfl h1 | exact absurd rfl h2 | exact hq
  clear hq
  split at hq'
  · rename_i i a j b hex hey
    obtain ⟨av, hk, hz⟩ := int_sound (P := P) (t := t) (x := x) (y := y) h1 h2 hq'
    refine fin av hk fun G w u v hu hv => ?_
    rw [hex] at hu; rw [hey] at hv
    simp only [AV.is] at hu hv; subst hu; subst hv
    exact hz G w
  · rename_i a b hex hey
    obtain ⟨av, hk, hz⟩ := str_sound (P := P) (t := t) (x := x) (y := y) h1 h2 hq'
    refine fin av hk fun G w u v hu hv => ?_
    rw [hex] at hu; rw [hey] at hv
    simp only [AV.is] at hu hv; subst hu; subst hv
    exact hz G w
  · cases hq'

theorem un_sound {op : UnOp} {t : TypeId} {x : Operand} {k : AV → Option α} (hq : unA op (e x) k = some r) :
    ∃ av, k av = some r ∧ ∀ o : Oper, o.op = .unOp op t x → QOk P GW h o e av := by
  unfold unA at hq
  split at hq
  · rename_i i n hex
    refine ⟨_, hq, fun o ho => QOk.of_run fun B G w ρ hp2 hcp H hop => ?_⟩
    have hu := hop x (by simp [ho, Op.operands])
    rw [hex] at hu; simp only [AV.is] at hu
    exact ⟨.int i (i.wrap (0 - n)), by simp [execOp, ho, hu, Op.unary, Op.intArith], by simp [AV.is]⟩
  · rename_i b hex
    refine ⟨_, hq, fun o ho => QOk.of_run fun B G w ρ hp2 hcp H hop => ?_⟩
    have hu := hop x (by simp [ho, Op.operands])
    rw [hex] at hu; simp only [AV.is] at hu
    exact ⟨.bool (!b), by simp [execOp, ho, hu, Op.unary], by simp [AV.is]⟩
  · cases hq

theorem pick_sound {c x y : Operand} {k : AV → Option α} (hq : pickA (e c) (e x) (e y) k = some r) :
    ∃ av, k av = some r ∧ ∀ o : Oper, o.op = .pick c x y → QOk P GW h o e av := by
  unfold pickA at hq
  split at hq
  · rename_i b hex
    cases b
    · refine ⟨_, hq, fun o ho => QOk.of_run fun B G w ρ hp2 hcp H hop => ?_⟩
      have hu := hop c (by simp [ho, Op.operands])
      rw [hex] at hu; simp only [AV.is] at hu
      exact ⟨ρ y, by simp [execOp, ho, hu, asBool], hop y (by simp [ho, Op.operands])⟩
    · refine ⟨_, hq, fun o ho => QOk.of_run fun B G w ρ hp2 hcp H hop => ?_⟩
      have hu := hop c (by simp [ho, Op.operands])
      rw [hex] at hu; simp only [AV.is] at hu
      exact ⟨ρ x, by simp [execOp, ho, hu, asBool], hop x (by simp [ho, Op.operands])⟩
  · cases hq

theorem bytesA_is {G : Gh} {w : World} : ∀ {l : List AV} {ns : List Int} {vs : List Value}, bytesA l = some ns → AV.isL G w l vs → vs = ns.map (.int .u8 ·)
  | [], ns, vs, h, hl => by simp only [bytesA] at h; cases h; simpa [AV.isL] using hl
  | a :: l, ns, vs, h, hl => by
    simp only [AV.isL] at hl
    obtain ⟨v, r, rfl, ha, hl⟩ := hl
    cases a with
    | int k n =>
      cases k with
      | u8 =>
        simp only [bytesA, Option.map_eq_some_iff] at h
        obtain ⟨ns', h, rfl⟩ := h
        simp only [AV.is] at ha
        rw [ha, bytesA_is h hl]; rfl
      | _ => simp [bytesA] at h
    | _ => simp [bytesA] at h

theorem foldl_bytes : ∀ (ns : List Int) (b : ByteArray), ns.foldl (fun r n => r.push (UInt8.ofNat n.toNat)) b = ⟨b.data ++ (ns.map fun n => UInt8.ofNat n.toNat).toArray⟩
  | [], b => by simp
  | n :: ns, b => by
    simp only [List.foldl_cons, List.map_cons]
    rw [foldl_bytes ns]
    congr 1
    apply Array.ext'
    simp [ByteArray.push]

theorem conv_sound {s d : TypeId} {x : Operand} {k : AV → Option α} (hq : convA P h s d (e x) k = some r) :
    ∃ av, k av = some r ∧ ∀ o : Oper, o.op = .convert s d x → QOk P GW h o e av := by
  unfold convA at hq
  split at hq
  · rename_i el b off n c hs hd hex
    split at hq
    · rename_i cb hel hb
      split at hq
      · rename_i hle
        split at hq
        · rename_i ns hns
          refine ⟨_, hq, fun o ho => QOk.of_run fun B G w ρ hp2 hcp H hop => ?_⟩
          have hu := hop x (by simp [ho, Op.operands])
          rw [hex] at hu; simp only [AV.is] at hu
          obtain ⟨hbn, hu⟩ := hu
          obtain ⟨⟨ca, hc, hcl⟩, _⟩ := H.blk b cb ((hcp (by rw [ho]; rfl)).get hb (by rw [H.len]; assumption))
          have hlen := isL_len hcl
          have hvs := bytesA_is hns (isL_take (isL_drop hcl off) n)
          have hload := run_loadCells_list (P := P) w ⟨G.at_ b, off, none⟩ ((ca.toList.drop off).take n) (fun j u hj => by
            rw [add_addr]
            rw [List.getElem?_take] at hj
            split at hj
            · rw [List.getElem?_drop] at hj; simp [World.cell?, hc]; simpa using hj
            · cases hj)
          have hll : ((ca.toList.drop off).take n).length = n := by simp at hlen ⊢; omega
          rw [hll, hvs] at hload
          have hrun := run_bytesToString (P := P) w ⟨G.at_ b, off, none⟩ n c ns (by simpa using hload)
          rw [foldl_bytes] at hrun
          refine ⟨.string (bytesOf ns), ?_, by simp [AV.is]⟩
          have e1 := run_convert_bytes_string (P := P) w s d el (some ⟨G.at_ b, off, none⟩) n c hs hel hd
          simp only [execOp, ho, hu, Sem.run_bind, e1, hrun, Result.andThen_ok, Sem.run_pure]
          simp [bytesOf]
        · cases hq
      · cases hq
    · cases hq
  · rename_i i j i' n hs hd hex
    refine ⟨_, hq, fun o ho => QOk.of_run fun B G w ρ hp2 hcp H hop => ?_⟩
    have hu := hop x (by simp [ho, Op.operands])
    rw [hex] at hu; simp only [AV.is] at hu
    exact ⟨.int j (j.wrap n), by simp [execOp, ho, hu, convert, run_underlying hs, run_underlying hd, Conv.intToInt], by simp [AV.is]⟩
  · rename_i v hs hd hex
    refine ⟨_, hq, fun o ho => QOk.of_run fun B G w ρ hp2 hcp H hop => ?_⟩
    have hu := hop x (by simp [ho, Op.operands])
    rw [hex] at hu; simp only [AV.is] at hu
    exact ⟨.string v, by simp [execOp, ho, hu, convert, run_underlying hs, run_underlying hd], by simp [AV.is]⟩
  · cases hq

theorem indexAddr_sound {t : TypeId} {x i : Operand} {k : AV → Option α} (hq : indexAddrA P t (e x) (e i) k = some r) :
    ∃ av, k av = some r ∧ ∀ o : Oper, o.op = .indexAddr t x i → QOk P GW h o e av := by
  unfold indexAddrA at hq
  split at hq
  · rename_i el b off n c ik j hu hex hei
    split at hq
    · rename_i z hz
      split at hq
      · rename_i hj
        refine ⟨_, hq, fun o ho => QOk.of_run fun B G w ρ hp2 hcp H hop => ?_⟩
        have hv := hop x (by simp [ho, Op.operands])
        have hv2 := hop i (by simp [ho, Op.operands])
        rw [hex] at hv; rw [hei] at hv2; simp only [AV.is] at hv hv2
        refine ⟨.pointer (some ⟨G.at_ b, off + j.toNat * z, none⟩), ?_, by simp only [AV.is, and_true]; exact hv.1⟩
        simp [execOp, ho, hv.2, hv2, Instr.indexAt, asIntOf, run_underlying hu, run_szT hz w, hj.1, hj.2, add_addr]
      · cases hq
    · cases hq
  · rename_i n el b off ik j hu hex hei
    split at hq
    · rename_i z hz
      split at hq
      · rename_i hj
        refine ⟨_, hq, fun o ho => QOk.of_run fun B G w ρ hp2 hcp H hop => ?_⟩
        have hv := hop x (by simp [ho, Op.operands])
        have hv2 := hop i (by simp [ho, Op.operands])
        rw [hex] at hv; rw [hei] at hv2; simp only [AV.is] at hv hv2
        refine ⟨.pointer (some ⟨G.at_ b, off + j.toNat * z, none⟩), ?_, by simp only [AV.is, and_true]; exact hv.1⟩
        simp [execOp, ho, hv.2, hv2, Instr.indexAt, Instr.sureAddr, asIntOf, run_underlying hu, run_szT hz w, hj.1, hj.2, add_addr]
      · cases hq
    · cases hq
  · cases hq

theorem fieldAddr_sound {t : TypeId} {x : Operand} {f : Nat} {av : AV} (hq : fieldAddrA P t (e x) f = some av) : ∀ o : Oper, o.op = .fieldAddr t x f → QOk P GW h o e av := by
  intro o ho
  unfold fieldAddrA at hq
  split at hq
  · rename_i fs b off hu hex
    cases hf : fs[f]? with
    | none => simp [hf] at hq
    | some q =>
      simp only [hf] at hq
      cases hn : szT P q.type with
      | none => simp [hn] at hq
      | some n =>
        simp only [hn] at hq
        split at hq
        · cases hq
        · rename_i hne
          cases hq
          refine QOk.of_run fun B G w ρ hp2 hcp H hop => ?_
          have hv := hop x (by simp [ho, Op.operands])
          rw [hex] at hv; simp only [AV.is] at hv
          refine ⟨.pointer (some ⟨G.at_ b, off + q.offset, none⟩), ?_, by simp only [AV.is, and_true]; exact hv.1⟩
          simp [execOp, ho, hv.2, Instr.fieldAt, run_underlying hu, hf, Instr.sureAddr, fieldPlace, run_szT hn w, hne, add_addr]
  · cases hq

theorem field_sound {t : TypeId} {x : Operand} {f : Nat} {av : AV} (hq : fieldA P t (e x) f = some av) : ∀ o : Oper, o.op = .field t x f → QOk P GW h o e av := by
  intro o ho
  unfold fieldA at hq
  split at hq
  · rename_i fs l hu hex
    cases hf : fs[f]? with
    | none => simp [hf] at hq
    | some q =>
      simp only [hf] at hq
      refine QOk.of_run fun B G w ρ hp2 hcp H hop => ?_
      have hv := hop x (by simp [ho, Op.operands])
      rw [hex] at hv; simp only [AV.is] at hv
      obtain ⟨cs, hcs, hl⟩ := hv
      obtain ⟨v, hrun, hv⟩ := run_partA hq hl w
      exact ⟨v, by simp [execOp, ho, hcs, Instr.field, run_underlying hu, hf, asAgg, hrun], hv⟩
  · cases hq

theorem evs_isL {G : Gh} {w : World} {ρ : Operand → Value} : ∀ (l : List Operand), (∀ x ∈ l, (e x).is G w (ρ x)) → AV.isL G w (l.map e) (l.map ρ)
  | [], _ => by simp [AV.isL]
  | x :: l, hx => by
    simp only [List.map_cons, AV.isL]
    exact ⟨_, _, rfl, hx x (by simp), evs_isL l fun y hy => hx y (by simp [hy])⟩

theorem build_sound {t : TypeId} {parts : Array (Nat × Operand)} {av : AV} (hq : buildA P t (parts.toList.map fun p => (p.1, e p.2)) = some av) : ∀ o : Oper, o.op = .build t parts → QOk P GW h o e av := by
  intro o ho
  refine QOk.of_run fun B G w ρ hp2 hcp H hop => ?_
  have hp : AV.isL G w ((parts.toList.map fun p => (p.1, e p.2)).map (·.2)) ((parts.map fun (p : Nat × Operand) => (p.1, ρ p.2)).toList.map (·.2)) := by
    have := evs_isL (e := e) (G := G) (w := w) (ρ := ρ) (parts.toList.map (·.2)) (fun x hx => hop x (by simpa [ho, Op.operands] using hx))
    simpa [List.map_map, Function.comp_def] using this
  obtain ⟨v, hrun, hv⟩ := run_buildA (P := P) hq (vparts := parts.map fun (p : Nat × Operand) => (p.1, ρ p.2)) (by simp [List.map_map, Function.comp_def]) hp w
  refine ⟨v, ?_, hv⟩
  have e1 : execOp ρ o = (do pure (.value (← Instr.build t (parts.map fun (p : Nat × Operand) => (p.1, ρ p.2))))) := by simp only [execOp, ho]
  rw [e1, Sem.run_bind, hrun]
  rfl

theorem index_sound {t : TypeId} {x i : Operand} {k : AV → Option α} (hq : (match P.underlying t, e x, e i with
    | some .string, .str s, .int _ n => if 0 ≤ n ∧ n < (s.size : Int) then k (.int .u8 (byteAt s n)) else none
    | _, _, _ => none) = some r) : ∃ av, k av = some r ∧ ∀ o : Oper, o.op = .index t x i → QOk P GW h o e av := by
  split at hq
  · rename_i s ik n hu hex hei
    split at hq
    · rename_i hb
      refine ⟨_, hq, fun o ho => QOk.of_run fun B G w ρ hp2 hcp H hop => ?_⟩
      have hv := hop x (by simp [ho, Op.operands])
      have hv2 := hop i (by simp [ho, Op.operands])
      rw [hex] at hv; simp only [AV.is] at hv
      rw [hei] at hv2; simp only [AV.is] at hv2
      refine ⟨.int .u8 (byteAt s n), ?_, by simp [AV.is]⟩
      have hlt : n.toNat < s.size := by omega
      have hg : s[n.toNat]? = some s[n.toNat] := getElem?_pos s n.toNat hlt
      simp only [execOp, ho, hv, hv2, Instr.index, Sem.run_bind, run_underlying hu, asIntOf, Sem.run_pure, Result.andThen_ok, hb.1, if_true, hg]
      have : byteAt s n = ((s[n.toNat]).toNat : Int) := by
        unfold byteAt
        rw [List.getD_eq_getElem?_getD, List.getElem?_eq_getElem (by simpa using hlt)]
        rfl
      rw [this]
    · cases hq
  · cases hq

theorem sliceStr_sound {t : TypeId} {x : Operand} {lo hi : Option Operand} {s : ByteArray} {k : AV → Option α} (hu : P.underlying t = some .string) (hex : e x = .str s)
    (hq : sliceStrA s (match lo with | some l => e l | none => .int .i64 0) (match hi with | some l => e l | none => .int .i64 s.size) k = some r) :
    ∃ av, k av = some r ∧ ∀ o : Oper, o.op = .slice t x lo hi none → QOk P GW h o e av := by
  unfold sliceStrA at hq
  split at hq
  · rename_i i1 l i2 hh hl hhi
    split at hq
    · rename_i h1
      split at hq
      · rename_i h2
        refine ⟨_, hq, fun o ho => QOk.of_run fun B G w ρ hp2 hcp H hop => ?_⟩
        have hv := hop x (by simp [ho, Op.operands])
        rw [hex] at hv; simp only [AV.is] at hv
        refine ⟨.string (s.extract l.toNat hh.toNat), ?_, by simp [AV.is]⟩
        have e2 : ∀ (c : BoundsCode), (match hi.map ρ with | some v => Instr.sliceBound v s.size c | none => pure s.size).run P w = .ok hh.toNat w := fun c => by
          cases hi with
          | none => simp only at hhi; cases hhi; simp
          | some z =>
            simp only at hhi
            have := hop z (by simp [ho, Op.operands])
            rw [hhi] at this; simp only [AV.is] at this
            simp only [Option.map_some, this]
            exact run_sliceBound (P := P) w i2 hh s.size c h1.1 h1.2
        have e1 : ∀ (c : BoundsCode), (match lo.map ρ with | some v => Instr.sliceBound v hh.toNat c | none => pure 0).run P w = .ok l.toNat w := fun c => by
          cases lo with
          | none => simp only at hl; cases hl; simp
          | some z =>
            simp only at hl
            have := hop z (by simp [ho, Op.operands])
            rw [hl] at this; simp only [AV.is] at this
            simp only [Option.map_some, this]
            exact run_sliceBound (P := P) w i1 l hh.toNat c h2.1 (by omega)
        have eb : (Instr.sliceBounds false s.size s.size (lo.map ρ) (hi.map ρ) none).run P w = .ok (l.toNat, hh.toNat, s.size) w := by
          have e2' := e2 .sliceAlen
          have e1' := e1 .sliceB
          unfold Instr.sliceBounds
          cases hi <;> cases lo <;> simp only [Option.map_some, Option.map_none] at e1' e2' ⊢ <;>
            simp only [Sem.run_bind, Sem.run_pure, Result.andThen_ok, e1', e2', Bool.false_eq_true, if_false, Option.isSome_none] <;>
            (try (simp only [Sem.run_pure, Result.ok.injEq, and_true] at e2')) <;> (try (simp only [Sem.run_pure, Result.ok.injEq, and_true] at e1')) <;>
            simp only [Sem.run_bind, Sem.run_pure, Result.andThen_ok, e1', e2']
        have ex : execOp ρ o = (do pure (.value (← Instr.sliceAt t (ρ x) (lo.map ρ) (hi.map ρ) none))) := by simp only [execOp, ho, Option.map_none]
        rw [ex, hv]
        simp only [Instr.sliceAt, Instr.slice, Sem.run_bind, run_underlying hu, Result.andThen_ok, Option.isSome_none, Bool.false_eq_true, if_false, eb, Sem.run_pure]
      · cases hq
    · cases hq
  · cases hq

theorem extract_sound {x : Operand} {i : Nat} {l : List AV} {v : AV} (hex : e x = .tup l) (hl : l[i]? = some v) : ∀ o : Oper, o.op = .extract x i → QOk P GW h o e v := by
  intro o ho
  refine QOk.of_run fun B G w ρ hp2 hcp H hop => ?_
  have hv := hop x (by simp [ho, Op.operands])
  rw [hex] at hv; simp only [AV.is] at hv
  obtain ⟨a, ha, hal⟩ := hv
  obtain ⟨u, hu, k⟩ := isL_get hal i v hl
  have hu' : a[i]? = some u := by simpa using hu
  exact ⟨u, by simp [execOp, ho, ha, Instr.extract, hu'], k⟩

theorem builtin_sound {b : Builtin} {c : Call} {k : AV → Option α} (hc : c.callee = .builtin b) (hq : builtinA P b c.argTypes (c.args.toList.map e) k = some r) :
    ∃ av, k av = some r ∧ ∀ o : Oper, o.op = .call c → QOk P GW h o e av := by
  have ops : ∀ (o : Oper), o.op = .call c → ∀ x ∈ c.args.toList, x ∈ o.op.operands := fun o ho x hx => by
    simp only [ho, Op.operands, Call.operands, hc]
    simpa using hx
  have run : ∀ (o : Oper), o.op = .call c → ∀ (w : World) (ρ : Operand → Value), ∃ cs, (execOp ρ o).run P w = (builtin b c.argTypes o.type cs (c.args.map ρ)).run P w := fun o ho w ρ => by
    refine ⟨c.args.map fun | .const _ => true | _ => false, ?_⟩
    have e1 : execOp ρ o = (do let d ← resolve ρ c o.type; invoke d.target d.args) := by simp only [execOp, ho]
    rw [e1]
    simp only [resolve, hc]
    rfl
  have one : ∀ {v : AV}, c.args.toList.map e = [v] → ∃ x, c.args.toList = [x] := fun hargs => by
    cases hl : c.args.toList with
    | nil => simp [hl] at hargs
    | cons x t => cases t <;> simp [hl] at hargs ⊢
  unfold builtinA at hq
  split at hq
  · rename_i s hargs
    split at hq
    · rename_i hu
      refine ⟨_, hq, fun o ho => QOk.of_run fun B G w ρ hp2 hcp H hop => ?_⟩
      obtain ⟨x, hx⟩ := one hargs
      have hex : e x = .str s := by rw [hx] at hargs; simpa using hargs
      have hv := hop x (ops o ho x (by simp [hx]))
      rw [hex] at hv; simp only [AV.is] at hv
      have hca : c.args = #[x] := by apply Array.ext'; simpa using hx
      cases ht : c.argTypes[0]? with
      | none => simp [ht] at hu
      | some t =>
        simp [ht] at hu
        exact ⟨.int .i64 s.size, by obtain ⟨cs, hcs⟩ := run o ho w ρ; rw [hcs]; simp [builtin, Builtin.len_, ht, hca, hv, run_underlying hu, goInt], by simp [AV.is]⟩
    · cases hq
  · rename_i b' off' n' c' hargs
    split at hq
    · rename_i el hu
      refine ⟨_, hq, fun o ho => QOk.of_run fun B G w ρ hp2 hcp H hop => ?_⟩
      obtain ⟨x, hx⟩ := one hargs
      have hex : e x = .sl b' off' n' c' := by rw [hx] at hargs; simpa using hargs
      have hv := hop x (ops o ho x (by simp [hx]))
      rw [hex] at hv; simp only [AV.is] at hv
      have hca : c.args = #[x] := by apply Array.ext'; simpa using hx
      cases ht : c.argTypes[0]? with
      | none => simp [ht] at hu
      | some t =>
        simp [ht] at hu
        exact ⟨.int .i64 n', by obtain ⟨cs, hcs⟩ := run o ho w ρ; rw [hcs]; simp [builtin, Builtin.len_, ht, hca, hv.2, run_underlying hu, goInt], by simp [AV.is]⟩
    · cases hq
  · rename_i a' n' c' hargs
    split at hq
    · rename_i el hu
      refine ⟨_, hq, fun o ho => QOk.of_run fun B G w ρ hp2 hcp H hop => ?_⟩
      obtain ⟨x, hx⟩ := one hargs
      have hex : e x = .val (.slice a' n' c') := by rw [hx] at hargs; simpa using hargs
      have hv := hop x (ops o ho x (by simp [hx]))
      rw [hex] at hv; simp only [AV.is] at hv
      have hca : c.args = #[x] := by apply Array.ext'; simpa using hx
      cases ht : c.argTypes[0]? with
      | none => simp [ht] at hu
      | some t =>
        simp [ht] at hu
        exact ⟨.int .i64 n', by obtain ⟨cs, hcs⟩ := run o ho w ρ; rw [hcs]; simp [builtin, Builtin.len_, ht, hca, hv, run_underlying hu, goInt], by simp [AV.is]⟩
    · cases hq
  · rename_i ck l' hargs
    split at hq
    · rename_i el hu
      refine ⟨_, hq, fun o ho => QOk.of_run fun B G w ρ hp2 hcp H hop => ?_⟩
      obtain ⟨x, hx⟩ := one hargs
      have hex : e x = .seq ck l' := by rw [hx] at hargs; simpa using hargs
      have hv := hop x (ops o ho x (by simp [hx]))
      rw [hex] at hv; simp only [AV.is] at hv
      have hca : c.args = #[x] := by apply Array.ext'; simpa using hx
      obtain ⟨a', c', hsl⟩ : ∃ a' c', ρ x = .slice a' l'.length c' := by
        generalize ρ x = z at hv
        cases hv with
        | nil => exact ⟨none, 0, rfl⟩
        | seq => exact ⟨_, _, rfl⟩
      cases ht : c.argTypes[0]? with
      | none => simp [ht] at hu
      | some t =>
        simp [ht] at hu
        exact ⟨.int .i64 l'.length, by obtain ⟨cs, hcs⟩ := run o ho w ρ; rw [hcs]; simp [builtin, Builtin.len_, ht, hca, hsl, run_underlying hu, goInt], by simp [AV.is]⟩
    · cases hq
  · rename_i i x j y hargs
    refine ⟨_, hq, fun o ho => QOk.of_run fun B G w ρ hp2 hcp H hop => ?_⟩
    obtain ⟨p, q, hx⟩ : ∃ p q, c.args.toList = [p, q] := by
      cases hl : c.args.toList with
      | nil => simp [hl] at hargs
      | cons p t => cases t with
        | nil => simp [hl] at hargs
        | cons q t => cases t <;> simp [hl] at hargs ⊢
    rw [hx] at hargs
    simp only [List.map_cons, List.map_nil, List.cons.injEq, and_true] at hargs
    have hv := hop p (ops o ho p (by simp [hx]))
    have hv2 := hop q (ops o ho q (by simp [hx]))
    rw [hargs.1] at hv; rw [hargs.2] at hv2; simp only [AV.is] at hv hv2
    have hca : c.args = #[p, q] := by apply Array.ext'; simpa using hx
    exact ⟨.int i (if y < x then y else x), by obtain ⟨cs, hcs⟩ := run o ho w ρ; rw [hcs]; simp [builtin, Builtin.min_, hca, hv, hv2, Builtin.min2], by simp [AV.is]⟩
  · rename_i i x j y hargs
    refine ⟨_, hq, fun o ho => QOk.of_run fun B G w ρ hp2 hcp H hop => ?_⟩
    obtain ⟨p, q, hx⟩ : ∃ p q, c.args.toList = [p, q] := by
      cases hl : c.args.toList with
      | nil => simp [hl] at hargs
      | cons p t => cases t with
        | nil => simp [hl] at hargs
        | cons q t => cases t <;> simp [hl] at hargs ⊢
    rw [hx] at hargs
    simp only [List.map_cons, List.map_nil, List.cons.injEq, and_true] at hargs
    have hv := hop p (ops o ho p (by simp [hx]))
    have hv2 := hop q (ops o ho q (by simp [hx]))
    rw [hargs.1] at hv; rw [hargs.2] at hv2; simp only [AV.is] at hv hv2
    have hca : c.args = #[p, q] := by apply Array.ext'; simpa using hx
    exact ⟨.int i (if y > x then y else x), by obtain ⟨cs, hcs⟩ := run o ho w ρ; rw [hcs]; simp [builtin, Builtin.max_, hca, hv, hv2, Builtin.max2], by simp [AV.is]⟩
  · cases hq

theorem call_sound {Γ : List (Nat × Tells)} (hΓ : AllOk P GW Γ) {c : Call} {x : Operand} {f : Nat} {first cap : List AV} {s : Tells} {τ : Type} {y : Option τ} {out : τ → AV} {z : τ}
    (hc : c.callee = .value x) (hex : e x = .fn f first cap) (hs : Γ.lookup f = some s) (hy : s (first ++ c.args.toList.map e ++ cap) = some (.mk τ y out)) (hz : y = some z) :
    ∀ o : Oper, o.op = .call c → QOk P GW h o e (out z) := by
  intro o ho B G w a next Q h2 hcp H hgw hop hk
  obtain ⟨hcf, hcalls⟩ := hΓ f s hs
  have ops : ∀ q ∈ c.operands, q ∈ o.op.operands := fun q hq => by simpa [ho, Op.operands] using hq
  have hv := hop x (ops x (by simp [Call.operands, hc]))
  rw [hex] at hv; simp only [AV.is] at hv
  obtain ⟨va, vb, hval, hla, hlb⟩ := hv
  have hargs : AV.isL G w (c.args.toList.map e) (c.args.map a.eval).toList := by
    rw [Array.toList_map]
    exact evs_isL c.args.toList fun q hq => hop q (ops q (by simp [Call.operands, hc]; right; simpa using hq))
  have hall : AV.isL G w (first ++ c.args.toList.map e ++ cap) (va ++ c.args.map a.eval ++ vb).toList := by
    simp only [Array.toList_append]
    exact isL_append (isL_append hla hargs) hlb
  have hrun : (execOp a.eval o).run P w = .ok (.enter f (va ++ c.args.map a.eval ++ vb)) w := by
    simp only [execOp, ho, resolve, hc, hval, Deferred.ofValue, Sem.run_bind, Sem.run_pure, Result.andThen_ok, invoke, hcf]
  unfold Oper.wp
  rw [hrun]
  show Calls P f _ w _
  refine (hcalls _ τ y out z hy hz G w _ hgw H.imm hall).mono ?_
  rintro en w' ⟨G', v, rfl, ha, hv⟩
  obtain ⟨H', hle⟩ := H.after ha.below ha.n ha.at_ ha.imm ha.old ha.new
  exact hk G' v w' H' hle ha hv

theorem quiet_sound {Γ : List (Nat × Tells)} (hΓ : AllOk P GW Γ) {gl : List (Nat × Nat)} {fr : Fr} {op : Op} {k : AV → Option α} (hq : quietA P Γ gl fr h op k = some r) :
    ∃ av, k av = some r ∧ ∀ o : Oper, o.op = op → QOk P GW h o (ev gl fr) av := by
  unfold quietA at hq
  split at hq
  · rename_i x
    exact ⟨_, hq, fun o ho => QOk.of_run fun B G w ρ hp2 hcp H hop => ⟨ρ x, by simp [execOp, ho], hop x (by simp [ho, Op.operands])⟩⟩
  · rename_i x
    exact ⟨_, hq, fun o ho => QOk.of_run fun B G w ρ hp2 hcp H hop => ⟨ρ x, by simp [execOp, ho], hop x (by simp [ho, Op.operands])⟩⟩
  · exact pick_sound hq
  · split at hq
    · rename_i v hb; exact ⟨v, hq, build_sound hb⟩
    · cases hq
  · rename_i t p
    split at hq
    · rename_i v hb
      refine ⟨v, hq, fun o ho => QOk.of_run fun B G w ρ hp2 hcp H hop => ?_⟩
      have hp := hop p (by simp [ho, Op.operands])
      have hb2 : loadA P hp2 t (ev gl fr p) = some v := by
        unfold loadA at hb ⊢
        cases hq : ev gl fr p <;> rw [hq] at hb hp <;> simp only at hb ⊢ <;> try (cases hb; done)
        rename_i b o'
        simp only [AV.is] at hp
        cases hk : h[b]? with
        | none => simp [hk] at hb
        | some c => rw [(hcp (by rw [ho]; rfl)).get hk (by rw [H.len]; exact hp.1)]; rw [hk] at hb; exact hb
      obtain ⟨u, hu, k⟩ := run_loadA H hb2 hp
      exact ⟨u, by simp [execOp, ho, hu], k⟩
    · cases hq
  · rename_i x
    split at hq
    · rename_i b off hex
      refine ⟨_, hq, fun o ho => QOk.of_run fun B G w ρ hp2 hcp H hop => ?_⟩
      have hv := hop x (by simp [ho, Op.operands])
      rw [hex] at hv; simp only [AV.is] at hv
      exact ⟨ρ x, by simp [execOp, ho, hv.2], by simp only [AV.is]; exact hv⟩
    · cases hq
  · exact bin_sound hq
  · exact un_sound hq
  · exact conv_sound hq
  · split at hq
    · rename_i v hb; exact ⟨v, hq, fieldAddr_sound hb⟩
    · cases hq
  · exact indexAddr_sound hq
  · split at hq
    · rename_i v hb; exact ⟨v, hq, field_sound hb⟩
    · cases hq
  · exact index_sound hq
  · split at hq
    · rename_i s hu hex
      exact sliceStr_sound hu hex hq
    · cases hq
  · split at hq
    · rename_i l hex
      split at hq
      · rename_i v hl
        exact ⟨v, hq, extract_sound hex hl⟩
      · cases hq
    · cases hq
  · rename_i f first cap
    refine ⟨_, hq, fun o ho => QOk.of_run fun B G w ρ hp2 hcp H hop => ⟨.func (.func f) (first.map ρ) (cap.map ρ), by simp [execOp, ho, Instr.makeFunc], ?_⟩⟩
    simp only [AV.is]
    refine ⟨_, _, rfl, ?_, ?_⟩
    · rw [Array.toList_map]; exact evs_isL first.toList fun q hq => hop q (by simp [ho, Op.operands]; left; simpa using hq)
    · rw [Array.toList_map]; exact evs_isL cap.toList fun q hq => hop q (by simp [ho, Op.operands]; right; simpa using hq)
  · rename_i c
    split at hq
    · rename_i b hc
      exact builtin_sound hc hq
    · rename_i x hc
      split at hq
      · rename_i f first cap hex
        split at hq
        · rename_i s hs
          split at hq
          · rename_i τ y out hy
            cases hz : y with
            | none => simp [hz] at hq
            | some z =>
              rw [hz] at hq
              exact ⟨_, hq, call_sound hΓ hc hex hs hy hz⟩
          · cases hq
        · cases hq
      · cases hq
    · cases hq
  · cases hq

end
end Go.Proofs.Rx
