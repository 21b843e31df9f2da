import Derived.Test.YtphlamnaaogmaaaGreatDoorQ4
namespace Go.Proofs.Qx
open Go Go.RowKit
set_option linter.unusedVariables false
set_option linter.unusedSimpArgs false

section
variable {α : Type} {P : Program} {GW : World → Prop} {Λ : Nat → List CK} {h : Hp} {e : Operand → AV}

def InlOk (P : Program) (Λ : Nat → List CK) (B : Nat) (wB : World) (inl : Nat → List AV → Hp → (Res → Hp → Option α) → Option α) : Prop :=
  ∀ (f : Nat) (args : List AV) (h : Hp) (k : Res → Hp → Option α) (r : α), inl f args h k = some r →
    (∀ args w, (callFunc f args).run P w = .ok (.enter f args) w) ∧
    ∃ res h', k res h' = some r ∧ ∀ (G : Gh) (w : World) (vs : Array Value), HRep G B h w → G.lay = Λ → Bel B wB w → AV.isL G w args vs.toList →
      Calls P f vs w fun e w' => ∃ G', HRep G' B h' w' ∧ Mv B wB G w G' w' ∧ res.isE G' w' e

theorem AOk.of_store {B : Nat} {wB : World} {t : TypeId} {p x : Operand} {b : Nat} {c : Blk} {S : List Nat} (hs : storeA P Λ h t (e p) (e x) = some (b, c, S)) :
    ∀ o : Oper, o.op = .store t p x → AOk P Λ B wB o e h ((frzA h S).set b c) .junk := fun o ho => AOk.of_run fun G w ρ H hΛ hb hop => by
  obtain ⟨G', w', h1, h2, h3⟩ := storeA_ok H hΛ hb hs (hop p (by simp [ho, Op.operands])) (hop x (by simp [ho, Op.operands]))
  exact ⟨.skip, undef, w', G', by simp [execOp, ho, h1], .inr ⟨rfl, rfl⟩, h2, h3, trivial⟩

theorem range_flat (zs : List Value) (hz : 0 < zs.length) : ∀ n, (List.range (n * zs.length)).map (fun i => zs[i % zs.length]!) = (List.replicate n zs).flatten
  | 0 => by simp
  | n + 1 => by
    rw [Nat.succ_mul, List.range_add, List.map_append, range_flat zs hz n, List.replicate_succ', List.flatten_append, List.flatten_singleton]
    congr 1
    rw [List.map_map]
    apply List.ext_getElem
    · simp
    · intro i h1 h2
      have hi : i < zs.length := by simpa using h2
      simp [Nat.mul_add_mod_self_right, Nat.mod_eq_of_lt hi, hi]

theorem flat_isL {G : Gh} {w : World} {l : List AV} {vs : List Value} (h : AV.isL G w l vs) : ∀ n, AV.isL G w (List.replicate n l).flatten (List.replicate n vs).flatten
  | 0 => by simp [AV.isL]
  | n + 1 => by simp only [List.replicate_succ, List.flatten_cons]; exact isL_append h (flat_isL h n)

theorem run_rowA {G : Gh} {w : World} {t : TypeId} {len : Nat} {parts : List (Nat × AV)} {el : TypeId} {l : List AV} (hr : rowA P t len parts = some (el, l)) {vparts : Array (Nat × Value)} (hi : vparts.toList.map (·.1) = parts.map (·.1))
    (hp : AV.isL G w (parts.map (·.2)) (vparts.toList.map (·.2))) (w' : World) : ∃ c : Array Value, (Instr.buildSlice t len vparts).run P w' = .ok (.slice (some ⟨w'.heap.size, 0, none⟩) len len) (w'.alloc (.cells c el)) ∧ AV.isL G w l c.toList := by
  unfold rowA at hr
  cases hu : P.underlying t with
  | none => simp [hu] at hr
  | some d =>
    rw [hu] at hr
    cases d <;> try (simp at hr; done)
    rename_i e
    simp only at hr
    cases hie : P.info? e with
    | none => simp [hie] at hr
    | some ie =>
      cases hz : ie.zero with
      | none => simp [hie, hz] at hr
      | some z =>
        simp only [hie, hz] at hr
        split at hr
        · rename_i hc
          obtain ⟨hsz, hpos, hbig⟩ := hc
          simp only [Option.map_eq_some_iff, Prod.mk.injEq] at hr
          obtain ⟨l', hf, rfl, rfl⟩ := hr
          have hzl : z.cells.toList.length = ie.size := by simp [hsz]
          have hbase : ∀ zero : Array Value, (0 < len → zero = z.cells) → ((Array.range (len * ie.size)).map (fun i => zero[i % zero.size]!)).toList = (List.replicate len z.cells.toList).flatten := fun zero hzero => by
            by_cases h0 : len = 0
            · subst h0; simp
            · rw [hzero (by omega), ← range_flat z.cells.toList (by omega) len]
              simp [hsz]
              intro a _
              rw [getElem!_def]
              cases z.cells[a % z.cells.size]? <;> rfl
          obtain ⟨rs, hrs, k⟩ := fill_is (G := G) (w := w) (place' := fun i => some (i * ie.size, ie.size)) (fun _ => rfl) parts vparts.toList _ ((List.replicate len z.cells.toList).flatten.toArray) l' hi hp (by simpa using flat_isL (ofCs_is G w z.cells.toList) len) hf
          refine ⟨rs, ?_, k⟩
          have hsize : (sizeOf e).run P w' = .ok ie.size w' := by simp [sizeOf, typeInfo, hie]
          by_cases h0 : len * ie.size = 0
          · have hl0 : len = 0 := by
              rcases Nat.eq_zero_or_pos len with q | q
              · exact q
              · exact absurd h0 (Nat.ne_of_gt (Nat.mul_pos q hpos))
            subst hl0
            have hrs' : Instr.fill (fun i => some (i * ie.size, ie.size)) #[] vparts.toList = some rs := by simpa using hrs
            simp [Instr.buildSlice, run_underlying hu, hsize, newRow]
            rw [show Array.map (fun _ => (default : Value)) (Array.range 0) = #[] from by apply Array.ext'; simp, hrs']
            simp
          · have hb := hbase z.cells (fun _ => rfl)
            have hb' : (Array.range (len * ie.size)).map (fun i => z.cells[i % z.cells.size]!) = (List.replicate len z.cells.toList).flatten.toArray := by apply Array.ext'; rw [hb]
            have hzero : (zeroValue e).run P w' = .ok z w' := by simp [zeroValue, typeInfo, hie, hz]
            simp only [Instr.buildSlice, Sem.run_bind, run_underlying hu, Result.andThen_ok, hsize, gt_iff_lt, Nat.not_lt.2 hbig, if_false, h0, hzero, Sem.run_pure, hb', hrs, newRow, run_newObj, World.alloc_eq]
        · cases hr

theorem AOk.of_append {B : Nat} {wB : World} {fr : Fr} {gl : List (Nat × Nat)} {c : Call} {dst : Option Tmp} {k : Fr → Hp → Option α} {r : α} (hc : c.callee = .builtin .append) (hr : appendA P Λ gl fr h c dst k = some r) :
    ∃ h' av, k (putA fr dst av) h' = some r ∧ h.length ≤ h'.length ∧ ∀ o : Oper, o.op = .call c → AOk P Λ B wB o (ev gl fr) h h' av := by
  unfold appendA at hr
  split at hr
  · rename_i s x hargs
    split at hr
    · rename_i el ht
      split at hr
      · rename_i ie hi
        split at hr
        · rename_i hcond
          obtain ⟨ht2, hsz, hpos, hz, hb0, hby⟩ := hcond
          split at hr
          · rename_i m S h1 rr q nb l hsrc hbase
            split at hr
            · cases hr
            · rename_i hns
              split at hr
              · rename_i hlen
                rw [forceH_eq, forceL_eq] at hr
                have hlen1 : h.length ≤ h1.length := by
                  unfold baseA at hbase
                  split at hbase
                  · cases hbase; simp
                  · split at hbase
                    · split at hbase
                      · cases hbase; exact Nat.le_refl _
                      · cases hbase
                    · cases hbase
                  · cases hbase
                refine ⟨_, _, hr, by simp [frzA_len]; exact hlen1, fun o ho => AOk.of_run fun G w ρ H hΛ hb hop => ?_⟩
                have ops : ∀ y ∈ c.args.toList, y ∈ o.op.operands := fun y hy => by
                  simp only [ho, Op.operands, Call.operands, hc]; simpa using hy
                have hsv := hop s (ops s (by simp [hargs]))
                have hxv := hop x (ops x (by simp [hargs]))
                have hns' : rr ∉ S := by simpa using hns
                -- what is appended
                have hsrc' : ∃ d, asD Λ h 4 (.seq el) (ev gl fr x) = some (.seq d, S) ∧ d = m := by
                  unfold srcA at hsrc
                  split at hsrc
                  · rename_i d' S' hd; cases hsrc; exact ⟨_, hd, rfl⟩
                  · cases hsrc
                obtain ⟨_, hd, rfl⟩ := hsrc'
                obtain ⟨hcr, hfr⟩ := asD_is H (Compat.refl h) hΛ _ _ _ _ _ _ hd hxv
                -- the row
                have hrow : ∃ G1, HRep G1 B h1 w ∧ Mv B wB G w G1 w ∧ h1[rr]? = some (.row el q nb l) ∧ ρ s = G1.rv rr ∧ (∀ (i : Nat) (b : Blk), h[i]? = some b → h1[i]? = some b) ∧ (∀ i, i < G.n → G1.ft i = G.ft i) ∧ G1.imm = G.imm := by
                  unfold baseA at hbase
                  split at hbase
                  · rename_i hsx
                    cases hbase
                    rw [hsx] at hsv; simp only [AV.is] at hsv
                    obtain ⟨H1, hle⟩ := H.push (w' := w) (Nat.le_refl _) (fun _ _ => rfl) 0 (.slice none 0 0) [] (.row el 0 true []) (by simp) hb.size ⟨by simp [Gh.push], by simp [Gh.push, Value.ownBlock], by simp [Gh.push], by simp, [], by
                      have := World.ownsRow_nil w B el ((G.push 0 (.slice none 0 0) []).lay el).length
                      simpa [Gh.push] using this, by simp⟩
                    exact ⟨_, H1, .push hle hb (Nat.le_refl _) (fun _ _ => rfl) (by simp), by rw [List.getElem?_append_right (Nat.le_refl _)]; simp, by rw [hsv]; simp [Gh.push, H.len], fun i b hib => by rw [List.getElem?_append_left (List.getElem?_eq_some_iff.1 hib).1]; exact hib, fun i hi => by simp [Gh.push, Nat.ne_of_lt hi], rfl⟩
                  · rename_i r0 q0 hsx
                    rw [hsx] at hsv; simp only [AV.is] at hsv
                    split at hbase
                    · rename_i t' v' nb' l' hrow
                      split at hbase
                      · rename_i hcq
                        obtain ⟨rfl, rfl⟩ := hcq
                        cases hbase
                        exact ⟨G, H, .refl hb, hrow, hsv.2.2.2 (H.blk _ _ hrow).1, fun _ _ q => q, fun _ _ => rfl, rfl⟩
                      · cases hbase
                    · cases hbase
                  · cases hbase
                obtain ⟨G1, H1, m1, hrow, hsρ, hkeep, hft1, himm1⟩ := hrow
                have hfr1 : ∀ r ∈ S, FrzD h1 r := fun r hr => by
                  rcases (hfr r hr).1 with ⟨a1, a2, a3, a4, a5⟩ | ⟨a1, a2, a3, a4, a5⟩
                  · exact .inl (.inl ⟨a1, a2, a3, a4, hkeep _ _ a5⟩)
                  · exact .inl (.inr ⟨a1, a2, a3, hkeep _ _ a4, a5⟩)
                obtain ⟨G2, H2, m2, s2, i2, f2, f2'⟩ := freeze_mv H1 m1.below hfr1
                have hrow2 : (frzA h1 S)[rr]? = some (.row el q nb l) := by rw [frzA_get S h1 rr hns']; exact hrow
                cases hzz : ie.zero with
                | none => simp [hzz] at hz
                | some z =>
                  simp only [hzz, Option.any_some, beq_iff_eq] at hz
                  have hlay2 : G2.lay = Λ := by rw [s2.lay, m1.le.lay, hΛ]
                  obtain ⟨v', w', G3, hrun, H3, m3, hav, _⟩ := append_row (ty := o.type) H2 m2.below (t := (c.argTypes[0]?).getD 0) (e := el) (ie := ie) (z := z) (by
                      cases hq : c.argTypes[0]? with
                      | none => simp [hq] at ht
                      | some t0 => simpa [hq] using ht) hi hzz (by rw [hlay2]; exact hsz) hz hpos hby hrow2 (m := _) (xv := ρ x) (by
                      rw [hlay2, ← hΛ]
                      refine hcr.mono (fun b o' hbo => (i2 b o').2 ?_) (fun _ _ _ => rfl)
                      rcases hbo with hbo | ⟨r', hr', hb'⟩
                      · exact .inl (by rw [himm1]; exact hbo)
                      · exact .inr ⟨r', hr', by rw [hft1 r' (hfr r' hr').2]; exact hb'⟩) hlen
                  refine ⟨.value v', v', w', G3, ?_, .inl rfl, H3, (m1.trans m2).trans m3, hav⟩
                  have e1 : execOp ρ o = (do let d ← resolve ρ c o.type; invoke d.target d.args) := by simp only [execOp, ho]
                  have ha : c.args = #[s, x] := by apply Array.ext'; simpa using hargs
                  have ht0 : ∃ t0, c.argTypes[0]? = some t0 ∧ c.argTypes[1]? = some t0 := by
                    cases hq : c.argTypes[0]? with
                    | none => simp [hq] at ht
                    | some t0 => exact ⟨t0, rfl, by rw [ht2, hq]⟩
                  obtain ⟨t0, ht0, ht1⟩ := ht0
                  have hrv : G2.rv rr = ρ s := by rw [s2.rv, hsρ]
                  rw [hrv, ht0, Option.getD_some] at hrun
                  have hbt : (Builtin.append_ c.argTypes o.type #[ρ s, ρ x]) = Builtin.append_ #[t0, t0] o.type #[ρ s, ρ x] := by
                    unfold Builtin.append_
                    simp only [ht0, ht1]
                    rfl
                  rw [e1]
                  simp only [resolve, hc, Sem.run_bind, Sem.run_pure, Result.andThen_ok, invoke, builtin, ha, List.map_toArray, List.map_cons, List.map_nil]
                  rw [hbt, hrun]
                  rfl
              · cases hr
          · cases hr
        · cases hr
      · cases hr
    · cases hr
  · cases hr

theorem AOk.of_appendT {B : Nat} {wB : World} {fr : Fr} {gl : List (Nat × Nat)} {c : Call} {dst : Option Tmp} {k : Fr → Hp → Option α} {r : α} (hc : c.callee = .builtin .append) {x : Option α} (hx : appendT P Λ gl fr h c dst k = some x) (hr : x = some r) :
    ∃ h' av, k (putA fr dst av) h' = some r ∧ h.length ≤ h'.length ∧ ∀ o : Oper, o.op = .call c → AOk P Λ B wB o (ev gl fr) h h' av := by
  unfold appendT at hx
  split at hx
  · rename_i s y hargs
    split at hx
    · rename_i rr q hes
      split at hx
      · rename_i e v l hk
        split at hx
        · rename_i e' ht
          split at hx
          · rename_i ie hi
            split at hx
            · rename_i hcond
              obtain ⟨rfl, rfl, ht2, hsz, hpos, hz, hby, hln, hlt⟩ := hcond
              obtain ⟨ty', h9⟩ := lastSeq_is hlt
              split at hx
              · rename_i m S hsrc
                cases hx
                split at hr
                · rename_i hc2
                  obtain ⟨hm1, hns⟩ := hc2
                  split at hr
                  rotate_left
                  · cases hr
                  rename_i hll
                  have hns' : rr ∉ S := by simpa using hns
                  rw [forceH_eq, forceL_eq] at hr
                  refine ⟨_, _, hr, by simp [frzA_len], fun o ho => AOk.of_run fun G w ρ H hΛ hb hop => ?_⟩
                  have ops : ∀ y ∈ c.args.toList, y ∈ o.op.operands := fun y hy => by
                    simp only [ho, Op.operands, Call.operands, hc]; simpa using hy
                  have hsv := hop s (ops s (by simp [hargs]))
                  have hxv := hop y (ops y (by simp [hargs]))
                  have hsrc' : asD Λ h 4 (.seq e) (ev gl fr y) = some (.seq m, S) := by
                    unfold srcA at hsrc
                    split at hsrc
                    · rename_i d' S' hd; cases hsrc; exact hd
                    · cases hsrc
                  obtain ⟨hcr, hfr⟩ := asD_is H (Compat.refl h) hΛ _ _ _ _ _ _ hsrc' hxv
                  obtain ⟨G2, H2, m2, s2, i2, f2, f2'⟩ := freeze_mv H hb (frzD_of hfr)
                  have hk2 : (frzA h S)[rr]? = some (.trow e q l) := by rw [frzA_get S h rr hns']; exact hk
                  obtain ⟨d, rfl⟩ : ∃ d, m = [d] := by
                    match m, hm1 with
                    | [d], _ => exact ⟨d, rfl⟩
                  cases hzz : ie.zero with
                  | none => simp [hzz] at hz
                  | some z =>
                    simp only [hzz, Option.any_some, beq_iff_eq] at hz
                    have hlay2 : G2.lay = Λ := by rw [s2.lay, hΛ]
                    obtain ⟨v', w', G3, hrun, H3, m3, hav⟩ := append_trow (ty := o.type) H2 m2.below (t := (c.argTypes[0]?).getD 0) (e := e) (ie := ie) (z := z) (by
                        cases hq : c.argTypes[0]? with
                        | none => simp [hq] at ht
                        | some t0 => simpa [hq] using ht) hi hzz (by rw [hlay2]; exact hsz) hz hpos hby hk2 (d := d) (xv := ρ y) (by
                        rw [hlay2, ← hΛ]
                        exact hcr.mono (fun b o' hbo => (i2 b o').2 hbo) (fun _ _ _ => rfl)) (by omega) (fun a cp hxe => by
                        unfold lastNil at hln
                        split at hln
                        · rename_i b' o' cp' hy
                          split at hln
                          · rename_i _ cs _ hb'
                            split at hln
                            · rename_i hcs
                              rw [hy] at hxv; simp only [AV.is] at hxv
                              rw [hxv.2] at hxe; cases hxe
                              obtain ⟨_, _, c0, hc0, hcl⟩ := H.blk b' _ hb'
                              obtain ⟨u, hu, hu2⟩ := isL_get hcl _ _ hcs
                              simp only [AV.is] at hu2
                              subst hu2
                              rw [hlay2, ← hsz, add_addr]
                              simp [World.cell?, hc0]
                              simpa using hu
                            · cases hln
                          · cases hln
                        · cases hln) (by rw [hlay2]; exact h9)
                    refine ⟨.value v', v', w', G3, ?_, .inl rfl, H3, m2.trans m3, hav⟩
                    have e1 : execOp ρ o = (do let d ← resolve ρ c o.type; invoke d.target d.args) := by simp only [execOp, ho]
                    have ha : c.args = #[s, y] := by apply Array.ext'; simpa using hargs
                    have ht0 : ∃ t0, c.argTypes[0]? = some t0 ∧ c.argTypes[1]? = some t0 := by
                      cases hq : c.argTypes[0]? with
                      | none => simp [hq] at ht
                      | some t0 => exact ⟨t0, rfl, by rw [ht2, hq]⟩
                    obtain ⟨t0, ht0, ht1⟩ := ht0
                    have hrv : G2.rv rr = ρ s := by
                      rw [hes] at hsv; simp only [AV.is] at hsv
                      rw [s2.rv]; exact (hsv.2.2.2 (H.blk rr _ hk).1).symm
                    rw [hrv, ht0, Option.getD_some] at hrun
                    have hbt : (Builtin.append_ c.argTypes o.type #[ρ s, ρ y]) = Builtin.append_ #[t0, t0] o.type #[ρ s, ρ y] := by
                      unfold Builtin.append_
                      simp only [ht0, ht1]
                      rfl
                    rw [e1]
                    simp only [resolve, hc, Sem.run_bind, Sem.run_pure, Result.andThen_ok, invoke, builtin, ha, List.map_toArray, List.map_cons, List.map_nil]
                    rw [hbt, hrun]
                    rfl
                · cases hr
              · cases hx
            · cases hx
          · cases hx
        · cases hx
      · cases hx
    · cases hx
  · cases hx

theorem ownsRow_of_bytes {w : World} {B : Nat} {e : TypeId} {s : ByteArray} {v : Value} (h : BytesRep B w e s false v) : w.ownsRow B e 1 v s.size (Lib.strCells s) := by
  rcases h with ⟨h0, rfl⟩ | ⟨_, g, cap, cur, f, rfl, hB, hc, hf, hle, hmax, hsz, htk⟩
  · rw [h0, show Lib.strCells s = [] from List.eq_nil_of_length_eq_zero (by rw [Lib.strCells_length]; exact h0)]
    exact World.ownsRow_nil w B e 1
  · rw [hf rfl] at hc
    exact ⟨by rw [Lib.strCells_length, Nat.mul_one], .inr ⟨g, cap, cur, rfl, hB, hc, hle, hmax, by rw [Nat.mul_one]; exact hsz, by rw [Nat.mul_one]; exact htk⟩⟩
theorem bytes_of_ownsRow {w : World} {B : Nat} {e : TypeId} {s : ByteArray} {v : Value} (h : w.ownsRow B e 1 v s.size (Lib.strCells s)) (hn : v = .slice none 0 0 ↔ s.size = 0) : BytesRep B w e s false v := by
  rcases h.2 with ⟨rfl, h0⟩ | ⟨g, cap, cur, rfl, hB, hc, hle, hmax, hsz, htk⟩
  · exact .inl ⟨h0, rfl⟩
  · refine .inr ⟨Nat.pos_of_ne_zero fun q => ?_, g, cap, cur, (0, 0), rfl, hB, hc, fun _ => rfl, hle, hmax, by rw [Nat.mul_one] at hsz; exact hsz, by rw [Nat.mul_one] at htk; exact htk⟩
    have := hn.2 q
    cases this
theorem strCells_append (a b : ByteArray) : Lib.strCells (a ++ b) = Lib.strCells a ++ Lib.strCells b := by
  unfold Lib.strCells
  rw [ByteArray.data_append, Array.toList_append, List.map_append]

theorem append_run_str (w : World) (base : Nat) (t u ty e : TypeId) (i : TypeInfo) (ht : P.underlying t = some (.slice e)) (hu : P.underlying u = some .string) (hi : P.info? e = some i) (hz : i.zero = some (.int .u8 0))
    (hsize : i.size = 1) (hby : i.bytes = 1) (v : Value) (n : Nat) (xs : List Value) (hown : w.ownsRow base e 1 v n xs) (s : ByteArray) (hbytes : n + s.size ≤ 140737488355328) (hbase : base ≤ w.heap.size) :
    ∃ v' w', (Builtin.append_ #[t, u] ty #[v, .string s]).run P w = .ok v' w' ∧ w'.ownsRow base e 1 v' (n + s.size) (xs ++ Lib.strCells s) ∧ w.grownBy w' v.ownBlock ∧
      (v' = .slice none 0 0 ↔ v = .slice none 0 0 ∧ s.size = 0) ∧ (v'.ownBlock = v.ownBlock ∨ v'.ownBlock = some w.heap.size) := by
  have hm : n + s.size ≤ maxLen := by simp only [maxLen]; omega
  obtain ⟨v', w', h1, h2, h3, h4⟩ := Lib.run_append_own_string (P := P) w base t u ty e i ht hu hi hz hsize hby v n xs hown s hm hbytes hbase
  refine ⟨v', w', h1, h2, h3, h4, ?_⟩
  have hxl : xs.length = n := by simpa using hown.1
  rcases hown.2 with ⟨rfl, rfl⟩ | ⟨g, cap, cur, rfl, hbg, hg, hnc, hcm, hcs, htake⟩
  · by_cases hm0 : s.size = 0
    · rw [h4.2 ⟨rfl, hm0⟩]; exact .inl rfl
    · have hr := run_append_nil_string (P := P) w t u ty e i (.int .u8 0) ht hu hi hz s (by omega) (by omega) (by rw [hby]; omega)
      rw [hr] at h1
      cases h1
      exact .inr rfl
  · by_cases hroom : n + s.size ≤ cap
    · have hcs' : cur.size = cap := by simpa using hcs
      have hr := Lib.run_append_room_string (P := P) w t u ty e i ht hu hi hsize g n cap cur hg s hroom (by omega)
      rw [hr] at h1
      cases h1
      exact .inl rfl
    · have holds : ∀ j u, xs[j]? = some u → w.cell? ((⟨g, 0, none⟩ : Addr).add j) = some u := hown.cells (g := g) rfl
      have hr := Lib.run_append_grow_string (P := P) w t u ty e i (.int .u8 0) ht hu hi hz ⟨g, 0, none⟩ n cap xs (by rw [hsize]; simpa using hxl) holds s (by omega) (by omega) (by rw [hby]; exact growslice_fits (by omega) (by omega))
      rw [hr] at h1
      cases h1
      exact .inr rfl

theorem byteT_is {ie : TypeInfo} (h : byteT ie = true) : ie.size = 1 ∧ ie.bytes = 1 ∧ ie.zero = some (.int .u8 0) := by
  unfold byteT at h
  simp only [Bool.and_eq_true, beq_iff_eq] at h
  refine ⟨h.1.1, h.1.2, ?_⟩
  have := h.2
  split at this
  · rename_i hz; exact hz
  · cases this

theorem AOk.of_appStr {B : Nat} {wB : World} {fr : Fr} {gl : List (Nat × Nat)} {c : Call} {dst : Option Tmp} {k : Fr → Hp → Option α} {r : α} (hc : c.callee = .builtin .append) {x : Option α} (hx : appStrA P gl fr h c dst k = some x) (hr : x = some r) :
    ∃ h' av, k (putA fr dst av) h' = some r ∧ h.length ≤ h'.length ∧ ∀ o : Oper, o.op = .call c → AOk P Λ B wB o (ev gl fr) h h' av := by
  unfold appStrA at hx
  split at hx
  rotate_left
  · cases hx
  rename_i so xo hargs
  split at hx
  rotate_left
  · cases hx
  rename_i t hex
  split at hx
  rotate_left
  · cases hx
  rename_i el ht hu
  split at hx
  rotate_left
  · cases hx
  rename_i ie hi
  split at hx
  rotate_left
  · cases hx
  rename_i hbt
  obtain ⟨hs1, hb1, hz1⟩ := byteT_is hbt
  have hca : c.args = #[so, xo] := by apply Array.ext'; simpa using hargs
  obtain ⟨t0, ht0, htu⟩ : ∃ t0, c.argTypes[0]? = some t0 ∧ P.underlying t0 = some (.slice el) := by
    cases q : c.argTypes[0]? with
    | none => simp [q] at ht
    | some t0 => exact ⟨t0, rfl, by simpa [q] using ht⟩
  obtain ⟨t1, ht1, htu1⟩ : ∃ t1, c.argTypes[1]? = some t1 ∧ P.underlying t1 = some .string := by
    cases q : c.argTypes[1]? with
    | none => simp [q] at hu
    | some t1 => exact ⟨t1, rfl, by simpa [q] using hu⟩
  have runs : ∀ (o : Oper), o.op = .call c → ∀ (ρ : Operand → Value) (w : World) (v : Value) (v' : Value) (w' : World), ρ so = v → ρ xo = .string t → (Builtin.append_ #[t0, t1] o.type #[v, .string t]).run P w = .ok v' w' →
      (execOp ρ o).run P w = .ok (.value v') w' := fun o ho ρ w v v' w' e1 e2 hrun => by
    have e3 : execOp ρ o = (do let d ← resolve ρ c o.type; invoke d.target d.args) := by simp only [execOp, ho]
    have e4 : (Builtin.append_ c.argTypes o.type (c.args.map ρ)).run P w = .ok v' w' := by
      rw [hca]
      simp only [List.map_toArray, List.map_cons, List.map_nil, e1, e2]
      rw [← hrun]
      congr 1
      unfold Builtin.append_
      simp [ht0, ht1]
    rw [e3]
    simp only [resolve, hc, Sem.run_bind, Sem.run_pure, Result.andThen_ok, invoke, builtin, e4]
  have ops : ∀ (o : Oper), o.op = .call c → so ∈ o.op.operands ∧ xo ∈ o.op.operands := fun o ho => by
    simp only [ho, Op.operands, Call.operands, hc, hca]
    simp
  split at hx
  · rename_i hsl
    injection hx with hx
    rw [← hx] at hr
    split at hr
    · rename_i hlim
      rw [forceH_eq, forceL_eq] at hr
      refine ⟨_, _, hr, by simp, fun o ho => AOk.of_run fun G w ρ H hΛ hb hop => ?_⟩
      have hv := hop so (ops o ho).1
      have hv2 := hop xo (ops o ho).2
      rw [hsl] at hv; rw [hex] at hv2; simp only [AV.is] at hv hv2
      obtain ⟨v', w', h1, h2, h3, h4, h5⟩ := append_run_str (P := P) w B t0 t1 o.type el ie htu htu1 hi hz1 hs1 hb1 (.slice none 0 0) 0 [] (World.ownsRow_nil w B el 1) t (by omega) hb.size
      simp only [Nat.zero_add, List.nil_append] at h2
      have hbk : ∀ k, k < w.heap.size → w'.heap[k]? = w.heap[k]? := fun k hk => h3.block k hk (by simp [Value.ownBlock])
      have h5' : ∀ g, v'.ownBlock = some g → g = w.heap.size := fun g hg => by
        rcases h5 with h5 | h5
        · rw [h5] at hg; cases hg
        · rw [h5] at hg; cases hg; rfl
      obtain ⟨H', hle⟩ := H.push (w' := w') h3.size hbk 0 v' v'.ownBlock.toList (.bytes el 0 t false) (fun g hg => by
        have hg' := ownBlock_mem.1 hg
        exact ⟨by rw [h5' g hg']; exact Nat.le_refl _, (h2.lt g hg').2⟩) hb.size ⟨by simp [Gh.push], by simp [Gh.push], by
          have : (G.push 0 v' v'.ownBlock.toList).rv G.n = v' := by simp [Gh.push]
          rw [this]
          exact bytes_of_ownsRow h2 (by rw [h4]; simp)⟩
      refine ⟨.value v', v', w', _, runs o ho ρ w _ v' w' hv hv2 h1, .inl rfl, H', .push hle (hb.trans ⟨h3.os, h3.tape, h3.output, h3.size, fun k hkB => hbk k (Nat.lt_of_lt_of_le hkB hb.size)⟩) h3.size hbk (fun g hg => by rw [h5' g (ownBlock_mem.1 hg)]; exact Nat.le_refl _), ?_⟩
      have hsl' : ∃ a n c, v' = .slice a n c := by
        rcases h2.2 with ⟨e, _⟩ | ⟨g, cap, cur, e, _⟩
        · exact ⟨_, _, _, e⟩
        · exact ⟨_, _, _, e⟩
      rw [AV.is]
      exact ⟨by simp [Gh.push, H.len], by simp, hsl', fun _ => by simp [Gh.push, H.len]⟩
    · cases hr
  · rename_i rr q hsl
    split at hx
    · rename_i e' v b hrow
      injection hx with hx
      rw [← hx] at hr
      split at hr
      · rename_i hcond
        obtain ⟨rfl, rfl, hlim⟩ := hcond
        rw [forceH_eq, forceL_eq] at hr
        refine ⟨_, _, hr, by simp, fun o ho => AOk.of_run fun G w ρ H hΛ hb hop => ?_⟩
        have hv := hop so (ops o ho).1
        have hv2 := hop xo (ops o ho).2
        rw [hsl] at hv; rw [hex] at hv2; simp only [AV.is] at hv hv2
        obtain ⟨hrl, _, _, hval⟩ := hv
        obtain ⟨hver, hft, hrep⟩ := H.blk rr _ hrow
        have hv := hval hver
        obtain ⟨v', w', h1, h2, h3, h4, h5⟩ := append_run_str (P := P) w B t0 t1 o.type e' ie htu htu1 hi hz1 hs1 hb1 (G.rv rr) b.size (Lib.strCells b) (ownsRow_of_bytes hrep) t hlim hb.size
        have hownk : ∀ k, (G.rv rr).ownBlock = some k → B ≤ k ∧ ∀ o, ¬ G.imm k o := fun k hkk => H.own rr _ hrow rfl k (by rw [hft]; exact ownBlock_mem.2 hkk)
        have hgle : G.le w { G with rv := fun i => if i = rr then v' else G.rv i, ver := fun i => if i = rr then q + 1 else G.ver i, ft := fun i => if i = rr then v'.ownBlock.toList else G.ft i } w' := by
          refine ⟨Nat.le_refl _, fun _ _ => rfl, fun _ _ q => q, fun b o hbo => ?_, fun i _ => ?_, fun i _ e => ?_, rfl⟩
          · refine World.cell?_of_block (h3.block b (H.imm b o hbo) fun e => ?_)
            exact (hownk b e.symm).2 o hbo
          · by_cases qi : i = rr
            · subst qi; simp only [if_true]; omega
            · simp only [if_neg qi]; exact Nat.le_refl _
          · by_cases qi : i = rr
            · subst qi; simp only [if_true] at e; omega
            · simp only [if_neg qi]
        have hsl' : ∃ a n c, v' = .slice a n c := by
          rcases h2.2 with ⟨e, _⟩ | ⟨g, cap, cur, e, _⟩
          · exact ⟨_, _, _, e⟩
          · exact ⟨_, _, _, e⟩
        have hsz : (b ++ t).size = b.size + t.size := ByteArray.size_append
        refine ⟨.value v', v', w', _, runs o ho ρ w _ v' w' hv hv2 h1, .inl rfl, H.turn hrl _ hgle rfl rfl (fun j hj => ⟨rfl, by simp [hj], by simp [hj], by simp [hj]⟩) h3.size (fun j hj hjr g hg => h3.block g (H.lt j hj g hg) fun e => ?_) (fun g hg => ?_) (fun _ g hg => ?_) ⟨by simp, by simp, ?_⟩,
          .of hgle (hb.trans ⟨h3.os, h3.tape, h3.output, h3.size, fun k hkB => h3.block k (Nat.lt_of_lt_of_le hkB hb.size) fun e => by have := (hownk k e.symm).1; omega⟩) rfl h3.size (fun k hk hn => h3.block k hk fun e => hn rr hrl (by rw [hft]; exact ownBlock_mem.2 e.symm)) (fun i hi g hg => ?_), ?_⟩
        rotate_right 2
        · by_cases qi : i = rr
          · subst qi
            simp only [if_true] at hg
            have hg' := ownBlock_mem.1 hg
            rcases h5 with e | e
            · exact .inl ⟨i, hrl, by rw [hft]; exact ownBlock_mem.2 (e ▸ hg')⟩
            · rw [e] at hg'; cases hg'; exact .inr (Nat.le_refl _)
          · simp only [if_neg qi] at hg; exact .inl ⟨i, hi, hg⟩
        rotate_left
        · exact H.inj j rr hj hrl hjr g hg (by rw [hft]; exact ownBlock_mem.2 e.symm)
        · simp only [if_true] at hg
          have hg' := ownBlock_mem.1 hg
          refine ⟨?_, (h2.lt g hg').2⟩
          rcases h5 with e | e
          · left; rw [hft]; exact ownBlock_mem.2 (e ▸ hg')
          · right; rw [e] at hg'; cases hg'; exact Nat.le_refl _
        · simp only [if_true] at hg
          have hg' := ownBlock_mem.1 hg
          refine ⟨(h2.lt g hg').1, fun o hbo => ?_⟩
          rcases h5 with e | e
          · exact (hownk g (e ▸ hg')).2 o hbo
          · rw [e] at hg'; cases hg'
            have := H.imm _ _ hbo; omega
        · simp only [if_true]
          refine bytes_of_ownsRow (by rw [hsz, strCells_append]; exact h2) ?_
          rw [h4, hsz]
          rcases hrep with ⟨e0, e1⟩ | ⟨hp, g, cap, cur, f, e1, _⟩
          · rw [e1, e0]; simp
          · rw [e1]
            constructor
            · rintro ⟨e, _⟩; cases e
            · intro e; omega
        · rw [AV.is]
          exact ⟨hrl, by simp, hsl', fun _ => by simp⟩
      · cases hr
    · cases hx
  · cases hx

theorem AOk.of_ustr {B : Nat} {wB : World} {fr : Fr} {gl : List (Nat × Nat)} {c : Call} {dst : Option Tmp} {k : Fr → Hp → Option α} {r : α} (hc : c.callee = .builtin .unsafeString) (hr : ustrA P gl fr h c dst k = some r) :
    ∃ h' av, k (putA fr dst av) h' = some r ∧ h.length ≤ h'.length ∧ ∀ o : Oper, o.op = .call c → AOk P Λ B wB o (ev gl fr) h h' av := by
  unfold ustrA at hr
  split at hr
  rotate_left
  · cases hr
  rename_i po no hargs
  split at hr
  rotate_left
  · cases hr
  rename_i t0 t1 hats
  split at hr
  rotate_left
  · cases hr
  rename_i pe htu
  have hca : c.args = #[po, no] := by apply Array.ext'; simpa using hargs
  have hat : c.argTypes = #[t0, t1] := by apply Array.ext'; simpa using hats
  have runs : ∀ (o : Oper), o.op = .call c → ∀ (ρ : Operand → Value) (w : World) (v u : Value) (v' : Value) (w' : World), ρ po = v → ρ no = u → (Builtin.unsafeString_ c.argTypes o.type #[v, u]).run P w = .ok v' w' →
      (execOp ρ o).run P w = .ok (.value v') w' := fun o ho ρ w v u v' w' e1 e2 hrun => by
    have e3 : execOp ρ o = (do let d ← resolve ρ c o.type; invoke d.target d.args) := by simp only [execOp, ho]
    have e4 : (Builtin.unsafeString_ c.argTypes o.type (c.args.map ρ)).run P w = .ok v' w' := by
      rw [hca]
      simp only [List.map_toArray, List.map_cons, List.map_nil, e1, e2]
      exact hrun
    rw [e3]
    simp only [resolve, hc, Sem.run_bind, Sem.run_pure, Result.andThen_ok, invoke, builtin, e4]
  have ops : ∀ (o : Oper), o.op = .call c → po ∈ o.op.operands ∧ no ∈ o.op.operands := fun o ho => by
    simp only [ho, Op.operands, Call.operands, hc, hca]
    simp
  split at hr
  · rename_i rr q m hp hn
    split at hr
    · rename_i el v b fz hrow
      split at hr
      · rename_i ie hi
        split at hr
        · rename_i hcond
          obtain ⟨rfl, rfl, hs1, rfl, hlim⟩ := hcond
          rw [forceH_eq, forceL_eq] at hr
          refine ⟨_, _, hr, by simp, fun o ho => AOk.of_run fun G w ρ H hΛ hb hop => ?_⟩
          have hv := hop po (ops o ho).1
          have hv2 := hop no (ops o ho).2
          rw [hp] at hv; rw [hn] at hv2; simp only [AV.is] at hv hv2
          obtain ⟨hrl, _, _, hval⟩ := hv
          obtain ⟨hver, hft, hrep⟩ := H.blk rr _ hrow
          have hval := hval hver
          rcases hrep with ⟨e0, e1⟩ | ⟨hpos, g, cap, cur, f, e1, hBg, hcell, hfz, hle0, hmax, hsz, htk⟩
          · -- no bytes
            have hv : ρ po = .pointer none := by
              rcases hval with ⟨_, e⟩ | ⟨a, n, cc, e, _⟩
              · exact e
              · rw [e1] at e; cases e
            have hb0 : b = ⟨#[]⟩ := by
              obtain ⟨⟨l⟩⟩ := b
              have : l = [] := List.eq_nil_of_length_eq_zero e0
              subst this; rfl
            have hrun := Lib.run_unsafeString_none (P := P) (w := w) t0 t1 o.type none
            refine ⟨.value (.string b), .string b, w, G, ?_, .inl rfl, ?_, .refl hb, rfl⟩
            · refine runs o ho ρ w _ _ _ _ hv hv2 ?_
              rw [hat, e0]
              exact hrun.trans (by rw [hb0]; rfl)
            · refine H.turn hrl _ (.refl _ _) rfl rfl (fun _ _ => ⟨rfl, rfl, rfl, rfl⟩) (Nat.le_refl _) (fun _ _ _ _ _ => rfl) (fun g hg => ⟨.inl hg, H.lt rr hrl g hg⟩) (fun _ g hg => H.own rr _ hrow rfl g hg) ⟨hver, hft, .inl ⟨e0, e1⟩⟩
          · have hv : ρ po = .pointer (some ⟨g, 0, none⟩) := by
              rcases hval with ⟨e, _⟩ | ⟨a, n, cc, e, e'⟩
              · rw [e1] at e; cases e
              · rw [e1] at e; cases e; exact e'
            have hcells : P.cellsOf el = 1 := by simp [Program.cellsOf, hi, hs1]
            have hown := H.own rr _ hrow rfl g (by rw [hft, e1]; simp [Value.ownBlock])
            have hlen : b.data.toList.length = b.size := Array.length_toList
            have hrun := Lib.run_unsafeString_row (P := P) (w := w) t0 t1 o.type el htu hcells g cur.size (by simp [World.shape?, hcell]) b.data.toList (by intro e; rw [e] at hlen; simp at hlen; omega) (by rw [hlen, hsz]; exact hle0) (by rw [hlen]; omega) (fun j x hj => by
              have hjl : j < b.size := by rw [← hlen]; exact (List.getElem?_eq_some_iff.1 hj).1
              have hc : (cur.toList.take b.size)[j]? = some (.int .u8 x.toNat) := by
                rw [htk]; unfold Lib.strCells; rw [List.getElem?_map, hj]; rfl
              rw [List.getElem?_take, if_pos hjl] at hc
              rw [add_addr, Nat.zero_add]
              simp [World.cell?, hcell]
              simpa using hc)
            have hbk : ∀ k, k ≠ g → (w.freeze ⟨g, 0, none⟩ b.data.toList.length).heap[k]? = w.heap[k]? := fun k hk => by
              unfold World.freeze
              split
              · rfl
              · simp only [Array.getElem?_modify]; rw [if_neg (fun e => hk e.symm)]
            have hsz' : (w.freeze ⟨g, 0, none⟩ b.data.toList.length).heap.size = w.heap.size := by
              unfold World.freeze; split <;> simp
            obtain ⟨f', hg'⟩ : ∃ f', (w.freeze ⟨g, 0, none⟩ b.data.toList.length).heap[g]? = some (.cells cur el f') := by
              unfold World.freeze
              rw [if_neg (by omega)]
              simp only [Array.getElem?_modify, if_true, hcell]
              exact ⟨_, rfl⟩
            have hgle : G.le w G (w.freeze ⟨g, 0, none⟩ b.data.toList.length) := ⟨Nat.le_refl _, fun _ _ => rfl, fun _ _ q => q, fun b' o' q => World.cell?_of_block (hbk b' fun e => hown.2 o' (e ▸ q)), fun _ _ => Nat.le_refl _, fun _ _ _ => rfl, rfl⟩
            refine ⟨.value (.string b), .string b, _, G, ?_, .inl rfl, H.turn hrl _ hgle rfl rfl (fun _ _ => ⟨rfl, rfl, rfl, rfl⟩) (by rw [hsz']; exact Nat.le_refl _) (fun j hj q g' hg2 => hbk g' fun e => ?_) (fun g' hg2 => ⟨.inl hg2, by rw [hsz']; exact H.lt rr hrl g' hg2⟩) (fun _ g' hg2 => H.own rr _ hrow rfl g' hg2)
              ⟨hver, hft, .inr ⟨hpos, g, cap, cur, f', e1, hBg, hg', fun e => (by cases e), hle0, hmax, hsz, htk⟩⟩, .of hgle (hb.trans (Lib.below_freeze (Below.refl B w) hown.1 _)) rfl (by rw [hsz']; exact Nat.le_refl _) (fun k hk hn => hbk k fun e => hn rr hrl (by rw [hft, e1, e]; simp [Value.ownBlock])) (fun i hi g hg => .inl ⟨i, hi, hg⟩), rfl⟩
            · refine runs o ho ρ w _ _ _ _ hv (by rw [hv2, ← hlen]) ?_
              rw [hat, hrun]
            · subst e
              exact H.inj j rr hj hrl q _ hg2 (by rw [hft, e1]; simp [Value.ownBlock])
        · cases hr
      · cases hr
    · cases hr
  · rename_i hp hn
    rw [forceL_eq] at hr
    refine ⟨h, _, hr, Nat.le_refl _, fun o ho => AOk.of_run fun G w ρ H hΛ hb hop => ?_⟩
    have hv := hop po (ops o ho).1
    have hv2 := hop no (ops o ho).2
    rw [hp] at hv; rw [hn] at hv2; simp only [AV.is] at hv hv2
    have hrun := Lib.run_unsafeString_none (P := P) (w := w) t0 t1 o.type none
    exact ⟨.value (.string ⟨#[]⟩), .string ⟨#[]⟩, w, G, runs o ho ρ w _ _ _ _ hv hv2 (by rw [hat]; exact hrun), .inl rfl, H, .refl hb, rfl⟩
  · cases hr

def allocs : Op → Bool
  | .alloc _ => true
  | .box _ _ => true
  | .buildSlice _ _ _ => true
  | .range _ _ => true
  | _ => false
theorem compat_push (h : Hp) (b : Blk) : Compat h (h ++ [b]) := fun i _ hi => by rw [List.getElem?_append_left hi]

theorem doA_path {Γ : List (Nat × CE)} (hΓ : AllOk P GW Λ Γ) {B : Nat} {wB : World} (stab : ∀ w', Bel B wB w' → GW w') {inl : Nat → List AV → Hp → (Res → Hp → Option α) → Option α} (hinl : InlOk P Λ B wB inl) {gl : List (Nat × Nat)} {fr : Fr} {o : Oper}
    {k : Fr → Hp → Option α} {kp : Value → Fr → Hp → Option α} {r : α} (hr : doA P Λ Γ gl inl fr h o k kp = some r) :
    (∃ av h', k (putA fr o.dst av) h' = some r ∧ AOk P Λ B wB o (ev gl fr) h h' av ∧ h.length ≤ h'.length ∧ (allocs o.op = true → Compat h h')) ∨ (∃ v h', kp v fr h' = some r ∧ POk P Λ B wB o (ev gl fr) h h' v) := by
  have quiet : ∀ op, o.op = op → quietA P Λ Γ gl fr h op (fun v => headK v fun v => forceL (putA fr o.dst v) fun fr => k fr h) = some r →
      ∃ av h', k (putA fr o.dst av) h' = some r ∧ AOk P Λ B wB o (ev gl fr) h h' av ∧ h.length ≤ h'.length ∧ (allocs o.op = true → Compat h h') := fun op ho hq => by
    obtain ⟨av, hkv, hq⟩ := quiet_sound (GW := GW) hΓ hq
    rw [headK_eq, forceL_eq] at hkv
    exact ⟨av, h, hkv, AOk.of_quiet stab (hq o ho), Nat.le_refl _, fun _ => Compat.refl h⟩
  unfold doA at hr
  split at hr
  · rename_i t ho
    split at hr
    · rename_i z hz
      rw [forceC_eq, forceL_eq, forceL_eq] at hr
      refine .inl ⟨_, _, hr, AOk.of_run fun G w ρ H hΛ hb hop => ?_, by simp, fun _ => compat_push _ _⟩
      obtain ⟨v, hv, hl⟩ := zeroA_run hz G w w
      obtain ⟨G', H', m, q1, q2⟩ := alloc_mv H hb (t := t) hl
      exact ⟨.value (.pointer (some ⟨w.heap.size, 0, none⟩)), .pointer (some ⟨w.heap.size, 0, none⟩), w.alloc (.cells v.cells t), G', by simp [execOp, ho, Instr.alloc, hv, newVar, newRow], .inl rfl, H', m, by simp only [AV.is]; exact ⟨q1, by rw [q2]⟩⟩
    · cases hr
  · rename_i t x ho
    split at hr
    · rename_i hkn
      rw [forceC_eq, forceL_eq, forceL_eq] at hr
      refine .inl ⟨_, _, hr, AOk.of_run fun G w ρ H hΛ hb hop => ?_, by simp, fun _ => compat_push _ _⟩
      obtain ⟨hl, _⟩ := cells_is hkn (hop x (by simp [ho, Op.operands]))
      obtain ⟨G', H', m, q1, q2⟩ := alloc_mv H hb (t := t) hl
      exact ⟨.value (.pointer (some ⟨w.heap.size, 0, none⟩)), .pointer (some ⟨w.heap.size, 0, none⟩), w.alloc (.cells (ρ x).cells t), G', by simp [execOp, ho, Instr.box, newVar, newRow], .inl rfl, H', m, by simp only [AV.is]; exact ⟨q1, by rw [q2]⟩⟩
    · cases hr
  · rename_i t len parts ho
    split at hr
    · rename_i el l hrow
      rw [forceC_eq, forceL_eq, forceL_eq] at hr
      refine .inl ⟨_, _, hr, AOk.of_run fun G w ρ H hΛ hb hop => ?_, by simp, fun _ => compat_push _ _⟩
      have hp : AV.isL G w ((parts.toList.map fun p => (p.1, ev gl fr p.2)).map (·.2)) ((parts.map fun (p : Nat × Operand) => (p.1, ρ p.2)).toList.map (·.2)) := by
        have := evs_isL (e := ev gl fr) (G := G) (w := w) (ρ := ρ) (parts.toList.map (·.2)) (fun x hx => hop x (by simpa [ho, Op.operands] using hx))
        simpa [List.map_map, Function.comp_def] using this
      obtain ⟨c, hrun, hl⟩ := run_rowA (P := P) hrow (vparts := parts.map fun (p : Nat × Operand) => (p.1, ρ p.2)) (by simp [List.map_map, Function.comp_def]) hp w
      obtain ⟨G', H', m, q1, q2⟩ := alloc_mv H hb (t := el) hl
      have e1 : execOp ρ o = (do pure (.value (← Instr.buildSlice t len (parts.map fun (p : Nat × Operand) => (p.1, ρ p.2))))) := by simp only [execOp, ho]
      exact ⟨.value _, _, _, G', by rw [e1, Sem.run_bind, hrun]; rfl, .inl rfl, H', m, by simp only [AV.is]; exact ⟨q1, by rw [q2]⟩⟩
    · cases hr
  · rename_i t p x ho
    split at hr
    · rename_i b c S hs
      rw [forceB_eq, forceH_eq, forceL_eq] at hr
      exact .inl ⟨_, _, hr, AOk.of_store hs o ho, by simp [frzA_len], fun e => by rw [ho] at e; cases e⟩
    · cases hr
  · rename_i c ho
    split at hr
    · rename_i hc
      split at hr
      · rename_i x hx
        obtain ⟨h', av, hk, hlen, hA⟩ := AOk.of_appStr (Λ := Λ) (B := B) (wB := wB) hc hx hr
        exact .inl ⟨av, h', hk, hA o ho, hlen, fun e => by rw [ho] at e; cases e⟩
      · split at hr
        · rename_i x hx
          obtain ⟨h', av, hk, hlen, hA⟩ := AOk.of_appendT (B := B) (wB := wB) hc hx hr
          exact .inl ⟨av, h', hk, hA o ho, hlen, fun e => by rw [ho] at e; cases e⟩
        · obtain ⟨h', av, hk, hlen, hA⟩ := AOk.of_append (B := B) (wB := wB) hc hr
          exact .inl ⟨av, h', hk, hA o ho, hlen, fun e => by rw [ho] at e; cases e⟩
    · rename_i hc
      obtain ⟨h', av, hk, hlen, hA⟩ := AOk.of_ustr (Λ := Λ) (B := B) (wB := wB) hc hr
      exact .inl ⟨av, h', hk, hA o ho, hlen, fun e => by rw [ho] at e; cases e⟩
    · exact .inl (quiet _ ho hr)
    · rename_i x hc
      split at hr
      · rename_i f first cap hex
        split at hr
        · rename_i hnone
          obtain ⟨hcf, res, h', hk, hcalls⟩ := hinl _ _ _ _ _ hr
          split at hk <;> try (cases hk; done)
          rename_i hlen
          cases res with
          | ret v =>
            simp only at hk
            rw [headK_eq, forceL_eq] at hk
            refine .inl ⟨v, h', hk, fun G w a next Q H hΛ hb hop hn => ?_, hlen, fun e => by rw [ho] at e; cases e⟩
            obtain ⟨vs, hrun, hall⟩ := run_call ho hc hcf hex hop
            unfold Oper.wp
            rw [hrun]
            show Calls P f _ w _
            refine (hcalls G w vs H hΛ hb hall).mono ?_
            rintro en w' ⟨G', H', m, u, rfl, hu⟩
            exact hn G' u w' H' m hu
          | pan v =>
            simp only at hk
            refine .inr ⟨v, h', hk, fun G w a next Q H hΛ hb hop hn => ?_⟩
            obtain ⟨vs, hrun, hall⟩ := run_call ho hc hcf hex hop
            unfold Oper.wp
            rw [hrun]
            show Calls P f _ w _
            refine (hcalls G w vs H hΛ hb hall).mono ?_
            rintro en w' ⟨G', H', m, hE⟩
            simp only [Res.isE] at hE
            subst hE
            exact hn G' w' H' m
        · rename_i ce hce
          obtain ⟨hcf, hcalls⟩ := hΓ f ce hce
          split at hr
          · rename_i as S has
            split at hr
            · rename_i τ y out sel ok htells
              cases hz : y with
              | none => simp [hz] at hr
              | some z =>
                rw [hz] at hr
                simp only [Option.bind_some, ok] at hr
                -- borrowed
                have borrow : ∀ (en : Res), out z = en → (∀ G' G2 w' e, en.isE { G2 with imm := G' } w' e → en.isE G2 w' e) →
                    ∀ (G : Gh) (w : World) (a : Act) (R : Ending → World → Prop), HRep G B h w → G.lay = Λ → Bel B wB w → (∀ x ∈ o.op.operands, (ev gl fr x).is G w (a.eval x)) →
                      (∀ e w', HRep G B h w' → Mv B wB G w G w' → en.isE G w' e → R e w') → ∃ vs, (execOp a.eval o).run P w = .ok (.enter f vs) w ∧ Calls P f vs w R := fun en hen hflat G w a R H hΛ hb hop hR => by
                  obtain ⟨vs, hrun, hall⟩ := run_call ho hc hcf hex hop
                  obtain ⟨hargs, hfrz⟩ := argsA_is H (Compat.refl h) hΛ _ _ _ _ _ has hall
                  refine ⟨vs, hrun, (hcalls as τ y out sel ok z htells hz { G with imm := immR G S } w vs hΛ (stab w hb) (immR_lt H (Compat.refl h) fun r hr => (hfrz r hr).2) hargs).mono ?_⟩
                  rintro e w' ⟨imm', ha, hE⟩
                  rw [hen] at hE
                  obtain ⟨H', hle⟩ := H.below ha.below
                  exact hR e w' H' (.of hle (hb.trans (ha.below.mono hb.size)) rfl ha.below.size (fun g hg _ => ha.below.block g hg) fun i hi g hg => .inl ⟨i, hi, hg⟩) (hflat imm' G w' e hE)
                split at hr
                · rename_i v hv
                  refine .inr ⟨v, h, hr, fun G w a next Q H hΛ hb hop hn => ?_⟩
                  obtain ⟨vs, hrun, hC⟩ := borrow (.pan v) hv (fun _ _ _ _ q => q) G w a (fun
                      | .returned v, w'' => next (a.put o.dst v) w''
                      | .panicked chain, w'' => Q (.panic chain) a w''
                      | .outgrown, _ => LetsOut Q) H hΛ hb hop (fun e w' H' m hE => by
                    simp only [Res.isE] at hE
                    subst hE
                    exact hn G w' H' m)
                  unfold Oper.wp
                  rw [hrun]
                  exact hC
                · rename_i v hv
                  split at hr
                  · rename_i hm
                    split at hr
                    · rename_i hflat
                      rw [headK_eq, forceL_eq] at hr
                      refine .inl ⟨v, h, hr, fun G w a next Q H hΛ hb hop hn => ?_, Nat.le_refl _, fun e => by rw [ho] at e; cases e⟩
                      obtain ⟨vs, hrun, hC⟩ := borrow (.ret v) hv (fun _ _ _ _ ⟨u, e1, e2⟩ => ⟨u, e1, flat_is hflat e2⟩) G w a (fun
                          | .returned v, w'' => next (a.put o.dst v) w''
                          | .panicked chain, w'' => Q (.panic chain) a w''
                          | .outgrown, _ => LetsOut Q) H hΛ hb hop (fun e w' H' m hE => by
                        obtain ⟨u, rfl, hu⟩ := hE
                        exact hn G u w' H' m hu)
                      unfold Oper.wp
                      rw [hrun]
                      exact hC
                    · cases hr
                  · rename_i hm
                    rw [forceH_eq, headK_eq, forceL_eq] at hr
                    refine .inl ⟨v, frzA h S, hr, fun G w a next Q H hΛ hb hop hn => ?_, by rw [frzA_len]; exact Nat.le_refl _, fun e => by rw [ho] at e; cases e⟩
                    obtain ⟨vs, hrun, hall⟩ := run_call ho hc hcf hex hop
                    obtain ⟨hargs, hfrz⟩ := argsA_is H (Compat.refl h) hΛ _ _ _ _ _ has hall
                    obtain ⟨G1, H1, m1, s1, i1, f1, f1'⟩ := freeze_mv H hb (frzD_of hfrz)
                    unfold Oper.wp
                    rw [hrun]
                    show Calls P f _ w _
                    refine (hcalls as τ y out sel ok z htells hz G1 w vs (by rw [s1.lay, hΛ]) (stab w hb) H1.imm (isL_same s1 (fun b o q => (i1 b o).2 q) hargs)).mono ?_
                    rintro e w' ⟨imm', ha, hE⟩
                    rw [hv] at hE
                    obtain ⟨u, rfl, hu⟩ := hE
                    obtain ⟨H', hle⟩ := H1.after ha.below ha.more ha.old ha.new
                    exact hn _ u w' H' (m1.trans (.after m1.below ha hle)) hu
                  · cases hr
            · cases hr
          · cases hr
      · cases hr
    · cases hr
  · rename_i x ho
    split at hr
    · rename_i t hx
      refine .inr ⟨_, h, hr, fun G w a next Q H hΛ hb hop hn => ?_⟩
      have hv := hop x (by simp [ho, Op.operands])
      rw [hx] at hv; simp only [AV.is, AV.isL] at hv
      obtain ⟨u, hu, ca, rfl, hca⟩ := hv
      have : ca = #[] := by apply Array.ext'; simpa using hca
      subst this
      unfold Oper.wp
      have hrun : (execOp a.eval o).run P w = .halt (.panic (.iface t (.agg #[]))) w := by simp [execOp, ho, hu, Instr.panic, goPanic]
      rw [hrun]
      exact hn G w H (.refl hb)
    · cases hr
  · rename_i t x ho
    split at hr
    · rename_i s hu hx
      rw [forceL_eq, forceH_eq] at hr
      refine .inl ⟨_, _, hr, AOk.of_run fun G w ρ H hΛ hb hop => ?_, by simp, fun _ => compat_push _ _⟩
      have hv := hop x (by simp [ho, Op.operands])
      rw [hx] at hv; simp only [AV.is] at hv
      have hbk : ∀ k, k < w.heap.size → (w.alloc (.stringIter s 0)).heap[k]? = w.heap[k]? := fun k hk => Below.heap_alloc _ _ _ hk
      obtain ⟨H', hle⟩ := H.push (w' := w.alloc (.stringIter s 0)) (by simp) hbk w.heap.size undef [w.heap.size] (.iter s 0) (fun g hg => by simp at hg; subst hg; simp) hb.size ⟨by simp [Gh.push], by
        have : (G.push w.heap.size undef [w.heap.size]).at_ G.n = w.heap.size := by simp [Gh.push]
        rw [this]
        show (w.heap.push _)[w.heap.size]? = _
        simp⟩
      refine ⟨.value (.pointer (some ⟨w.heap.size, 0, none⟩)), _, _, _, ?_, .inl rfl, H', .push hle (hb.alloc _) (by simp) hbk (by simp), by simp only [AV.is]; exact ⟨by simp [Gh.push, H.len], by simp [Gh.push, H.len]⟩⟩
      simp [execOp, ho, hv, Instr.range, run_underlying hu, run_newObj]
    · cases hr
  · rename_i it ho
    split at hr
    · rename_i b hit
      split at hr
      · rename_i s pos hk
        split at hr
        · rename_i hlt
          rw [forceL_eq, forceH_eq] at hr
          refine .inl ⟨_, _, hr, AOk.of_run fun G w ρ H hΛ hb hop => ?_, by simp, fun e => by rw [ho] at e; cases e⟩
          have hv := hop it (by simp [ho, Op.operands])
          rw [hit] at hv; simp only [AV.is] at hv
          obtain ⟨hbn, hv⟩ := hv
          obtain ⟨hft, hob⟩ := H.blk b _ hk
          have hown := H.own b _ hk rfl (G.at_ b) (by rw [hft]; simp)
          have hoth : ∀ k, k ≠ G.at_ b → (w.heap.setIfInBounds (G.at_ b) (.stringIter s (pos + (Utf8.decode s pos).2)))[k]? = w.heap[k]? := fun k hk => by
            rw [Array.getElem?_setIfInBounds, if_neg (fun e => hk e.symm)]
          have hat : G.at_ b < w.heap.size := (Array.getElem?_eq_some_iff.1 hob).1
          have hgle : G.le w G { w with heap := w.heap.setIfInBounds (G.at_ b) (.stringIter s (pos + (Utf8.decode s pos).2)) } := ⟨Nat.le_refl _, fun _ _ => rfl, fun _ _ q => q, fun b' o' q => by
            have hne : b' ≠ G.at_ b := fun e => hown.2 o' (e ▸ q)
            exact World.cell?_of_block (hoth b' hne), fun _ _ => Nat.le_refl _, fun _ _ _ => rfl, rfl⟩
          refine ⟨.value (.tuple #[.bool true, goInt pos, .int .i32 (Utf8.decode s pos).1]), _, { w with heap := w.heap.setIfInBounds (G.at_ b) (.stringIter s (pos + (Utf8.decode s pos).2)) }, G, ?_, .inl rfl,
            H.turn hbn (.iter s (pos + (Utf8.decode s pos).2)) hgle rfl rfl (fun _ _ => ⟨rfl, rfl, rfl, rfl⟩) (by simp) (fun j hj q g hg => hoth g fun e => ?_) (fun g hg => ⟨.inl hg, by simpa using H.lt b hbn g hg⟩) (fun _ g hg => H.own b _ hk rfl g hg) ⟨hft, by simp [hat]⟩,
            .of hgle (hb.trans ⟨rfl, rfl, rfl, by simp, fun k hkB => hoth k (by omega)⟩) rfl (by simp) (fun k hk hn => hoth k fun e => hn b hbn (by rw [hft, e]; simp)) (fun i hi g hg => .inl ⟨i, hi, hg⟩), by simp only [AV.is, AV.isL]; exact ⟨_, rfl, _, _, rfl, rfl, _, _, rfl, rfl, _, _, rfl, rfl, rfl⟩⟩
          · have hgo : (getObj (G.at_ b)).run P w = .ok (.stringIter s pos) w := by simp [getObj, Sem.run, hob]
            have hso : (setObj (G.at_ b) (.stringIter s (pos + (Utf8.decode s pos).2))).run P w = .ok () { w with heap := w.heap.setIfInBounds (G.at_ b) (.stringIter s (pos + (Utf8.decode s pos).2)) } := by simp [setObj, Sem.run, hob]
            simp [execOp, ho, hv, Instr.next, hgo, hlt, hso]
          · subst e
            exact H.inj j b hj hbn q _ hg (by rw [hft]; simp)
        · rename_i hge
          rw [forceL_eq] at hr
          refine .inl ⟨_, h, hr, AOk.of_run fun G w ρ H hΛ hb hop => ?_, Nat.le_refl _, fun e => by rw [ho] at e; cases e⟩
          have hv := hop it (by simp [ho, Op.operands])
          rw [hit] at hv; simp only [AV.is] at hv
          obtain ⟨hbn, hv⟩ := hv
          obtain ⟨hft, hob⟩ := H.blk b _ hk
          have hgo : (getObj (G.at_ b)).run P w = .ok (.stringIter s pos) w := by simp [getObj, Sem.run, hob]
          exact ⟨.value (.tuple #[.bool false]), _, w, G, by simp [execOp, ho, hv, Instr.next, hgo, hge], .inl rfl, H, .refl hb, by simp only [AV.is, AV.isL]; exact ⟨_, rfl, _, _, rfl, rfl, rfl⟩⟩
      · cases hr
    · cases hr
  · rename_i t x hi ho
    split at hr
    · rename_i rr q ik m hx hm
      split at hr
      · rename_i e e' v nb l ht hk
        split at hr
        · rename_i hc
          obtain ⟨rfl, rfl, hsz, h0, hle⟩ := hc
          rw [forceH_eq, forceL_eq] at hr
          refine .inl ⟨_, _, hr, AOk.of_run fun G w ρ H hΛ hb hop => ?_, by simp, fun e => by rw [ho] at e; cases e⟩
          have hv := hop x (by simp [ho, Op.operands])
          have hv2 := hop hi (by simp [ho, Op.operands])
          rw [hx] at hv; rw [hm] at hv2
          simp only [AV.is] at hv hv2
          obtain ⟨hrl, _, _, hval⟩ := hv
          obtain ⟨hver, _⟩ := H.blk rr _ hk
          obtain ⟨v', G', h1, h2, h3, h4, _⟩ := reslice_row H hb ht (by rw [hΛ]; exact hsz) hk (ik := ik) h0 hle
          refine ⟨.value v', v', w, G', ?_, .inl rfl, h2, h3, h4⟩
          have ex : execOp ρ o = (do pure (.value (← Instr.sliceAt t (ρ x) none (some (ρ hi)) none))) := by simp only [execOp, ho, Option.map_none, Option.map_some]
          rw [ex, hval hver, hv2, Sem.run_bind, h1]; rfl
        · cases hr
      · rename_i e e' v l ht hk
        split at hr
        · rename_i hc
          obtain ⟨rfl, rfl, hsz, h0, hle⟩ := hc
          rw [forceH_eq, forceL_eq] at hr
          refine .inl ⟨_, _, hr, AOk.of_run fun G w ρ H hΛ hb hop => ?_, by simp, fun e => by rw [ho] at e; cases e⟩
          have hv := hop x (by simp [ho, Op.operands])
          have hv2 := hop hi (by simp [ho, Op.operands])
          rw [hx] at hv; rw [hm] at hv2
          simp only [AV.is] at hv hv2
          obtain ⟨hrl, _, _, hval⟩ := hv
          obtain ⟨hver, _⟩ := H.blk rr _ hk
          obtain ⟨v', G', h1, h2, h3, h4⟩ := reslice_trow H hb ht (by rw [hΛ]; exact hsz) hk (ik := ik) h0 hle
          refine ⟨.value v', v', w, G', ?_, .inl rfl, h2, h3, h4⟩
          have ex : execOp ρ o = (do pure (.value (← Instr.sliceAt t (ρ x) none (some (ρ hi)) none))) := by simp only [execOp, ho, Option.map_none, Option.map_some]
          rw [ex, hval hver, hv2, Sem.run_bind, h1]; rfl
        · cases hr
      · cases hr
    · exact .inl (quiet _ ho hr)
  · exact .inl (quiet _ rfl hr)

end
end Go.Proofs.Qx

namespace Go.Proofs.Qx
open Go Go.RowKit
set_option linter.unusedVariables false
set_option linter.unusedSimpArgs false

structure St (Λ : Nat → List CK) (B : Nat) (wB : World) (gl : List (Nat × Nat)) (ds : List Deferred) (G0 : Gh) (w0 : World) (G : Gh) (fr : Fr) (h : Hp) (a : Act) (w : World) : Prop where
  size : a.tmps.size = fr.length
  slot : ∀ t, (fr.getD t .junk).is G w (a.tmps.getD t undef)
  heap : HRep G B h w
  gl : ∀ g i, gl.lookup g = some i → i < G0.n ∧ G.at_ i = g
  defs : a.defers = ds
  lay : G.lay = Λ
  mv : Mv B wB G0 w0 G w

section
variable {P : Program} {Λ : Nat → List CK} {B : Nat} {wB : World} {gl : List (Nat × Nat)} {ds : List Deferred} {G0 : Gh} {w0 : World} {G : Gh} {fr : Fr} {h : Hp} {a : Act} {w : World}
variable {α : Type} {GW : World → Prop} {Γ : List (Nat × CE)} {r : α}

theorem St.bel (S : St Λ B wB gl ds G0 w0 G fr h a w) : Bel B wB w := S.mv.below

theorem St.ev (S : St Λ B wB gl ds G0 w0 G fr h a w) : ∀ x : Operand, (ev gl fr x).is G w (a.eval x)
  | .tmp t => S.slot t
  | .const v => ofV_is G w v
  | .global g => by
    simp only [Qx.ev, Act.eval]
    cases hg : gl.lookup g with
    | none => simp [AV.is]
    | some i => simp only [AV.is]; exact ⟨Nat.lt_of_lt_of_le (S.gl g i hg).1 S.mv.le.n, by rw [(S.gl g i hg).2]⟩
  | .func f => by simp only [Qx.ev, Act.eval, AV.is]; exact ⟨#[], #[], rfl, rfl, rfl⟩

theorem slot_put {G : Gh} {w : World} {a : Act} {fr : Fr} (hs : a.tmps.size = fr.length) (hslot : ∀ t, (fr.getD t .junk).is G w (a.tmps.getD t undef)) (dst : Option Tmp) {av : AV} {v : Value} (hv : av.is G w v) :
    (a.put dst v).tmps.size = (putA fr dst av).length ∧ ∀ t, ((putA fr dst av).getD t .junk).is G w ((a.put dst v).tmps.getD t undef) := by
  cases dst with
  | none => exact ⟨hs, hslot⟩
  | some d =>
    refine ⟨by simp [Act.put, putA, hs], fun t => ?_⟩
    simp only [Act.put, putA]
    have := hslot t
    rw [List.getD_eq_getElem?_getD, List.getElem?_set]
    rw [Array.getD_eq_getD_getElem?, Array.getElem?_setIfInBounds]
    by_cases e : d = t
    · subst e
      by_cases q : d < fr.length
      · simp [q, hs]; exact hv
      · simp [q, hs]; exact trivial
    · simp only [e, if_false]
      rw [List.getD_eq_getElem?_getD, Array.getD_eq_getD_getElem?] at this
      exact this

theorem St.put (S : St Λ B wB gl ds G0 w0 G fr h a w) (dst : Option Tmp) {av : AV} {v : Value} (hv : av.is G w v) : St Λ B wB gl ds G0 w0 G (putA fr dst av) h (a.put dst v) w := by
  obtain ⟨h1, h2⟩ := slot_put S.size S.slot dst hv
  exact ⟨h1, h2, S.heap, S.gl, by cases dst <;> exact S.defs, S.lay, S.mv⟩

theorem St.move (S : St Λ B wB gl ds G0 w0 G fr h a w) {G' : Gh} {h' : Hp} {w' : World} (H : HRep G' B h' w') (m : Mv B wB G w G' w') : St Λ B wB gl ds G0 w0 G' fr h' a w' :=
  ⟨S.size, fun t => AV.is_mono m.le _ _ (S.slot t), H, fun g i q => ⟨(S.gl g i q).1, by rw [m.le.at_ i (Nat.lt_of_lt_of_le (S.gl g i q).1 S.mv.le.n)]; exact (S.gl g i q).2⟩, S.defs,
    by rw [m.le.lay, S.lay], S.mv.trans m⟩

theorem set_same {fr : Fr} {t : Nat} {v : AV} (hv : v ≠ .junk) (h : fr.getD t .junk = v) : fr.set t v = fr := by
  apply List.ext_getElem?
  intro i
  rw [List.getElem?_set]
  by_cases e : t = i
  · subst e
    by_cases q : t < fr.length
    · rw [if_pos rfl, if_pos q]
      rw [List.getD_eq_getElem?_getD, List.getElem?_eq_getElem q] at h
      simp at h
      rw [List.getElem?_eq_getElem q, h]
    · rw [List.getD_eq_getElem?_getD, List.getElem?_eq_none (by omega)] at h
      exact absurd h.symm hv
  · rw [if_neg e]

def Wants (ops : List Oper) (o : Oper) (fr : Fr) (b : Bool) : Prop :=
  (o.guard = none ∧ b = true) ∨ (∃ j want t c, o.guard = some (j, want) ∧ (ops[j]?).bind (·.dst) = some t ∧ fr.getD t .junk = .bool c ∧ b = (c == want)) ∨
    (∃ j want t l, o.guard = some (j, want) ∧ (ops[j]?).bind (·.dst) = some t ∧ fr.getD t .junk = .tup l ∧ b = false)

theorem guardA_sound {ops : List Oper} {o : Oper} {yes no : Fr → Option α} (hr : guardA ops fr o yes no = some r) :
    (Wants ops o fr true ∧ yes fr = some r) ∨ (Wants ops o fr false ∧ no fr = some r) := by
  unfold guardA at hr
  split at hr
  · rename_i hg; exact .inl ⟨.inl ⟨hg, rfl⟩, hr⟩
  · rename_i j want hg
    split at hr
    · cases hr
    · rename_i t ht
      split at hr
      · rename_i b hb
        cases b
        · simp only [forceL_eq] at hr
          rw [set_same (by simp) hb] at hr
          cases want
          · exact .inl ⟨.inr (.inl ⟨j, false, t, false, hg, ht, hb, rfl⟩), hr⟩
          · exact .inr ⟨.inr (.inl ⟨j, true, t, false, hg, ht, hb, rfl⟩), hr⟩
        · simp only [forceL_eq] at hr
          rw [set_same (by simp) hb] at hr
          cases want
          · exact .inr ⟨.inr (.inl ⟨j, false, t, true, hg, ht, hb, rfl⟩), hr⟩
          · exact .inl ⟨.inr (.inl ⟨j, true, t, true, hg, ht, hb, rfl⟩), hr⟩
      · rename_i l hb
        exact .inr ⟨.inr (.inr ⟨j, want, t, l, hg, ht, hb, rfl⟩), hr⟩
      · cases hr

theorem bool_slot {G : Gh} {w : World} {tmps : Array Value} {t : Nat} {b : Bool} (h : (AV.bool b).is G w (tmps.getD t undef)) : tmps[t]? = some (.bool b) := by
  simp only [AV.is] at h
  rw [Array.getD_eq_getD_getElem?] at h
  cases q : tmps[t]? with
  | none => rw [q] at h; simp [undef] at h
  | some v => rw [q] at h; simp at h; rw [h]

theorem wanted_of {ops : Array Oper} {o : Oper} {b : Bool} (hw : Wants ops.toList o fr b) {tmps : Array Value} (hs : ∀ j want t, o.guard = some (j, want) → (ops.toList[j]?).bind (·.dst) = some t → (fr.getD t .junk).is G w (tmps.getD t undef)) :
    Region.wanted o (yielded ops tmps) = b := by
  unfold Region.wanted
  rcases hw with ⟨hg, rfl⟩ | ⟨j, want, t, c, hg, ht, hc, rfl⟩ | ⟨j, want, t, l, hg, ht, hc, rfl⟩
  · rw [hg]
  · rw [hg]
    have := hs j want t hg ht
    rw [hc] at this
    have e := bool_slot this
    have ht' : (ops[j]?).bind (·.dst) = some t := by simpa using ht
    simp only [yielded, ht', Option.bind_some, e]
    cases c <;> cases want <;> rfl
  · rw [hg]
    have := hs j want t hg ht
    rw [hc] at this
    simp only [AV.is] at this
    obtain ⟨a, ha, _⟩ := this
    have ht' : (ops[j]?).bind (·.dst) = some t := by simpa using ht
    rw [Array.getD_eq_getD_getElem?] at ha
    simp only [yielded, ht', Option.bind_some]
    cases q : tmps[t]? with
    | none => rfl
    | some v =>
      rw [q] at ha
      simp only [Option.getD_some] at ha
      subst ha
      rfl


def Ways (Λ : Nat → List CK) (B : Nat) (wB : World) (gl : List (Nat × Nat)) (fr : Fr) (h : Hp) (e : Exit) (fr' : Fr) (h' : Hp) (n0 : Nat) (W : (Exit → Act → World → Prop) → Act → World → Prop) : Prop :=
  ∀ (ds : List Deferred) (G0 : Gh) (w0 : World) (G : Gh) (a : Act) (w : World) (Q : Exit → Act → World → Prop), G0.n ≤ n0 → St Λ B wB gl ds G0 w0 G fr h a w → (∀ G' a' w', St Λ B wB gl ds G0 w0 G' fr' h' a' w' → Q e a' w') → W Q a w

theorem opsA_path (hΓ : AllOk P GW Λ Γ) (stab : ∀ w', Bel B wB w' → GW w') {inl : Nat → List AV → Hp → (Res → Hp → Option α) → Option α} (hinl : InlOk P Λ B wB inl) {ops : Array Oper} {k : Exit → Fr → Hp → Option α} (n0 : Nat) :
    ∀ (rest : List Oper) (i : Nat) (fr : Fr) (h : Hp), ops.toList.drop i = rest → opsA P Λ Γ gl inl ops.toList rest fr h k = some r →
      ∃ e fr' h', k e fr' h' = some r ∧ Ways Λ B wB gl fr h e fr' h' n0 (fun Q => wpOps P ops Q (List.range' i rest.length))
  | [], i, fr, h, hd, hr => by
    simp only [opsA] at hr
    refine ⟨.normal, fr, h, hr, fun ds G0 w0 G a w Q _ S hk => ?_⟩
    simp only [List.length_nil, List.range'_zero, wpOps]
    exact hk _ _ _ S
  | o :: rest, i, fr, h, hd, hr => by
    have hi : ops[i]? = some o := by
      have : (ops.toList.drop i)[0]? = some o := by rw [hd]; rfl
      rw [List.getElem?_drop] at this
      simpa using this
    have hd' : ops.toList.drop (i + 1) = rest := by
      have e := congrArg (List.drop 1) hd
      rwa [List.drop_drop, List.drop_one, List.tail_cons] at e
    simp only [opsA] at hr
    rcases guardA_sound hr with ⟨hw, hr⟩ | ⟨hw, hr⟩
    · rcases doA_path hΓ stab hinl hr with ⟨av, h1, hk1, hA, _, _⟩ | ⟨v, h1, hk1, hA⟩
      · obtain ⟨e, fr', h', hk, hW⟩ := opsA_path hΓ stab hinl n0 rest (i + 1) _ h1 hd' hk1
        refine ⟨e, fr', h', hk, fun ds G0 w0 G a w Q hn S hq => ?_⟩
        simp only [List.length_cons, List.range'_succ, wpOps, hi]
        rw [wanted_of hw fun j want t _ _ => S.slot t, if_pos rfl]
        refine .inl (hA G w a _ Q S.heap S.lay S.bel (fun x _ => S.ev x) fun G' v w' H' m hv => ?_)
        exact hW ds G0 w0 G' _ w' Q hn ((S.move H' m).put o.dst hv) hq
      · refine ⟨_, fr, h1, hk1, fun ds G0 w0 G a w Q hn S hq => ?_⟩
        simp only [List.length_cons, List.range'_succ, wpOps, hi]
        rw [wanted_of hw fun j want t _ _ => S.slot t, if_pos rfl]
        exact .inl (hA G w a _ Q S.heap S.lay S.bel (fun x _ => S.ev x) fun G' w' H' m => hq G' a w' (S.move H' m))
    · rw [forceL_eq] at hr
      obtain ⟨e, fr', h', hk, hW⟩ := opsA_path hΓ stab hinl n0 rest (i + 1) _ h hd' hr
      refine ⟨e, fr', h', hk, fun ds G0 w0 G a w Q hn S hq => ?_⟩
      simp only [List.length_cons, List.range'_succ, wpOps, hi]
      rw [wanted_of hw fun j want t _ _ => S.slot t, if_neg (by simp)]
      exact hW ds G0 w0 G _ w Q hn (S.put o.dst (by simp only [AV.is]; exact ⟨#[], rfl, rfl⟩)) hq

theorem orderly_edge {ops : List Oper} {ks : List Nat} (ho : orderly ops ks = true) {i : Nat} {o : Oper} (hi : ops[i]? = some o) {e : Edge} (he : e ∈ o.after.toList) (hb : Region.binds .any e = true) : e.on < i := by
  unfold orderly at ho
  rw [List.all_eq_true] at ho
  have hm : (o, i) ∈ ops.zipIdx := by
    rw [List.mem_iff_getElem?]; exact ⟨i, by simp [List.getElem?_zipIdx, hi]⟩
  have := ho _ hm
  simp only [Bool.and_eq_true, List.all_eq_true] at this
  have := this.1.1 e he
  simpa [hb] using this

theorem orderly_acts {ops : List Oper} {ks : List Nat} (ho : orderly ops ks = true) {i j : Nat} {o p : Oper} (hi : ops[i]? = some o) (hj : ops[j]? = some p)
    (h : (ks.getD i 0 ≠ 0 ∧ ks.getD j 0 ≠ 0) ∨ (readsM o.op = true ∧ ks.getD j 0 = 2) ∨ (ks.getD i 0 = 2 ∧ readsM p.op = true)) (hlt : j < i) :
    reachB ops 5 i j = true := by
  unfold orderly at ho
  rw [List.all_eq_true] at ho
  have hm : (o, i) ∈ ops.zipIdx := by
    rw [List.mem_iff_getElem?]; exact ⟨i, by simp [List.getElem?_zipIdx, hi]⟩
  have hm2 : (p, j) ∈ ops.zipIdx := by
    rw [List.mem_iff_getElem?]; exact ⟨j, by simp [List.getElem?_zipIdx, hj]⟩
  have := ho _ hm
  simp only [Bool.and_eq_true, List.all_eq_true] at this
  have := this.1.2 _ hm2
  have hcond : (ks.getD i 0 != 0 && ks.getD j 0 != 0 || readsM o.op && ks.getD j 0 == 2 || ks.getD i 0 == 2 && readsM p.op) = true := by
    rcases h with ⟨a, b⟩ | ⟨a, b⟩ | ⟨a, b⟩
    · rw [bne_iff_ne.2 a, bne_iff_ne.2 b]; rfl
    · rw [a, beq_iff_eq.2 b]; simp
    · rw [b, beq_iff_eq.2 a]; simp
  simp only [hcond, Bool.not_true, Bool.false_or, Bool.or_eq_true, decide_eq_true_eq] at this
  rcases this with q | q
  · omega
  · exact q

theorem orderly_dst {ops : List Oper} {ks : List Nat} (ho : orderly ops ks = true) {i j : Nat} {o p : Oper} (hi : ops[i]? = some o) (hj : ops[j]? = some p) {t : Tmp} (ht : p.dst = some t) :
    (i = j ∨ o.dst ≠ some t) ∧ (t ∈ looks ops o → (j < i ∧ reachB ops 5 i j = true) ∨ (i < j ∧ reachB ops 5 j i = true)) := by
  unfold orderly at ho
  rw [List.all_eq_true] at ho
  have hm : (o, i) ∈ ops.zipIdx := by
    rw [List.mem_iff_getElem?]; exact ⟨i, by simp [List.getElem?_zipIdx, hi]⟩
  have hm2 : (p, j) ∈ ops.zipIdx := by
    rw [List.mem_iff_getElem?]; exact ⟨j, by simp [List.getElem?_zipIdx, hj]⟩
  have := ho _ hm
  simp only [Bool.and_eq_true, List.all_eq_true] at this
  have := this.2 _ hm2
  simp only [ht, Bool.and_eq_true, Bool.or_eq_true, beq_iff_eq, bne_iff_ne, ne_eq, Bool.not_eq_true', decide_eq_true_eq, List.any_eq_true] at this
  obtain ⟨h1, h2⟩ := this
  refine ⟨h1, fun hl => ?_⟩
  rcases h2 with (h2 | h2) | h2
  · rw [List.contains_eq_any_beq] at h2
    rw [List.any_eq_false] at h2
    exact absurd (BEq.rfl (a := t)) (h2 t hl)
  · exact .inl h2
  · exact .inr h2

theorem reach_to {ops : List Oper} {L : Nat → Prop} (hL : ∀ k p, ops[k]? = some p → L k → ∀ e ∈ p.after.toList, Region.binds .any e = true → L e.on) :
    ∀ (n i j : Nat), reachB ops n i j = true → (∀ o, ops[i]? = some o → ∀ e ∈ o.after.toList, Region.binds .any e = true → L e.on) → L j
  | 0, i, j, h, h0 => by
    simp only [reachB] at h
    cases ho : ops[i]? with
    | none => rw [ho] at h; cases h
    | some o =>
      rw [ho] at h
      simp only [Option.any_some, List.any_eq_true, Bool.and_eq_true, beq_iff_eq] at h
      obtain ⟨e, he, hb, rfl⟩ := h
      exact h0 o ho e he hb
  | n + 1, i, j, h, h0 => by
    simp only [reachB] at h
    cases ho : ops[i]? with
    | none => rw [ho] at h; cases h
    | some o =>
      rw [ho] at h
      simp only [Option.any_some, List.any_eq_true, Bool.and_eq_true, Bool.or_eq_true, beq_iff_eq] at h
      obtain ⟨e, he, hb, rfl | hr⟩ := h
      · exact h0 o ho e he hb
      · exact reach_to hL n e.on j hr fun o' ho' e' he' hb' => hL e.on o' ho' (h0 o ho e he hb) e' he' hb'

theorem putA_len (f : Fr) (d : Option Tmp) (v : AV) : (putA f d v).length = f.length := by cases d <;> simp [putA]
theorem putA_other (f : Fr) (d : Option Tmp) (v : AV) (t : Nat) (h : d ≠ some t) : (putA f d v).getD t .junk = f.getD t .junk := by
  cases d with
  | none => rfl
  | some d =>
    simp only [putA]
    rw [List.getD_eq_getElem?_getD, List.getD_eq_getElem?_getD, List.getElem?_set, if_neg (fun e => h (by rw [e]))]


end
end Go.Proofs.Qx

namespace Go.Proofs.Qx
open Go Go.RowKit
set_option linter.unusedVariables false
set_option linter.unusedSimpArgs false

section
variable {P : Program} {Λ : Nat → List CK} {B : Nat} {wB : World} {gl : List (Nat × Nat)} {ds : List Deferred} {G0 : Gh} {w0 : World} {G : Gh} {fr : Fr} {h : Hp} {a : Act} {w : World}
variable {α : Type} {GW : World → Prop} {Γ : List (Nat × CE)} {r : α}

def Goes (P : Program) (GW : World → Prop) (Λ : Nat → List CK) (B : Nat) (wB : World) (gl : List (Nat × Nat)) (ops : List Oper) (kd : Nat) (o : Oper) (f : Fr) (h : Hp) (f' : Fr) (h' : Hp) : Prop :=
  ∃ av, f' = putA f o.dst av ∧
    ((Wants ops o f true ∧ kd = 0 ∧ h' = h ∧ QOk P GW Λ h o (ev gl f) av) ∨ (Wants ops o f false ∧ kd = 0 ∧ h' = h ∧ av = .tup []) ∨
     (Wants ops o f true ∧ kd ≠ 0 ∧ h.length ≤ h'.length ∧ (kd ≠ 2 → Compat h h') ∧ AOk P Λ B wB o (ev gl f) h h' av))

section chain
variable {ops : List Oper} {K : Nat → Nat} {F : Nat → Fr} {H : Nat → Hp} (hF : ∀ j o, ops[j]? = some o → Goes P GW Λ B wB gl ops (K j) o (F j) (H j) (F (j + 1)) (H (j + 1)))

theorem chain_len (hF : ∀ j o, ops[j]? = some o → Goes P GW Λ B wB gl ops (K j) o (F j) (H j) (F (j + 1)) (H (j + 1))) : ∀ i, i ≤ ops.length → (F i).length = (F 0).length
  | 0, _ => rfl
  | i + 1, hi => by
    obtain ⟨av, e, _⟩ := hF i ops[i] (List.getElem?_eq_getElem (by omega))
    rw [e, putA_len]; exact chain_len hF i (by omega)

theorem chain_still (hF : ∀ j o, ops[j]? = some o → Goes P GW Λ B wB gl ops (K j) o (F j) (H j) (F (j + 1)) (H (j + 1))) (t : Nat) (i : Nat) : ∀ n, i + n ≤ ops.length → (∀ j o, i ≤ j → j < i + n → ops[j]? = some o → o.dst ≠ some t) →
    (F (i + n)).getD t .junk = (F i).getD t .junk
  | 0, _, _ => rfl
  | n + 1, hn, hno => by
    have hj : ops[i + n]? = some ops[i + n] := List.getElem?_eq_getElem (by omega)
    obtain ⟨av, e, _⟩ := hF (i + n) ops[i + n] hj
    rw [show i + (n + 1) = i + n + 1 by omega, e, putA_other _ _ _ _ (hno (i + n) _ (by omega) (by omega) hj)]
    exact chain_still hF t i n (by omega) fun j o h1 h2 => hno j o h1 (by omega)
theorem chain_mem (hF : ∀ j o, ops[j]? = some o → Goes P GW Λ B wB gl ops (K j) o (F j) (H j) (F (j + 1)) (H (j + 1))) (i : Nat) : ∀ n, i + n ≤ ops.length → (H i).length ≤ (H (i + n)).length ∧
    ((∀ j o, i ≤ j → j < i + n → ops[j]? = some o → K j ≠ 2) → Compat (H i) (H (i + n)))
  | 0, _ => ⟨Nat.le_refl _, fun _ => Compat.refl _⟩
  | n + 1, hn => by
    obtain ⟨hl, hc⟩ := chain_mem hF i n (by omega)
    have hj : ops[i + n]? = some ops[i + n] := List.getElem?_eq_getElem (by omega)
    rw [show i + (n + 1) = i + n + 1 by omega]
    obtain ⟨av, _, ⟨_, _, eh, _⟩ | ⟨_, _, eh, _⟩ | ⟨_, _, hlen, hcp, _⟩⟩ := hF (i + n) ops[i + n] hj
    · rw [eh]; exact ⟨hl, fun hno => hc fun j o h1 h2 => hno j o h1 (by omega)⟩
    · rw [eh]; exact ⟨hl, fun hno => hc fun j o h1 h2 => hno j o h1 (by omega)⟩
    · refine ⟨by omega, fun hno b hb1 hb2 => ?_⟩
      have h1 := hc fun j o h1 h2 => hno j o h1 (by omega)
      have h2 := hcp (hno (i + n) _ (by omega) (by omega) hj)
      rw [h2 b hb1 (by omega), h1 b (by omega) hb2]

theorem chain_same (hF : ∀ j o, ops[j]? = some o → Goes P GW Λ B wB gl ops (K j) o (F j) (H j) (F (j + 1)) (H (j + 1))) (i : Nat) : ∀ n, i + n ≤ ops.length → (∀ j o, i ≤ j → j < i + n → ops[j]? = some o → K j = 0) → H (i + n) = H i
  | 0, _, _ => rfl
  | n + 1, hn, hno => by
    have hj : ops[i + n]? = some ops[i + n] := List.getElem?_eq_getElem (by omega)
    have ih := chain_same hF i n (by omega) fun j o h1 h2 => hno j o h1 (by omega)
    obtain ⟨av, _, ⟨_, _, eh, _⟩ | ⟨_, _, eh, _⟩ | ⟨_, hm, _⟩⟩ := hF (i + n) ops[i + n] hj
    · rw [show i + (n + 1) = i + n + 1 by omega, eh, ih]
    · rw [show i + (n + 1) = i + n + 1 by omega, eh, ih]
    · exact absurd (hno (i + n) _ (by omega) (by omega) hj) hm

theorem chain_compat (hF : ∀ j o, ops[j]? = some o → Goes P GW Λ B wB gl ops (K j) o (F j) (H j) (F (j + 1)) (H (j + 1))) {i p : Nat} (hi : i ≤ ops.length) (hp : p ≤ ops.length)
    (hno : ∀ j o, (i ≤ j ∧ j < p) ∨ (p ≤ j ∧ j < i) → ops[j]? = some o → K j ≠ 2) : Compat (H i) (H p) := by
  rcases Nat.le_total i p with q | q
  · have := (chain_mem hF i (p - i) (by omega)).2 fun j o h1 h2 => hno j o (.inl ⟨h1, by omega⟩)
    rwa [show i + (p - i) = p by omega] at this
  · have := (chain_mem hF p (i - p) (by omega)).2 fun j o h1 h2 => hno j o (.inr ⟨h1, by omega⟩)
    rw [show p + (i - p) = i by omega] at this
    exact fun b h1 h2 => (this b h2 h1).symm
end chain

structure Mid (Λ : Nat → List CK) (B : Nat) (wB : World) (ops : List Oper) (K : Nat → Nat) (F : Nat → Fr) (H : Nat → Hp) (p : Nat) (gl : List (Nat × Nat)) (ds : List Deferred) (G0 : Gh) (w0 : World) (listed : Array Bool) (G : Gh) (a : Act) (w : World) : Prop where
  size : a.tmps.size = (F 0).length
  done : ∀ j o t, ops[j]? = some o → o.dst = some t → listed.getD j true = true → ((F ops.length).getD t .junk).is G w (a.tmps.getD t undef)
  open_ : ∀ t, (∀ j o, ops[j]? = some o → o.dst = some t → listed.getD j true = false) → ((F 0).getD t .junk).is G w (a.tmps.getD t undef)
  heap : HRep G B (H p) w
  ple : p ≤ ops.length
  mks : ∀ j o, ops[j]? = some o → K j ≠ 0 → (j < p ↔ listed.getD j true = true)
  closed : ∀ j o, ops[j]? = some o → listed.getD j true = true → ∀ e ∈ o.after.toList, Region.binds .any e = true → listed.getD e.on false = true
  gl : ∀ g i, gl.lookup g = some i → i < G0.n ∧ G.at_ i = g
  defs : a.defers = ds
  lay : G.lay = Λ
  mv : Mv B wB G0 w0 G w
  lsize : ops.length ≤ listed.size

theorem ready_of {ops : Array Oper} {listed : Array Bool} {i : Nat} : i ∈ Region.ready .any ops listed ↔ i < ops.size ∧ listed.getD i true = false ∧ ∃ o, ops[i]? = some o ∧ ∀ e ∈ o.after.toList, Region.binds .any e = true → listed.getD e.on false = true := by
  unfold Region.ready
  simp only [List.mem_filter, List.mem_range, Bool.and_eq_true, Bool.not_eq_true']
  constructor
  · rintro ⟨h1, h2, h3⟩
    refine ⟨h1, h2, ops[i], by simp [h1], fun e he hb => ?_⟩
    have hg : ops[i]? = some ops[i] := by simp [h1]
    rw [hg] at h3
    simp only [Option.map_some, Option.getD_some, Array.all_eq_true_iff_forall_mem] at h3
    have := h3 e (by simpa using he)
    simpa [hb] using this
  · rintro ⟨h1, h2, o, ho, h3⟩
    refine ⟨h1, h2, ?_⟩
    rw [ho]
    simp only [Option.map_some, Option.getD_some, Array.all_eq_true_iff_forall_mem]
    intro e he
    by_cases hb : Region.binds .any e = true
    · simp [h3 e (by simpa using he) hb]
    · simp [hb]

theorem getD_set {l : Array Bool} {i j : Nat} {d : Bool} (hi : i < l.size) : (l.setIfInBounds i true).getD j d = if i = j then true else l.getD j d := by
  rw [Array.getD_eq_getD_getElem?, Array.getD_eq_getD_getElem?, Array.getElem?_setIfInBounds]
  by_cases e : i = j
  · subst e; simp [hi]
  · simp [e]

theorem wanted_take {ops : Array Oper} {m : Nat} {L : List Oper} (hL : L = ops.toList.take m) {o : Oper} {b : Bool} (hw : Wants L o fr b) {tmps : Array Value}
    (hs : ∀ j want t, o.guard = some (j, want) → (L[j]?).bind (·.dst) = some t → (fr.getD t .junk).is G w (tmps.getD t undef)) : Region.wanted o (yielded ops tmps) = b := by
  have key : ∀ (j : Nat) (t : Tmp), (L[j]?).bind (fun x : Oper => x.dst) = some t → (ops.toList[j]?).bind (fun x : Oper => x.dst) = some t ∧ True := fun j t h => by
    rw [hL, List.getElem?_take] at h
    split at h
    · exact ⟨h, trivial⟩
    · cases h
  have hw' : Wants ops.toList o fr b := by
    rcases hw with h | ⟨j, want, t, c, h1, h2, h3⟩ | ⟨j, want, t, l, h1, h2, h3⟩
    · exact .inl h
    · exact .inr (.inl ⟨j, want, t, c, h1, (key j t h2).1, h3⟩)
    · exact .inr (.inr ⟨j, want, t, l, h1, (key j t h2).1, h3⟩)
  refine wanted_of hw' fun j want t hg ht => hs j want t hg ?_
  rcases hw with ⟨h, _⟩ | ⟨j', want', t', c, h1, h2, _⟩ | ⟨j', want', t', l, h1, h2, _⟩
  · rw [h] at hg; cases hg
  · rw [h1] at hg; cases hg
    have := (key j t' h2).1
    rw [this] at ht; cases ht; exact h2
  · rw [h1] at hg; cases hg
    have := (key j t' h2).1
    rw [this] at ht; cases ht; exact h2

theorem open_soundM (stab : ∀ w', Bel B wB w' → GW w') {ops : Array Oper} {m : Nat} (hm_ : m ≤ ops.size) {L : List Oper} (hL_ : L = ops.toList.take m)
    (hlate : ∀ j o, m ≤ j → ops[j]? = some o → ∀ i, i < m → ∃ e ∈ o.after.toList, Region.binds .any e = true ∧ e.on = i) {K : Nat → Nat} {ks : List Nat} (hK : ∀ j, ks.getD j 0 = K j) {F : Nat → Fr} {H : Nat → Hp} (hord : orderly L ks = true)
    (hF : ∀ j o, L[j]? = some o → Goes P GW Λ B wB gl L (K j) o (F j) (H j) (F (j + 1)) (H (j + 1))) {Q : Exit → Act → World → Prop}
    (hQ : ∀ (fuel : Nat) (listed : Array Bool) G a w, listed.size = ops.size → (∀ i, i < m → listed.getD i true = true) → (∀ i, m ≤ i → i < ops.size → listed.getD i true = false) → listed.toList.count false = fuel → St Λ B wB gl ds G0 w0 G (F m) (H m) a w → wpAny P .any ops Q fuel listed a w) :
    ∀ (fuel : Nat) (listed : Array Bool) (p : Nat) (G : Gh) (a : Act) (w : World), Mid Λ B wB L K F H p gl ds G0 w0 listed G a w → listed.size = ops.size → (∀ i, m ≤ i → i < ops.size → listed.getD i true = false) → listed.toList.count false = fuel → wpAny P .any ops Q fuel listed a w := by
  have hlen : L.length = m := by rw [hL_, List.length_take, Array.length_toList]; exact Nat.min_eq_left hm_
  have hLg : ∀ i, i < m → L[i]? = ops[i]? := fun i hi => by rw [hL_, List.getElem?_take, if_pos hi]; simp
  -- the end
  have fin : ∀ (listed : Array Bool) (p : Nat) (G : Gh) (a : Act) (w : World), Mid Λ B wB L K F H p gl ds G0 w0 listed G a w → (∀ i, i < m → listed.getD i true = true) → St Λ B wB gl ds G0 w0 G (F m) (H m) a w := by
    intro listed p G a w M hall
    have hp : H m = H p := by
      have hple := M.ple
      have e := chain_same hF p (m - p) (by omega) fun j o h1 h2 hj => by
        by_cases q : K j = 0
        · exact q
        · have := (M.mks j o hj q).2 (hall j (by omega))
          omega
      rwa [show p + (m - p) = m by omega] at e
    refine ⟨?_, fun t => ?_, by rw [hp]; exact M.heap, M.gl, M.defs, M.lay, M.mv⟩
    · rw [M.size, ← chain_len hF m (by omega)]
    · by_cases q : ∃ (j : Nat) (o : Oper), L[j]? = some o ∧ o.dst = some t
      · obtain ⟨j, o, hj, ht⟩ := q
        have hlt : j < L.length := (List.getElem?_eq_some_iff.1 hj).1
        have := M.done j o t hj ht (hall j (by omega))
        rwa [hlen] at this
      · have e := chain_still hF t 0 m (by omega) fun j o _ _ hj ht => q ⟨j, o, hj, ht⟩
        rw [Nat.zero_add] at e
        rw [e]
        exact M.open_ t fun j o hj ht => absurd ⟨j, o, hj, ht⟩ q
  have noready : ∀ (listed : Array Bool), listed.size = ops.size → Region.ready .any ops listed = [] → ∀ i, i < m → listed.getD i true = true := by
    intro listed hs hr i
    induction i using Nat.strongRecOn with
    | _ i ih =>
      intro hi
      cases hq : listed.getD i true with
      | true => rfl
      | false =>
        exfalso
        have hi2 : i < ops.size := by omega
        have hoi : L[i]? = some ops[i] := by rw [hLg i hi]; simp [hi2]
        have : i ∈ Region.ready .any ops listed := ready_of.2 ⟨hi2, hq, ops[i], by simp [hi2], fun e he hb => by
          have hlt := orderly_edge hord hoi he hb
          have := ih e.on hlt (by omega)
          rw [Array.getD_eq_getD_getElem?] at this ⊢
          rw [Array.getElem?_eq_getElem (by omega)] at this ⊢
          simpa using this⟩
        rw [hr] at this; cases this
  intro fuel
  induction fuel with
  | zero =>
    intro listed p G a w M hls hlt_ hc
    refine hQ 0 listed G a w hls (fun i hi => ?_) hlt_ hc (fin listed p G a w M fun i hi => ?_)
    all_goals
      have hz : listed.toList.count false = 0 := by omega
      rw [List.count_eq_zero] at hz
      rw [Array.getD_eq_getD_getElem?]
      cases hg : listed[i]? with
      | none => rfl
      | some b =>
        cases b with
        | true => rfl
        | false => exact absurd (List.mem_iff_getElem?.2 ⟨i, by simpa using hg⟩) hz
  | succ fuel ih =>
    intro listed p G a w M hls hlt_ hc
    have hple := M.ple
    by_cases hall_ : ∀ i, i < m → listed.getD i true = true
    · exact hQ _ listed G a w hls hall_ hlt_ hc (fin listed p G a w M hall_)
    have hex_ : ∃ i0, i0 < m ∧ listed.getD i0 true = false := by
      refine Classical.byContradiction fun hno => hall_ fun i hi => ?_
      cases hq : listed.getD i true with
      | true => rfl
      | false => exact absurd ⟨i, hi, hq⟩ hno
    obtain ⟨i0, hi0, hq0⟩ := hex_
    refine ⟨fun hr => absurd (noready listed hls hr) hall_, fun i hi => ?_⟩
    obtain ⟨hlt0, hun, o, ho, hedge⟩ := ready_of.1 hi
    have hlt : i < m := by
      refine Nat.lt_of_not_le fun hge => ?_
      obtain ⟨e, he, hb, hon⟩ := hlate i o hge ho i0 hi0
      have := hedge e he hb
      rw [hon, Array.getD_eq_getD_getElem?, Array.getElem?_eq_getElem (by omega)] at this
      rw [Array.getD_eq_getD_getElem?, Array.getElem?_eq_getElem (by omega)] at hq0
      simp only [Option.getD_some] at this hq0
      rw [this] at hq0; cases hq0
    have hol : L[i]? = some o := by rw [hLg i hlt]; exact ho
    have hil : i < listed.size := by omega
    have stepL : ∀ k q, L[k]? = some q → listed.getD k false = true → ∀ e ∈ q.after.toList, Region.binds .any e = true → listed.getD e.on false = true := fun k q hk hl e he hb => M.closed k q hk (by
      have hkl : k < listed.size := by have := (List.getElem?_eq_some_iff.1 hk).1; omega
      rw [Array.getD_eq_getD_getElem?, Array.getElem?_eq_getElem hkl] at hl ⊢
      simpa using hl) e he hb
    have hre : ∀ j, reachB L 5 i j = true → listed.getD j false = true := fun j hr => reach_to (L := fun k => listed.getD k false = true) stepL 5 i j hr fun o' ho' e he hb => by
      rw [hol] at ho'; cases ho'
      exact hedge e he hb
    have hrc : ∀ j o', L[j]? = some o' → listed.getD j true = true → ∀ i', reachB L 5 j i' = true → listed.getD i' false = true := fun j o' hj hl i' hr => reach_to (L := fun k => listed.getD k false = true) stepL 5 j i' hr fun o2 ho2 e he hb => by
      rw [hj] at ho2; cases ho2
      exact M.closed j o' hj hl e he hb
    have hcount : (listed.setIfInBounds i true).toList.count false = fuel := by
      have hgi : listed.toList[i]'(by simpa using hil) = false := by
        rw [Array.getD_eq_getD_getElem?, Array.getElem?_eq_getElem hil] at hun
        simpa using hun
      rw [Array.toList_setIfInBounds, List.count_set (h := by simpa using hil)]
      simp only [hgi]
      have hpos : 0 < listed.toList.count false := List.count_pos_iff.2 (List.mem_iff_getElem.2 ⟨i, by simpa using hil, hgi⟩)
      rw [if_pos (by decide), if_neg (by decide)]
      omega
    -- the places it looks at read as the frame ahead of it says
    have look : ∀ t ∈ looks L o, ((F i).getD t .junk).is G w (a.tmps.getD t undef) := by
      intro t ht
      by_cases q : ∃ (j : Nat) (p : Oper), L[j]? = some p ∧ p.dst = some t
      · obtain ⟨j, p, hj, hp⟩ := q
        -- between j + 1 and i, and to the end, nobody else writes it
        have only : ∀ j' p', L[j']? = some p' → j' ≠ j → p'.dst ≠ some t := fun j' p' hj' hne => by
          rcases (orderly_dst hord hj' hj hp).1 with q | q
          · exact absurd q hne
          · exact q
        rcases (orderly_dst hord hol hj hp).2 ht with ⟨hji, hrch⟩ | ⟨hij, hrch⟩
        · have hlj : listed.getD j true = true := by
            have := hre j hrch
            rw [Array.getD_eq_getD_getElem?] at this ⊢
            rw [Array.getElem?_eq_getElem (by omega)] at this ⊢
            simpa using this
          have := M.done j p t hj hp hlj
          rw [hlen] at this
          have e1 := chain_still hF t (j + 1) (i - (j + 1)) (by omega) fun j' p' h1 h2 hj' => only j' p' hj' (by omega)
          have e2 := chain_still hF t (j + 1) (m - (j + 1)) (by omega) fun j' p' h1 h2 hj' => only j' p' hj' (by omega)
          rw [show j + 1 + (i - (j + 1)) = i by omega] at e1
          rw [show j + 1 + (m - (j + 1)) = m by omega] at e2
          rw [e1, ← e2]; exact this
        · have hlj : listed.getD j true = false := by
            cases hq : listed.getD j true with
            | false => rfl
            | true =>
              have := hrc j p hj hq i hrch
              rw [Array.getD_eq_getD_getElem?] at this hun
              rw [Array.getElem?_eq_getElem hil] at this hun
              simp only [Option.getD_some] at this hun
              rw [this] at hun; cases hun
          have e1 := chain_still hF t 0 i (by omega) fun j' p' h1 h2 hj' => only j' p' hj' (by omega)
          rw [Nat.zero_add] at e1
          rw [e1]
          refine M.open_ t fun j' p' hj' hp' => ?_
          by_cases hjj : j' = j
          · rw [hjj]; exact hlj
          · exact absurd hp' (only j' p' hj' hjj)
      · have e := chain_still hF t 0 i (by omega) fun j p _ _ hj hp => q ⟨j, p, hj, hp⟩
        rw [Nat.zero_add] at e
        rw [e]
        exact M.open_ t fun j p hj hp => absurd ⟨j, p, hj, hp⟩ q
    -- what is listed behind an operation lists what that one hangs on
    have getset : ∀ (k : Nat), (listed.setIfInBounds i true).getD k false = true ↔ (k = i ∨ listed.getD k false = true) := fun k => by
      rw [getD_set hil]
      by_cases e : i = k
      · simp [e]
      · simp only [e, if_false]; constructor
        · exact .inr
        · rintro (q | q)
          · exact absurd q.symm e
          · exact q
    have closed' : ∀ j o', L[j]? = some o' → (listed.setIfInBounds i true).getD j true = true → ∀ e ∈ o'.after.toList, Region.binds .any e = true → (listed.setIfInBounds i true).getD e.on false = true := by
      intro j o' hj hl e he hb
      rw [getset]
      by_cases ej : i = j
      · subst ej
        rw [hol] at hj; cases hj
        exact .inr (hedge e he hb)
      · rw [getD_set hil, if_neg ej] at hl
        exact .inr (M.closed j o' hj hl e he hb)
    -- behind it
    have next : ∀ (p' : Nat) (av : AV) (v : Value) (G' : Gh) (w' : World), F (i + 1) = putA (F i) o.dst av → Mv B wB G w G' w' → HRep G' B (H p') w' → p' ≤ L.length →
        (∀ j o', L[j]? = some o' → K j ≠ 0 → (j < p' ↔ (listed.setIfInBounds i true).getD j true = true)) → av.is G' w' v →
        wpAny P .any ops Q fuel (listed.setIfInBounds i true) (a.put o.dst v) w' := by
      intro p' av v G' w' hFi hmv Hr hp' hmk' hv
      have hle := hmv.le
      have mono : ∀ x u, AV.is G w x u → AV.is G' w' x u := fun x u => AV.is_mono hle x u
      -- the value of the written place at the end
      have written : ∀ t, o.dst = some t → t < a.tmps.size → (F m).getD t .junk = av := fun t ht hlt' => by
        have only : ∀ j' p', L[j']? = some p' → j' ≠ i → p'.dst ≠ some t := fun j' p' hj' hne => by
          rcases (orderly_dst hord hj' hol ht).1 with q | q
          · exact absurd q hne
          · exact q
        have e2 := chain_still hF t (i + 1) (m - (i + 1)) (by omega) fun j' p' h1 h2 hj' => only j' p' hj' (by omega)
        rw [show i + 1 + (m - (i + 1)) = m by omega] at e2
        rw [e2, hFi, ht]
        have hl : t < (F i).length := by rw [chain_len hF i (by omega), ← M.size]; exact hlt'
        simp only [putA]
        rw [List.getD_eq_getElem?_getD, List.getElem?_set, if_pos rfl, if_pos hl]; rfl
      have putget : ∀ t, (a.put o.dst v).tmps.getD t undef = if o.dst = some t ∧ t < a.tmps.size then v else a.tmps.getD t undef := fun t => by
        cases hd : o.dst with
        | none => simp [Act.put]
        | some d =>
          simp only [Act.put, Option.some.injEq]
          rw [Array.getD_eq_getD_getElem?, Array.getD_eq_getD_getElem?, Array.getElem?_setIfInBounds]
          by_cases e : d = t
          · subst e
            by_cases q : d < a.tmps.size
            · simp [q]
            · simp [q]
          · simp [e]
      refine ih _ p' G' _ w' ⟨?_, ?_, ?_, Hr, hp', hmk', closed', fun g j q => ?_, ?_, by rw [hle.lay, M.lay], M.mv.trans hmv, by simpa using M.lsize⟩ (by simpa using hls) (fun i' h1 h2 => by rw [getD_set hil, if_neg (by omega)]; exact hlt_ i' h1 h2) hcount
      · rw [← M.size]; cases o.dst <;> simp [Act.put]
      · intro j p t hj hp hl
        rw [putget]
        by_cases e : o.dst = some t ∧ t < a.tmps.size
        · rw [if_pos e, hlen, written t e.1 e.2]; exact hv
        · rw [if_neg e]
          by_cases ej : i = j
          · subst ej
            rw [hol] at hj; cases hj
            have hge : ¬ t < a.tmps.size := fun q => e ⟨hp, q⟩
            have : (F L.length).getD t .junk = .junk := by
              rw [List.getD_eq_getElem?_getD, List.getElem?_eq_none (by rw [chain_len hF _ (Nat.le_refl _), ← M.size]; omega)]; rfl
            rw [this]; exact trivial
          · rw [getD_set hil, if_neg ej] at hl
            exact mono _ _ (M.done j p t hj hp hl)
      · intro t hno
        rw [putget]
        have hne : ¬ (o.dst = some t ∧ t < a.tmps.size) := fun q => by
          have := hno i o hol q.1
          rw [getD_set hil, if_pos rfl] at this; cases this
        rw [if_neg hne]
        refine mono _ _ (M.open_ t fun j p hj hp => ?_)
        have := hno j p hj hp
        rw [getD_set hil] at this
        split at this
        · cases this
        · exact this
      · obtain ⟨q1, q2⟩ := M.gl g j q
        exact ⟨q1, by rw [hle.at_ j (Nat.lt_of_lt_of_le q1 M.mv.le.n)]; exact q2⟩
      · cases o.dst <;> exact M.defs
    unfold wpOp
    rw [ho]
    show if Region.wanted o (yielded ops a.tmps) then _ else _
    have hw : ∀ b, Wants L o (F i) b → Region.wanted o (yielded ops a.tmps) = b := fun b hb => wanted_take hL_ hb fun j want t hg ht => look t (by
      unfold looks
      rw [hg]
      simp only [ht, Option.toList_some, List.mem_append, List.mem_singleton]
      exact .inr trivial)
    have operand : ∀ x ∈ o.op.operands, (ev gl (F i) x).is G w (a.eval x) := fun x hx => by
      cases x with
      | tmp t => exact look t (by unfold looks; simp only [List.mem_append, List.mem_filterMap]; exact .inl ⟨.tmp t, by simpa using hx, rfl⟩)
      | const v => exact ofV_is G w v
      | global g =>
        simp only [Qx.ev, Act.eval]
        cases hg : gl.lookup g with
        | none => simp [AV.is]
        | some i => simp only [AV.is]; exact ⟨Nat.lt_of_lt_of_le (M.gl g i hg).1 M.mv.le.n, by rw [(M.gl g i hg).2]⟩
      | func f => simp only [Qx.ev, Act.eval, AV.is]; exact ⟨#[], #[], rfl, rfl, rfl⟩
    -- of the operations that act none turns its place in the order
    have mkset : K i = 0 → ∀ j o', L[j]? = some o' → K j ≠ 0 → (j < p ↔ (listed.setIfInBounds i true).getD j true = true) := fun hm j o' hj hm' => by
      have hne : i ≠ j := fun e => by
        subst e
        exact hm' hm
      rw [getD_set hil, if_neg hne]
      exact M.mks j o' hj hm'
    -- when one that acts runs, the memory is the one that it was told of
    have listedBefore : K i ≠ 0 → ∀ j o', L[j]? = some o' → K j ≠ 0 → (j < i ↔ listed.getD j true = true) := fun hm j o' hj hm' => by
      constructor
      · intro hji
        have := hre j (orderly_acts hord hol hj (.inl ⟨by rw [hK]; exact hm, by rw [hK]; exact hm'⟩) hji)
        rw [Array.getD_eq_getD_getElem?] at this
        rw [Array.getD_eq_getD_getElem?]
        cases q : listed[j]? with
        | none => rfl
        | some b => rw [q] at this; simpa using this
      · intro hl
        rcases Nat.lt_trichotomy j i with q | q | q
        · exact q
        · subst q; rw [hun] at hl; cases hl
        · have := hrc j o' hj hl i (orderly_acts hord hj hol (.inl ⟨by rw [hK]; exact hm', by rw [hK]; exact hm⟩) q)
          rw [Array.getD_eq_getD_getElem?] at this
          rw [Array.getD_eq_getD_getElem?] at hun
          cases q' : listed[i]? with
          | none => rw [q'] at this; simp at this
          | some b => rw [q'] at this hun; simp at this hun; rw [this] at hun; cases hun
    have sameMem : K i ≠ 0 → H i = H p := fun hm => by
      rcases Nat.le_total p i with q | q
      · have e := chain_same hF p (i - p) (by omega) fun j o' h1 h2 hj => by
          by_cases hm' : K j = 0
          · exact hm'
          · have h3 := (listedBefore hm j o' hj hm').1 (by omega)
            have := (M.mks j o' hj hm').2 h3
            omega
        rwa [show p + (i - p) = i by omega] at e
      · by_cases e : i = p
        · rw [e]
        · have := (M.mks i o hol hm).1 (by omega)
          rw [hun] at this; cases this
    -- nothing is written between what a reading one was told of and what it finds
    have readMem : K i = 0 → readsM o.op = true → Compat (H i) (H p) := fun hio hrd => chain_compat hF (by omega) (by omega) fun j o' hbt hj hw' => by
        have hact : K j ≠ 0 := by omega
        rcases hbt with ⟨h1, h2⟩ | ⟨h1, h2⟩
        · have hl := (M.mks j o' hj hact).1 h2
          have hne : i ≠ j := fun e => by
            subst e
            exact hact hio
          have := hrc j o' hj hl i (orderly_acts hord hj hol (.inr (.inr ⟨by rw [hK]; exact hw', hrd⟩)) (by omega))
          rw [Array.getD_eq_getD_getElem?] at this
          rw [Array.getD_eq_getD_getElem?] at hun
          cases q' : listed[i]? with
          | none => rw [q'] at this; simp at this
          | some b => rw [q'] at this hun; simp at this hun; rw [this] at hun; cases hun
        · have hl := hre j (orderly_acts hord hol hj (.inr (.inl ⟨hrd, by rw [hK]; exact hw'⟩)) h2)
          rw [Array.getD_eq_getD_getElem?] at hl
          have hl' : listed.getD j true = true := by
            rw [Array.getD_eq_getD_getElem?]
            cases q' : listed[j]? with
            | none => rfl
            | some b => rw [q'] at hl; simpa using hl
          have := (M.mks j o' hj hact).2 hl'
          omega
    obtain ⟨av, hFi, ⟨hwant, hm, hH, hq⟩ | ⟨hwant, hm, hH, rfl⟩ | ⟨hwant, hm, hlen, hcp, hA⟩⟩ := hF i o hol
    · rw [hw _ hwant, if_pos rfl]
      refine .inl (hq B G w a _ Q (H p) (readMem hm) M.heap M.lay (stab w M.mv.below) operand fun imm' v w' Hr hle hA hv => ?_)
      exact next p av v _ w' hFi (.after M.mv.below hA hle) Hr M.ple (mkset hm) hv
    · rw [hw _ hwant, if_neg (by simp)]
      exact next p (.tup []) undef G w hFi (.refl M.mv.below) M.heap M.ple (mkset hm) (by simp only [AV.is]; exact ⟨#[], rfl, rfl⟩)
    · rw [hw _ hwant, if_pos rfl]
      have e := sameMem hm
      have Hi : HRep G B (H i) w := by rw [e]; exact M.heap
      refine .inl (hA G w a _ Q Hi M.lay M.mv.below operand fun G' v w' Hr hmv hv => ?_)
      refine next (i + 1) av v _ _ hFi hmv Hr (by omega) (fun j o' hj hm' => ?_) hv
      have hb := listedBefore hm j o' hj hm'
      rw [getD_set hil]
      by_cases ej : i = j
      · simp [ej]
      · rw [if_neg ej, ← hb]; omega

theorem open_sound (stab : ∀ w', Bel B wB w' → GW w') {ops : Array Oper} {K : Nat → Nat} {ks : List Nat} (hK : ∀ j, ks.getD j 0 = K j) {F : Nat → Fr} {H : Nat → Hp} (hord : orderly ops.toList ks = true)
    (hF : ∀ j o, ops.toList[j]? = some o → Goes P GW Λ B wB gl ops.toList (K j) o (F j) (H j) (F (j + 1)) (H (j + 1))) {Q : Exit → Act → World → Prop}
    (hQ : ∀ G a w, St Λ B wB gl ds G0 w0 G (F ops.size) (H ops.size) a w → Q .normal a w)
    (fuel : Nat) (listed : Array Bool) (p : Nat) (G : Gh) (a : Act) (w : World) (M : Mid Λ B wB ops.toList K F H p gl ds G0 w0 listed G a w) (hls : listed.size = ops.size) (hc : listed.toList.count false = fuel) : wpAny P .any ops Q fuel listed a w := by
  refine open_soundM (m := ops.size) (L := ops.toList) stab (Nat.le_refl _) (by rw [List.take_of_length_le (by simp)]) (fun j o hj ho => ?_) hK hord hF (fun fuel listed G a w h1 h2 h3 h4 S => ?_) fuel listed p G a w M hls (fun i h1 h2 => by omega) hc
  · have := (Array.getElem?_eq_some_iff.1 ho).1; omega
  · have hr : Region.ready .any ops listed = [] := by
      cases hr : Region.ready .any ops listed with
      | nil => rfl
      | cons i l =>
        have : i ∈ Region.ready .any ops listed := by rw [hr]; simp
        obtain ⟨q1, q2, _⟩ := ready_of.1 this
        rw [h2 i q1] at q2; cases q2
    cases fuel with
    | zero => exact ⟨hr, hQ G a w S⟩
    | succ n => exact ⟨fun _ => hQ G a w S, fun i hi => by rw [hr] at hi; cases hi⟩

theorem kind1 {fr : Fr} {h : Hp} {op : Op} (hk : kindA Λ Γ gl fr h op = 1) : allocs op = true := by
  cases op <;> first | rfl | (simp only [kindA] at hk; cases hk; done) | skip
  case slice t x lo hi mx =>
    exfalso
    cases lo <;> cases hi <;> cases mx <;> simp only [kindA] at hk <;> first | (cases hk; done) | skip
    split at hk <;> cases hk
  case call c =>
    exfalso
    simp only [kindA] at hk
    repeat' (split at hk <;> try (cases hk; done))

theorem opsQ_chain (hΓ : AllOk P GW Λ Γ) (stab : ∀ w', Bel B wB w' → GW w') {inl : Nat → List AV → Hp → (Res → Hp → Option α) → Option α} (hinl : InlOk P Λ B wB inl) {ops : List Oper} {k : Fr → Hp → Option α} :
    ∀ (rest : List Oper) (i : Nat) (ks : List Nat) (fr : Fr) (h : Hp), ks.length = i → ops.drop i = rest → opsQ P Λ Γ gl inl ops rest ks fr h k = some r →
    ∃ (F : Nat → Fr) (H : Nat → Hp) (ks' : List Nat), F i = fr ∧ H i = h ∧ (∀ j, j < i → ks'.getD j 0 = ks.getD j 0) ∧ orderly ops ks' = true ∧ k (F (i + rest.length)) (H (i + rest.length)) = some r ∧
      ∀ j o, i ≤ j → ops[j]? = some o → Goes P GW Λ B wB gl ops (ks'.getD j 0) o (F j) (H j) (F (j + 1)) (H (j + 1))
  | [], i, ks, fr, h, hks, hd, hr => by
    simp only [opsQ] at hr
    split at hr
    · rename_i hord
      refine ⟨fun _ => fr, fun _ => h, ks, rfl, rfl, fun _ _ => rfl, hord, hr, fun j o hj ho => ?_⟩
      have : ops.length ≤ i := by simpa using hd
      rw [List.getElem?_eq_none (by omega)] at ho; cases ho
    · cases hr
  | o :: rest, i, ks, fr, h, hks, hd, hr => by
    have hi : ops[i]? = some o := by
      have : (ops.drop i)[0]? = some o := by rw [hd]; rfl
      rw [List.getElem?_drop] at this
      simpa using this
    have hd' : ops.drop (i + 1) = rest := by
      have e := congrArg (List.drop 1) hd
      rwa [List.drop_drop, List.drop_one, List.tail_cons] at e
    have step : ∀ (kd : Nat) (f' : Fr) (h' : Hp), Goes P GW Λ B wB gl ops kd o fr h f' h' → opsQ P Λ Γ gl inl ops rest (ks ++ [kd]) f' h' k = some r →
        ∃ (F : Nat → Fr) (H : Nat → Hp) (ks' : List Nat), F i = fr ∧ H i = h ∧ (∀ j, j < i → ks'.getD j 0 = ks.getD j 0) ∧ orderly ops ks' = true ∧ k (F (i + (o :: rest).length)) (H (i + (o :: rest).length)) = some r ∧
          ∀ j o, i ≤ j → ops[j]? = some o → Goes P GW Λ B wB gl ops (ks'.getD j 0) o (F j) (H j) (F (j + 1)) (H (j + 1)) := fun kd f' h' hgo hr' => by
      obtain ⟨F, H, ks', h1, h1', hk', hord, h2, h3⟩ := opsQ_chain hΓ stab hinl rest (i + 1) (ks ++ [kd]) f' h' (by simp [hks]) hd' hr'
      have hki : ks'.getD i 0 = kd := by
        rw [hk' i (by omega)]
        simp [List.getD_eq_getElem?_getD, ← hks]
      refine ⟨fun j => if j = i then fr else F j, fun j => if j = i then h else H j, ks', by simp, by simp, fun j hj => ?_, hord, ?_, fun j o' hj ho => ?_⟩
      · rw [hk' j (by omega)]
        simp only [List.getD_eq_getElem?_getD]
        rw [List.getElem?_append_left (by omega)]
      · simp only [List.length_cons]
        rw [if_neg (by omega), if_neg (by omega), show i + (rest.length + 1) = i + 1 + rest.length by omega]
        exact h2
      · by_cases e : j = i
        · subst e
          rw [hi] at ho; cases ho
          simp only [if_true]
          rw [if_neg (by omega), if_neg (by omega), h1, h1', hki]
          exact hgo
        · simp only [if_neg e]
          rw [if_neg (by omega), if_neg (by omega)]
          exact h3 j o' (by omega) ho
    simp only [opsQ] at hr
    rcases guardA_sound hr with ⟨hw, hr⟩ | ⟨hw, hr⟩
    · split at hr
      · obtain ⟨av, hkv, hq⟩ := quiet_sound (GW := GW) hΓ hr
        rw [headK_eq, forceL_eq] at hkv
        exact step 0 _ _ ⟨av, rfl, .inl ⟨hw, rfl, rfl, hq o rfl⟩⟩ hkv
      · rename_i hkd
        rcases doA_path hΓ stab hinl hr with ⟨av, h1, hk1, hA, hl, hcp⟩ | ⟨v, h1, hk1, _⟩
        · refine step 1 _ _ ⟨av, rfl, .inr (.inr ⟨hw, by simp, hl, fun _ => hcp ?_, hA⟩)⟩ hk1
          exact kind1 hkd
        · cases hk1
      · rcases doA_path hΓ stab hinl hr with ⟨av, h1, hk1, hA, hl, hcp⟩ | ⟨v, h1, hk1, _⟩
        · exact step 2 _ _ ⟨av, rfl, .inr (.inr ⟨hw, by simp, hl, fun e => absurd rfl e, hA⟩)⟩ hk1
        · cases hk1
    · rw [forceL_eq] at hr
      exact step 0 _ _ ⟨.tup [], rfl, .inr (.inl ⟨hw, rfl, rfl, rfl⟩)⟩ hr

end
end Go.Proofs.Qx

namespace Go.Proofs.Qx
open Go Go.RowKit
set_option linter.unusedVariables false
set_option linter.unusedSimpArgs false

def loopsOf : Code → List Code
  | .seq a b => loopsOf a ++ loopsOf b
  | .cond _ a b => loopsOf a ++ loopsOf b
  | .block _ c => loopsOf c
  | .loop c => c :: loopsOf c
  | _ => []

section
variable {P : Program} {Λ : Nat → List CK} {B : Nat} {wB : World} {gl : List (Nat × Nat)} {ds : List Deferred} {G0 : Gh} {w0 : World} {G : Gh} {fr : Fr} {h : Hp} {a : Act} {w : World}
variable {α : Type} {GW : World → Prop} {Γ : List (Nat × CE)} {r : α}

theorem Ways.mono {e : Exit} {fr' : Fr} {h' : Hp} {n0 n1 : Nat} {W : (Exit → Act → World → Prop) → Act → World → Prop} (hn : n0 ≤ n1) (h1 : Ways Λ B wB gl fr h e fr' h' n1 W) : Ways Λ B wB gl fr h e fr' h' n0 W :=
  fun ds G0 w0 G a w Q hG S hk => h1 ds G0 w0 G a w Q (Nat.le_trans hG hn) S hk

def LSOk (P : Program) (Λ : Nat → List CK) (B : Nat) (wB : World) (gl : List (Nat × Nat)) (n : Nat) (s : LSum) (c : Code) : Prop :=
  ∀ (fr : Fr) (h : Hp) (τ : Type) (x : Option τ) (out : τ → Exit × Fr × Hp) (sel : (β : Type) → τ → (Exit → Fr → Hp → Option β) → Option β) (ok : ∀ β t k, sel β t k = k (out t).1 (out t).2.1 (out t).2.2) (t : τ), s fr h = some (.mk τ x out sel ok) → x = some t →
    Ways Λ B wB gl fr h (out t).1 (out t).2.1 (out t).2.2 n (fun Q => (Code.loop c).wp P Q)

theorem St.drops {G : Gh} {h : Hp} {a : Act} {w : World} : ∀ (l : List Nat) (fr : Fr), St Λ B wB gl ds G0 w0 G fr h a w → St Λ B wB gl ds G0 w0 G (drops fr l) h a w
  | [], fr, S => S
  | t :: l, fr, S => by
    refine St.drops l _ ⟨by simpa using S.size, fun t' => ?_, S.heap, S.gl, S.defs, S.lay, S.mv⟩
    rw [List.getD_eq_getElem?_getD, List.getElem?_set]
    by_cases e : t = t'
    · rw [if_pos e]; split <;> exact trivial
    · rw [if_neg e, ← List.getD_eq_getElem?_getD]; exact S.slot t'

theorem St.dropsR (J : List (Nat × List Nat)) (id : Nat) (S : St Λ B wB gl ds G0 w0 G fr h a w) : St Λ B wB gl ds G0 w0 G (dropsR J id fr) h a w := by
  unfold Qx.dropsR
  split
  · exact S.drops _ _
  · exact S

theorem St.fixB (J : List (Nat × List Nat)) {c : Operand} {b : Bool} (S : St Λ B wB gl ds G0 w0 G fr h a w) (hb : Qx.ev gl fr c = .bool b) : St Λ B wB gl ds G0 w0 G (fixB J fr c b) h a w := by
  unfold Qx.fixB
  split
  · split
    · exact S.drops _ _
    · rw [set_same (by simp) hb]; exact S
  · exact S

theorem loopA_path {c : Code} {n0 : Nat} {step : Fr → Hp → (Exit → Fr → Hp → Option α) → Option α}
    (hstep : ∀ (fr : Fr) (h : Hp) (K : Exit → Fr → Hp → Option α), step fr h K = some r → ∃ e fr' h', K e fr' h' = some r ∧ Ways Λ B wB gl fr h e fr' h' n0 (fun Q => c.wp P Q))
    {K : Exit → Fr → Hp → Option α} : ∀ (n : Nat) (fr : Fr) (h : Hp), loopA step n fr h K = some r →
      ∃ e fr' h', K e fr' h' = some r ∧ Ways Λ B wB gl fr h e fr' h' n0 (fun Q => Code.rounds P c Q n)
  | 0, fr, h, hr => by simp [loopA] at hr
  | n + 1, fr, h, hr => by
    simp only [loopA] at hr
    obtain ⟨e, fr1, h1, hk1, hW⟩ := hstep fr h _ hr
    have other : (∀ (k : Act → World → Prop) (Q : Exit → Act → World → Prop) (a' : Act) (w' : World), Q e a' w' → Exit.then k Q e a' w') → K e fr1 h1 = some r → ∃ e fr' h', K e fr' h' = some r ∧ Ways Λ B wB gl fr h e fr' h' n0 (fun Q => Code.rounds P c Q (n + 1)) := fun hq hk =>
      ⟨e, fr1, h1, hk, fun ds G0 w0 G a w Q hn S hnext => by
        show Code.rounds P c Q (n + 1) a w
        rw [rounds_succ]
        exact hW ds G0 w0 G a w _ hn S fun G' a' w' S' => hq _ _ _ _ (hnext G' a' w' S')⟩
    cases e with
    | normal =>
      simp only at hk1
      obtain ⟨e2, fr2, h2, hk2, hW2⟩ := loopA_path hstep n fr1 h1 hk1
      refine ⟨e2, fr2, h2, hk2, fun ds G0 w0 G a w Q hn S hnext => ?_⟩
      show Code.rounds P c Q (n + 1) a w
      rw [rounds_succ]
      exact hW ds G0 w0 G a w _ hn S fun G' a' w' S' => hW2 ds G0 w0 G' a' w' Q hn S' hnext
    | exit i => exact other (fun _ _ _ _ q => q) hk1
    | goto i => exact other (fun _ _ _ _ q => q) hk1
    | ret => exact other (fun _ _ _ _ q => q) hk1
    | panic ch => exact other (fun _ _ _ _ q => q) hk1
    | outgrown => exact other (fun _ _ _ _ q => q) hk1

theorem execA_path (hm : P.follows .mixedOrders = true) (hΓ : AllOk P GW Λ Γ) (stab : ∀ w', Bel B wB w' → GW w') {inl : Nat → List AV → Hp → (Res → Hp → Option α) → Option α} (hinl : InlOk P Λ B wB inl) (C : Cfg) (n0 : Nat) :
    ∀ (c : Code), (∀ d ∈ loopsOf c, ∀ n s, C.LS.lookup (loopKey d) = some (n, s) → LSOk P Λ B wB gl n s d) → ∀ (fr : Fr) (h : Hp) (K : Exit → Fr → Hp → Option α), execA P Λ Γ gl inl C n0 c fr h K = some r →
      ∃ e fr' h', K e fr' h' = some r ∧ Ways Λ B wB gl fr h e fr' h' n0 (fun Q => c.wp P Q) := by
  intro c
  induction c with
  | skip =>
    intro hL fr h K hr
    exact ⟨.normal, fr, h, hr, fun ds G0 w0 G a w Q hn S hk => wp_skip (hk _ _ _ S)⟩
  | region id ops draw =>
    intro hL fr h K hr
    cases draw with
    | false =>
      simp only [execA] at hr
      obtain ⟨e, fr1, h1, hk1, hW⟩ := opsA_path (B := B) (wB := wB) hΓ stab hinl n0 ops.toList 0 fr h rfl hr
      rw [Array.length_toList, ← List.range_eq_range'] at hW
      cases e with
      | normal =>
        simp only [forceL_eq] at hk1
        exact ⟨.normal, _, h1, hk1, fun ds G0 w0 G a w Q hn S hk => wp_region (hW ds G0 w0 G a w Q hn S fun G' a' w' S' => hk G' a' w' (S'.dropsR C.J id))⟩
      | exit i => exact ⟨_, fr1, h1, hk1, fun ds G0 w0 G a w Q hn S hk => wp_region (hW ds G0 w0 G a w Q hn S hk)⟩
      | goto i => exact ⟨_, fr1, h1, hk1, fun ds G0 w0 G a w Q hn S hk => wp_region (hW ds G0 w0 G a w Q hn S hk)⟩
      | ret => exact ⟨_, fr1, h1, hk1, fun ds G0 w0 G a w Q hn S hk => wp_region (hW ds G0 w0 G a w Q hn S hk)⟩
      | panic ch => exact ⟨_, fr1, h1, hk1, fun ds G0 w0 G a w Q hn S hk => wp_region (hW ds G0 w0 G a w Q hn S hk)⟩
      | outgrown => exact ⟨_, fr1, h1, hk1, fun ds G0 w0 G a w Q hn S hk => wp_region (hW ds G0 w0 G a w Q hn S hk)⟩
    | true =>
      simp only [execA] at hr
      obtain ⟨F, Hs, ks, h0, h0', _, hord, h1, h2⟩ := opsQ_chain (B := B) (wB := wB) hΓ stab hinl ops.toList 0 [] fr h rfl rfl hr
      rw [Nat.zero_add, Array.length_toList, forceL_eq] at h1
      refine ⟨.normal, _, _, h1, fun ds G0 w0 G a w Q hn S hk => wp_region_any hm ?_⟩
      have hF : ∀ j o, ops.toList[j]? = some o → Goes P GW Λ B wB gl ops.toList (ks.getD j 0) o (F j) (Hs j) (F (j + 1)) (Hs (j + 1)) := fun j o hj => h2 j o (Nat.zero_le _) hj
      have hb : Below w.heap.size w { w with drawn := w.drawn + 1 } := (Below.refl _ _).drew
      obtain ⟨H', hle⟩ := S.heap.below hb
      have hmv : Mv B wB G w G { w with drawn := w.drawn + 1 } := .of hle (S.bel.trans (hb.mono S.bel.size)) rfl (Nat.le_refl _) (fun _ _ _ => rfl) (fun i hi g hg => .inl ⟨i, hi, hg⟩)
      refine open_sound (ds := ds) (G0 := G0) (w0 := w0) (gl := gl) (K := fun j => ks.getD j 0) (ks := ks) stab (fun _ => rfl) hord hF (fun G a w S' => hk G a w (S'.dropsR C.J id)) ops.size (Array.replicate ops.size false) 0 G a _
        ⟨by rw [h0]; exact S.size, fun j o t hj ht hl => ?_, fun t _ => ?_, by rw [h0']; exact H', Nat.zero_le _, fun j o hj _ => ?_, fun j o hj hl => ?_, S.gl, S.defs, S.lay, S.mv.trans hmv, by simp⟩ (by simp) ?_
      · rw [Array.getD_eq_getD_getElem?] at hl
        have : j < ops.size := by simpa using (List.getElem?_eq_some_iff.1 hj).1
        simp [this] at hl
      · rw [h0]; exact AV.is_mono hle _ _ (S.slot t)
      · have : j < ops.size := by simpa using (List.getElem?_eq_some_iff.1 hj).1
        rw [Array.getD_eq_getD_getElem?]
        simp [this]
      · rw [Array.getD_eq_getD_getElem?] at hl
        have : j < ops.size := by simpa using (List.getElem?_eq_some_iff.1 hj).1
        simp [this] at hl
      · simp [List.count_replicate]
  | seq x y ihx ihy =>
    intro hL fr h K hr
    simp only [execA] at hr
    obtain ⟨e, fr1, h1, hk1, hW⟩ := ihx (fun d hd => hL d (by simp [loopsOf, hd])) fr h _ hr
    have other : (∀ (k : Act → World → Prop) (Q : Exit → Act → World → Prop) (a' : Act) (w' : World), Q e a' w' → Exit.then k Q e a' w') → K e fr1 h1 = some r → ∃ e fr' h', K e fr' h' = some r ∧ Ways Λ B wB gl fr h e fr' h' n0 (fun Q => (Code.seq x y).wp P Q) := fun hq hk =>
      ⟨e, fr1, h1, hk, fun ds G0 w0 G a w Q hn S hnext => wp_seq (hW ds G0 w0 G a w _ hn S fun G' a' w' S' => hq _ _ _ _ (hnext G' a' w' S'))⟩
    cases e with
    | normal =>
      simp only at hk1
      obtain ⟨e2, fr2, h2, hk2, hW2⟩ := ihy (fun d hd => hL d (by simp [loopsOf, hd])) fr1 h1 K hk1
      exact ⟨e2, fr2, h2, hk2, fun ds G0 w0 G a w Q hn S hnext => wp_seq (hW ds G0 w0 G a w _ hn S fun G' a' w' S' => hW2 ds G0 w0 G' a' w' Q hn S' hnext)⟩
    | exit i => exact other (fun _ _ _ _ q => q) hk1
    | goto i => exact other (fun _ _ _ _ q => q) hk1
    | ret => exact other (fun _ _ _ _ q => q) hk1
    | panic ch => exact other (fun _ _ _ _ q => q) hk1
    | outgrown => exact other (fun _ _ _ _ q => q) hk1
  | cond c x y ihx ihy =>
    intro hL fr h K hr
    simp only [execA] at hr
    split at hr
    · rename_i t hc
      have he : ∀ {ds G0 w0 G a w}, St Λ B wB gl ds G0 w0 G fr h a w → a.eval c = .bool t := fun S => by
        have he := S.ev c
        rw [hc] at he
        simpa only [AV.is] using he
      cases t with
      | true =>
        simp only [forceL_eq] at hr
        obtain ⟨e, fr1, h1, hk1, hW⟩ := ihx (fun d hd => hL d (by simp [loopsOf, hd])) _ h K hr
        exact ⟨e, fr1, h1, hk1, fun ds G0 w0 G a w Q hn S hk => wp_cond_true (he S) (hW ds G0 w0 G a w Q hn (S.fixB C.J hc) hk)⟩
      | false =>
        simp only [forceL_eq] at hr
        obtain ⟨e, fr1, h1, hk1, hW⟩ := ihy (fun d hd => hL d (by simp [loopsOf, hd])) _ h K hr
        exact ⟨e, fr1, h1, hk1, fun ds G0 w0 G a w Q hn S hk => wp_cond_false (he S) (hW ds G0 w0 G a w Q hn (S.fixB C.J hc) hk)⟩
    · cases hr
  | block id c ih =>
    intro hL fr h K hr
    simp only [execA] at hr
    obtain ⟨e, fr1, h1, hk1, hW⟩ := ih (fun d hd => hL d (by simpa [loopsOf] using hd)) fr h _ hr
    have other : (∀ (Q : Exit → Act → World → Prop) (a' : Act) (w' : World), Q e a' w' → Exit.inBlock id Q e a' w') → K e fr1 h1 = some r → ∃ e fr' h', K e fr' h' = some r ∧ Ways Λ B wB gl fr h e fr' h' n0 (fun Q => (Code.block id c).wp P Q) := fun hq hk =>
      ⟨e, fr1, h1, hk, fun ds G0 w0 G a w Q hn S hnext => wp_block (hW ds G0 w0 G a w _ hn S fun G' a' w' S' => hq _ _ _ (hnext G' a' w' S'))⟩
    cases e with
    | normal => exact other (fun _ _ _ q => q) hk1
    | exit i =>
      simp only at hk1
      split at hk1
      · rename_i hi
        exact ⟨.normal, fr1, h1, hk1, fun ds G0 w0 G a w Q hn S hnext => wp_block (hW ds G0 w0 G a w _ hn S fun G' a' w' S' => by simp only [Exit.inBlock]; rw [if_pos hi]; exact hnext G' a' w' S')⟩
      · rename_i hi
        exact other (fun _ _ _ q => by simp only [Exit.inBlock]; rw [if_neg hi]; exact q) hk1
    | goto i => exact other (fun _ _ _ q => q) hk1
    | ret => exact other (fun _ _ _ q => q) hk1
    | panic ch => exact other (fun _ _ _ q => q) hk1
    | outgrown => exact other (fun _ _ _ q => q) hk1
  | loop c ih =>
    intro hL fr h K hr
    simp only [execA] at hr
    split at hr
    · rename_i n s hs
      split at hr
      · rename_i hn0
        split at hr
        · rename_i τ x out sel ok hsum
          cases hx : x with
          | none => simp [hx] at hr
          | some t =>
            rw [hx] at hr
            simp only [Option.bind_some, ok, forceL_eq, forceH_eq] at hr
            exact ⟨_, _, _, hr, (hL c (by simp [loopsOf]) n s hs fr h τ x out sel ok t hsum hx).mono hn0⟩
        · cases hr
      · cases hr
    · obtain ⟨e, fr1, h1, hk1, hW⟩ := loopA_path (P := P) (B := B) (wB := wB) (gl := gl) (n0 := n0) (c := c) (fun fr h K q => ih (fun d hd => hL d (by simp [loopsOf, hd])) fr h K q) C.rounds fr h hr
      exact ⟨e, fr1, h1, hk1, fun ds G0 w0 G a w Q hn S hk => wp_loop_rounds C.rounds (hW ds G0 w0 G a w Q hn S hk)⟩
  | exit i =>
    intro hL fr h K hr
    exact ⟨_, fr, h, hr, fun ds G0 w0 G a w Q hn S hk => wp_exit (hk _ _ _ S)⟩
  | label l =>
    intro hL fr h K hr
    exact ⟨_, fr, h, hr, fun ds G0 w0 G a w Q hn S hk => wp_label (hk _ _ _ S)⟩
  | ret =>
    intro hL fr h K hr
    exact ⟨_, fr, h, hr, fun ds G0 w0 G a w Q hn S hk => wp_ret (hk _ _ _ S)⟩
  | rangeFunc => intro hL fr h K hr; simp [execA] at hr
  | scope => intro hL fr h K hr; simp [execA] at hr
  | goto => intro hL fr h K hr; simp [execA] at hr
  | refuse => intro hL fr h K hr; simp [execA] at hr

def WaysK (Λ : Nat → List CK) (B : Nat) (wB : World) (gl : List (Nat × Nat)) (fr : Fr) (h : Hp) (n0 : Nat) (O : Exit → Fr → Hp → Prop) (W : (Exit → Act → World → Prop) → Act → World → Prop) : Prop :=
  ∀ (ds : List Deferred) (G0 : Gh) (w0 : World) (G : Gh) (a : Act) (w : World) (Q : Exit → Act → World → Prop), G0.n ≤ n0 → St Λ B wB gl ds G0 w0 G fr h a w →
    (∀ e fr' h' G' a' w', O e fr' h' → St Λ B wB gl ds G0 w0 G' fr' h' a' w' → Q e a' w') → W Q a w
theorem Ways.k {e : Exit} {fr' : Fr} {h' : Hp} {n0 : Nat} {W : (Exit → Act → World → Prop) → Act → World → Prop} (hw : Ways Λ B wB gl fr h e fr' h' n0 W) {O : Exit → Fr → Hp → Prop} (ho : O e fr' h') : WaysK Λ B wB gl fr h n0 O W :=
  fun ds G0 w0 G a w Q hn S hq => hw ds G0 w0 G a w Q hn S fun G' a' w' S' => hq e fr' h' G' a' w' ho S'

theorem HRep.gone (H : HRep G B h w) (i : Nat) : HRep G B (h.set i .gone) w := by
  have hget : ∀ {j : Nat} {c : Blk}, (h.set i Blk.gone)[j]? = some c → c = Blk.gone ∨ h[j]? = some c := fun {j c} hj => by
    rw [List.getElem?_set] at hj
    by_cases q : i = j
    · rw [if_pos q] at hj
      split at hj
      · cases hj; exact .inl rfl
      · cases hj
    · rw [if_neg q] at hj; exact .inr hj
  refine ⟨by simpa using H.len, fun j c hj => ?_, fun j c hj ho g hg => ?_, H.inj, H.lt, H.imm⟩
  · rcases hget hj with rfl | q
    · trivial
    · exact H.blk j c q
  · rcases hget hj with rfl | q
    · cases ho
    · exact H.own j c q ho g hg

theorem coin_parts {ops : List Oper} {t d : Tmp} (hc : coinA P ops = some (t, d)) : ∃ o0 o1 o2 o3 T i, ops = [o0, o1, o2, o3] ∧ o0.op = .alloc T ∧ o0.dst = some t ∧ o1.op = .store T (.tmp t) (.const (.bool true)) ∧ o2.op = .store T (.tmp t) (.const (.bool false)) ∧
    o3.op = .load T (.tmp t) ∧ o3.dst = some d ∧ d ≠ t ∧ o1.dst = none ∧ o2.dst = none ∧ (o0.guard = none ∧ o1.guard = none ∧ o2.guard = none ∧ o3.guard = none) ∧ P.underlying T = some .bool ∧ P.info? T = some i ∧ i.size = 1 ∧ i.zero = some (.bool false) ∧
    (∀ e ∈ o0.after.toList, Region.binds .any e = false) ∧ (∃ e ∈ o1.after.toList, e.on = 0 ∧ Region.binds .any e = true) ∧ (∀ e ∈ o1.after.toList, Region.binds .any e = true → e.on = 0) ∧
    (∃ e ∈ o2.after.toList, e.on = 0 ∧ Region.binds .any e = true) ∧ (∀ e ∈ o2.after.toList, Region.binds .any e = true → e.on = 0) ∧
    (∃ e ∈ o3.after.toList, e.on = 1 ∧ Region.binds .any e = true) ∧ (∃ e ∈ o3.after.toList, e.on = 2 ∧ Region.binds .any e = true) ∧ (∀ e ∈ o3.after.toList, Region.binds .any e = true → e.on < 3) := by
  unfold coinA at hc
  split at hc
  · rename_i o0 o1 o2 o3
    split at hc
    · rename_i T t' T1 t1 T2 t2 T3 t3 d' h0 hd0 h1 h2 h3 hd3
      rw [Option.ite_none_right_eq_some] at hc
      obtain ⟨hq, hc⟩ := hc
      · obtain ⟨⟨rfl, rfl, rfl, rfl, rfl, rfl, hne, hn1, hn2⟩, hg, hb, hi, e0, e1, e1', e2, e2', e3, e3', e3''⟩ := hq
        cases hc
        simp only [Bool.and_eq_true, Option.isNone_iff_eq_none] at hg
        have hb' : P.underlying T = some .bool := by
          split at hb
          · rename_i hu; exact hu
          · cases hb
        have hi' : ∃ i, P.info? T = some i ∧ i.size = 1 ∧ i.zero = some (.bool false) := by
          split at hi
          · rename_i i hinf
            simp only [Bool.and_eq_true, beq_iff_eq] at hi
            refine ⟨i, hinf, hi.1, ?_⟩
            have := hi.2
            split at this
            · rename_i hz; exact hz
            · cases this
          · cases hi
        obtain ⟨i, hi1, hi2, hi3⟩ := hi'
        simp only [List.all_eq_true, List.any_eq_true, Bool.not_eq_true', Bool.or_eq_true, Bool.and_eq_true, beq_iff_eq, decide_eq_true_eq] at e0 e1 e1' e2 e2' e3 e3' e3''
        have im : ∀ {e : Edge} {p : Prop}, (Region.binds .any e = false ∨ p) → Region.binds .any e = true → p := fun {e p} q hb => by
          rcases q with q | q
          · rw [q] at hb; cases hb
          · exact q
        exact ⟨o0, o1, o2, o3, T, i, rfl, h0, hd0, h1, h2, h3, hd3, hne, hn1, hn2, ⟨hg.1.1.1, hg.1.1.2, hg.1.2, hg.2⟩, hb', hi1, hi2, hi3, e0, e1, fun e he => im (e1' e he), e2, fun e he => im (e2' e he), e3, e3', fun e he => im (e3'' e he)⟩
    · cases hc
  · cases hc

theorem wpOp_plain {ops : Array Oper} {i : Nat} {o : Oper} (hi : ops[i]? = some o) (hg : o.guard = none) {K : Act → World → Prop} {Q : Exit → Act → World → Prop} (hw : o.wp P a w K Q) : wpOp P ops Q i K a w := by
  unfold wpOp
  rw [hi]
  have : Region.wanted o (yielded ops a.tmps) = true := by unfold Region.wanted; rw [hg]
  simp only [this, if_true]
  exact .inl hw

theorem coin_wp (hm : P.follows .mixedOrders = true) {id : Nat} {ops : Array Oper} {t d : Tmp} (hc : coinA P ops.toList = some (t, d)) (hd : d < fr.length) (ht : t < fr.length) (S : St Λ B wB gl ds G0 w0 G fr h a w) {Q : Exit → Act → World → Prop}
    (hQ : ∀ G' a' w' b, St Λ B wB gl ds G0 w0 G' ((fr.set t .junk).set d .junk) (h ++ [.gone]) a' w' → a'.eval (.tmp d) = .bool b → Q .normal a' w') : (Code.region id ops true).wp P Q a w := by
  obtain ⟨o0, o1, o2, o3, T, ti, hops, p0, d0, p1, p2, p3, d3, hne, n1, n2, ⟨g0, g1, g2, g3⟩, hbool, hinfo, hsize, hzero, e0, e1, e1', e2, e2', e3, e3', e3''⟩ := coin_parts hc
  have hops' : ops = #[o0, o1, o2, o3] := by apply Array.ext'; simpa using hops
  subst hops'
  refine wp_region_any hm ?_
  have hbd : Below w.heap.size w { w with drawn := w.drawn + 1 } := (Below.refl _ _).drew
  obtain ⟨H', hle⟩ := S.heap.below hbd
  have S1 : St Λ B wB gl ds G0 w0 G fr h a { w with drawn := w.drawn + 1 } := S.move H' (.of hle (S.bel.trans (hbd.mono S.bel.size)) rfl (Nat.le_refl _) (fun _ _ _ => rfl) (fun i hi g hg => .inl ⟨i, hi, hg⟩))
  generalize { w with drawn := w.drawn + 1 } = w1 at S1
  have hagg : isAggT P T = some false := by unfold isAggT; rw [hbool]
  have hszT : szT P T = some 1 := by unfold szT; rw [hinfo]; simp [hsize]
  have hz : zeroA P T = some [.bool false] := by unfold zeroA; rw [hinfo]; simp [hzero, Value.cells, ofC]
  have mem : ∀ {i : Nat} {listed : Array Bool}, i ∈ Region.ready .any #[o0, o1, o2, o3] listed → (i = 0 ∨ i = 1 ∨ i = 2 ∨ i = 3) ∧ listed.getD i true = false ∧ ∃ o, #[o0, o1, o2, o3][i]? = some o ∧ ∀ e ∈ o.after.toList, Region.binds .any e = true → listed.getD e.on false = true := fun {i listed} hi => by
    obtain ⟨hlt, hl, o, ho, he⟩ := ready_of.1 hi
    have : i < 4 := hlt
    exact ⟨by omega, hl, o, ho, he⟩
  have hlast : ∀ c : Blk, (h ++ [c])[h.length]? = some c := fun c => by simp
  have hevt : ∀ {G2 : Gh} {b : Bool} {a2 : Act} {w2 : World}, St Λ B wB gl ds G0 w0 G2 (fr.set t (.ptr h.length 0)) (h ++ [.cells T [.bool b] .own]) a2 w2 → (AV.ptr h.length 0).is G2 w2 (a2.eval (.tmp t)) := fun {G2 b a2 w2} S2 => by
    have := S2.ev (.tmp t)
    have e : ev gl (fr.set t (.ptr h.length 0)) (.tmp t) = .ptr h.length 0 := by simp [ev, List.getD_eq_getElem?_getD, ht]
    rwa [e] at this
  -- the end
  have fin : ∀ (G2 : Gh) (b : Bool) (a2 : Act) (w2 : World), St Λ B wB gl ds G0 w0 G2 (fr.set t (.ptr h.length 0)) (h ++ [.cells T [.bool b] .own]) a2 w2 → wpAny P .any #[o0, o1, o2, o3] Q 1 #[true, true, true, false] a2 w2 := by
    intro G2 b a2 w2 S2
    refine ⟨fun hr => ?_, fun i hi => ?_⟩
    · have : 3 ∈ Region.ready .any #[o0, o1, o2, o3] #[true, true, true, false] := ready_of.2 ⟨by simp, rfl, o3, rfl, fun e he hb => by
        have := e3'' e he hb
        have : e.on = 0 ∨ e.on = 1 ∨ e.on = 2 := by omega
        rcases this with q | q | q <;> rw [q] <;> rfl⟩
      rw [hr] at this; cases this
    · obtain ⟨hi4, hl, o, ho, he⟩ := mem hi
      rcases hi4 with rfl | rfl | rfl | rfl
      · cases hl
      · cases hl
      · cases hl
      · refine wpOp_plain (o := o3) rfl g3 ?_
        have hload : loadA P Λ (h ++ [.cells T [.bool b] .own]) T (.ptr h.length 0) = some (.bool b) := by
          unfold loadA
          dsimp only
          rw [hlast]
          simp [partA, hagg]
        obtain ⟨u, hu, hub⟩ := run_loadA S2.heap S2.lay hload (hevt S2)
        simp only [AV.is] at hub
        subst hub
        unfold Oper.wp
        have hrun : (execOp a2.eval o3).run P w2 = .ok (.value (.bool b)) w2 := by simp [execOp, p3, hu]
        rw [hrun]
        show wpAny P .any #[o0, o1, o2, o3] Q 0 _ (a2.put o3.dst (.bool b)) w2
        refine ⟨?_, ?_⟩
        · rw [List.eq_nil_iff_forall_not_mem]
          intro i hi
          obtain ⟨hi4, hl, _⟩ := mem hi
          rcases hi4 with rfl | rfl | rfl | rfl <;> cases hl
        · have S3 := S2.put o3.dst (av := .bool b) (v := .bool b) (by simp only [AV.is])
          rw [d3] at S3 ⊢
          have S4 : St Λ B wB gl ds G0 w0 G2 (putA (fr.set t (.ptr h.length 0)) (some d) (.bool b)) (h ++ [.gone]) (a2.put (some d) (.bool b)) w2 := by
            have := S3.heap.gone h.length
            rw [List.set_append_right _ _ (Nat.le_refl _), Nat.sub_self, List.set_cons_zero] at this
            exact ⟨S3.size, S3.slot, this, S3.gl, S3.defs, S3.lay, S3.mv⟩
          have hev : (a2.put (some d) (.bool b)).eval (.tmp d) = .bool b := by
            have := S4.ev (.tmp d)
            have e : ev gl (putA (fr.set t (.ptr h.length 0)) (some d) (.bool b)) (.tmp d) = .bool b := by simp [ev, putA, List.getD_eq_getElem?_getD, hd]
            rw [e] at this
            simpa only [AV.is] using this
          refine hQ G2 _ w2 b ?_ hev
          have S5 := S4.drops [t, d]
          have e : drops (putA (fr.set t (.ptr h.length 0)) (some d) (.bool b)) [t, d] = (fr.set t .junk).set d .junk := by
            simp only [drops, putA]
            apply List.ext_getElem?
            intro i
            simp only [List.getElem?_set, List.length_set]
            by_cases q1 : d = i <;> by_cases q2 : t = i <;> simp [q1, q2]
          rwa [e] at S5
  -- a store
  have sto : ∀ (o : Oper) (b : Bool), o.op = .store T (.tmp t) (.const (.bool b)) → o.dst = none → ∀ (G2 : Gh) (x : Bool) (a2 : Act) (w2 : World) (K : Act → World → Prop), St Λ B wB gl ds G0 w0 G2 (fr.set t (.ptr h.length 0)) (h ++ [.cells T [.bool x] .own]) a2 w2 →
      (∀ G3 a3 w3, St Λ B wB gl ds G0 w0 G3 (fr.set t (.ptr h.length 0)) (h ++ [.cells T [.bool b] .own]) a3 w3 → K a3 w3) → o.wp P a2 w2 K Q := by
    intro o b ho hdst G2 x a2 w2 K S2 hK
    have hp := hevt S2
    simp only [AV.is] at hp
    obtain ⟨w3, r1, r2, r3⟩ := store_cells (P := P) S2.heap S2.bel (hlast _) hszT (o := 0) (v := .bool b) rfl rfl (by simp) (vv := .bool b) (by simp only [AV.is])
    rw [List.set_append_right _ _ (Nat.le_refl _), Nat.sub_self, List.set_cons_zero] at r2
    unfold Oper.wp
    have hrun : (execOp a2.eval o).run P w2 = .ok .skip w3 := by
      have r1' : (Instr.storeAt T (a2.eval (.tmp t)) (a2.eval (.const (.bool b)))).run P w2 = .ok () w3 := by rw [hp.2]; exact r1
      simp [execOp, ho, r1']
    rw [hrun]
    show K (a2.put o.dst undef) w3
    rw [hdst]
    have S3 := (S2.move r2 r3).put none (av := .junk) (v := undef) trivial
    exact hK _ _ _ S3
  have nonempty : ∀ {i : Nat} {listed : Array Bool} {o : Oper} {p : Prop}, i ∈ Region.ready .any #[o0, o1, o2, o3] listed → Region.ready .any #[o0, o1, o2, o3] listed = [] → p := fun {i listed o p} h1 h2 => by rw [h2] at h1; cases h1
  have bind0 : ∀ {o : Oper} {listed : Array Bool}, listed.getD 0 false = true → (∀ e ∈ o.after.toList, Region.binds .any e = true → e.on = 0) → ∀ e ∈ o.after.toList, Region.binds .any e = true → listed.getD e.on false = true := fun {o listed} hl he e hm hb => by rw [he e hm hb]; exact hl
  have two : ∀ (G2 : Gh) (x : Bool) (a2 : Act) (w2 : World), St Λ B wB gl ds G0 w0 G2 (fr.set t (.ptr h.length 0)) (h ++ [.cells T [.bool x] .own]) a2 w2 → wpAny P .any #[o0, o1, o2, o3] Q 3 #[true, false, false, false] a2 w2 := by
    intro G2 x a2 w2 S2
    refine ⟨fun hr => nonempty (o := o1) (ready_of.2 ⟨(by simp : 1 < (#[o0, o1, o2, o3] : Array Oper).size), rfl, o1, rfl, bind0 rfl e1'⟩) hr, fun i hi => ?_⟩
    obtain ⟨hi4, hl, o, ho, he⟩ := mem hi
    rcases hi4 with rfl | rfl | rfl | rfl
    · cases hl
    · refine wpOp_plain (o := o1) rfl g1 (sto o1 true p1 n1 G2 x a2 w2 _ S2 fun G3 a3 w3 S3 => ?_)
      refine ⟨fun hr => nonempty (o := o2) (ready_of.2 ⟨(by simp : 2 < (#[o0, o1, o2, o3] : Array Oper).size), rfl, o2, rfl, bind0 rfl e2'⟩) hr, fun i hi => ?_⟩
      obtain ⟨hi4, hl, o, ho, he⟩ := mem hi
      rcases hi4 with rfl | rfl | rfl | rfl
      · cases hl
      · cases hl
      · exact wpOp_plain (o := o2) rfl g2 (sto o2 false p2 n2 G3 true a3 w3 _ S3 fun G4 a4 w4 S4 => fin G4 false a4 w4 S4)
      · obtain rfl : o3 = o := Option.some.inj ho
        obtain ⟨e, hm2, q1, q2⟩ := e3'
        have := he e hm2 q2
        rw [q1] at this; cases this
    · refine wpOp_plain (o := o2) rfl g2 (sto o2 false p2 n2 G2 x a2 w2 _ S2 fun G3 a3 w3 S3 => ?_)
      refine ⟨fun hr => nonempty (o := o1) (ready_of.2 ⟨(by simp : 1 < (#[o0, o1, o2, o3] : Array Oper).size), rfl, o1, rfl, bind0 rfl e1'⟩) hr, fun i hi => ?_⟩
      obtain ⟨hi4, hl, o, ho, he⟩ := mem hi
      rcases hi4 with rfl | rfl | rfl | rfl
      · cases hl
      · exact wpOp_plain (o := o1) rfl g1 (sto o1 true p1 n1 G3 false a3 w3 _ S3 fun G4 a4 w4 S4 => fin G4 true a4 w4 S4)
      · cases hl
      · obtain rfl : o3 = o := Option.some.inj ho
        obtain ⟨e, hm2, q1, q2⟩ := e3
        have := he e hm2 q2
        rw [q1] at this; cases this
    · obtain rfl : o3 = o := Option.some.inj ho
      obtain ⟨e, hm2, q1, q2⟩ := e3
      have := he e hm2 q2
      rw [q1] at this; cases this
  show wpAny P .any #[o0, o1, o2, o3] Q 4 #[false, false, false, false] a w1
  refine ⟨fun hr => nonempty (o := o0) (ready_of.2 ⟨(by simp : 0 < (#[o0, o1, o2, o3] : Array Oper).size), rfl, o0, rfl, fun e he hb => by rw [e0 e he] at hb; cases hb⟩) hr, fun i hi => ?_⟩
  obtain ⟨hi4, hl, o, ho, he⟩ := mem hi
  have no : ∀ {q : Prop}, (∃ e ∈ o.after.toList, Region.binds .any e = true ∧ (e.on = 0 ∨ e.on = 1)) → q := fun {q} ⟨e, h1, h2, h3⟩ => by
    have := he e h1 h2
    rcases h3 with h3 | h3 <;> rw [h3] at this <;> cases this
  rcases hi4 with rfl | rfl | rfl | rfl
  · refine wpOp_plain (o := o0) rfl g0 ?_
    obtain ⟨v, hv, hl0⟩ := zeroA_run hz G w1 w1
    obtain ⟨G', H2, m, q1, q2⟩ := alloc_mv S1.heap S1.bel (t := T) hl0
    unfold Oper.wp
    have hrun : (execOp a.eval o0).run P w1 = .ok (.value (.pointer (some ⟨w1.heap.size, 0, none⟩))) (w1.alloc (.cells v.cells T)) := by simp [execOp, p0, Instr.alloc, hv, newVar, newRow]
    rw [hrun]
    show wpAny P .any #[o0, o1, o2, o3] Q 3 _ (a.put o0.dst _) _
    rw [d0]
    have S2 := (S1.move H2 m).put (some t) (av := .ptr h.length 0) (v := .pointer (some ⟨w1.heap.size, 0, none⟩)) (by simp only [AV.is]; exact ⟨q1, by rw [q2]⟩)
    exact two G' false _ _ S2
  · obtain rfl : o1 = o := Option.some.inj ho
    obtain ⟨e, h1, h2, h3⟩ := e1
    exact no ⟨e, h1, h3, .inl h2⟩
  · obtain rfl : o2 = o := Option.some.inj ho
    obtain ⟨e, h1, h2, h3⟩ := e2
    exact no ⟨e, h1, h3, .inl h2⟩
  · obtain rfl : o3 = o := Option.some.inj ho
    obtain ⟨e, h1, h2, h3⟩ := e3
    exact no ⟨e, h1, h3, .inr h2⟩

def WaysF (Λ : Nat → List CK) (B : Nat) (wB : World) (gl : List (Nat × Nat)) (fl : Option Tmp) (fr : Fr) (h : Hp) (n0 : Nat) (O : Exit → Fr → Hp → Prop) (W : (Exit → Act → World → Prop) → Act → World → Prop) : Prop :=
  ∀ (ds : List Deferred) (G0 : Gh) (w0 : World) (G : Gh) (a : Act) (w : World) (Q : Exit → Act → World → Prop), G0.n ≤ n0 → St Λ B wB gl ds G0 w0 G fr h a w → (∀ d, fl = some d → ∃ b, a.eval (.tmp d) = .bool b) →
    (∀ e fr' h' G' a' w', O e fr' h' → St Λ B wB gl ds G0 w0 G' fr' h' a' w' → Q e a' w') → W Q a w

theorem bothM_spec {f : Nat → Option α} : ∀ {l : List Nat}, bothM f l = some r → ∀ i ∈ l, f i = some r
  | [], h, i, hi => by cases hi
  | [j], h, i, hi => by
    simp only [bothM] at h
    rw [List.mem_singleton] at hi
    subst hi; exact h
  | j :: j2 :: l, h, i, hi => by
    simp only [bothM] at h
    obtain ⟨h1, h2⟩ := both_spec h
    rcases List.mem_cons.1 hi with rfl | hi
    · exact h1
    · exact bothM_spec h2 i hi

theorem opsX_path (hΓ : AllOk P GW Λ Γ) (stab : ∀ w', Bel B wB w' → GW w') {inl : Nat → List AV → Hp → (Res → Hp → Option α) → Option α} (hinl : InlOk P Λ B wB inl) {ops : Array Oper} {k : Fr → Hp → Option α} :
    ∀ (n : Nat) (listed : Array Bool) (fr : Fr) (h : Hp), opsX P Λ Γ gl inl ops n listed fr h k = some r → ∀ (ds : List Deferred) (G0 : Gh) (w0 : World) (G : Gh) (a : Act) (w : World) (Q : Exit → Act → World → Prop), St Λ B wB gl ds G0 w0 G fr h a w →
      (∀ fr' h' G' a' w', k fr' h' = some r → St Λ B wB gl ds G0 w0 G' fr' h' a' w' → Q .normal a' w') → wpAny P .any ops Q n listed a w
  | 0, listed, fr, h, hr, ds, G0, w0, G, a, w, Q, S, hq => by
    simp only [opsX] at hr
    split at hr
    · rename_i he; exact ⟨he, hq _ _ _ _ _ hr S⟩
    · cases hr
  | n + 1, listed, fr, h, hr, ds, G0, w0, G, a, w, Q, S, hq => by
    simp only [opsX] at hr
    split at hr
    · rename_i he
      refine ⟨fun _ => hq _ _ _ _ _ hr S, fun i hi => ?_⟩
      rw [he] at hi; cases hi
    · rename_i j js he
      refine ⟨fun e => (by rw [he] at e; cases e), fun i hi => ?_⟩
      rw [he] at hi
      have hri := bothM_spec hr i hi
      split at hri
      · cases hri
      · rename_i o ho
        unfold wpOp
        rw [ho]
        rcases guardA_sound hri with ⟨hw, hri⟩ | ⟨hw, hri⟩
        · rcases doA_path hΓ stab hinl hri with ⟨av, h1, hk1, hA, _, _⟩ | ⟨v, h1, hk1, hA⟩
          · simp only
            rw [wanted_of hw fun j want t _ _ => S.slot t, if_pos rfl]
            refine .inl (hA G w a _ Q S.heap S.lay S.bel (fun x _ => S.ev x) fun G' v w' H' m hv => ?_)
            exact opsX_path hΓ stab hinl n _ _ _ hk1 ds G0 w0 G' _ w' Q ((S.move H' m).put o.dst hv) hq
          · cases hk1
        · rw [forceL_eq] at hri
          simp only
          rw [wanted_of hw fun j want t _ _ => S.slot t, if_neg (by simp)]
          exact opsX_path hΓ stab hinl n _ _ _ hri ds G0 w0 G _ w Q (S.put o.dst (by simp only [AV.is]; exact ⟨#[], rfl, rfl⟩)) hq

theorem listedM_get {n m i : Nat} {d : Bool} (hm : m ≤ n) (hi : i < n) : ((List.replicate m true ++ List.replicate (n - m) false).toArray).getD i d = decide (i < m) := by
  rw [Array.getD_eq_getD_getElem?, List.getElem?_toArray, List.getElem?_append]
  by_cases q : i < m
  · simp [q]
  · simp [q]; rw [List.getElem?_replicate, if_pos (by omega)]; rfl
theorem opsH_path (hΓ : AllOk P GW Λ Γ) (stab : ∀ w', Bel B wB w' → GW w') {inl : Nat → List AV → Hp → (Res → Hp → Option α) → Option α} (hinl : InlOk P Λ B wB inl) {ops : Array Oper} {m : Nat} {k : Fr → Hp → Option α} {fr : Fr} {h : Hp}
    (hr : opsH P Λ Γ gl inl ops m fr h k = some r) (ds : List Deferred) (G0 : Gh) (w0 : World) (G : Gh) (a : Act) (w : World) (Q : Exit → Act → World → Prop) (S : St Λ B wB gl ds G0 w0 G fr h a w)
    (hq : ∀ fr' h' G' a' w', k fr' h' = some r → St Λ B wB gl ds G0 w0 G' fr' h' a' w' → Q .normal a' w') : wpAny P .any ops Q ops.size (Array.replicate ops.size false) a w := by
  unfold opsH at hr
  split at hr
  · rename_i hc
    simp only [Bool.and_eq_true, decide_eq_true_eq] at hc
    obtain ⟨hm, hlate⟩ := hc
    have hLl : (ops.toList.take m).length = m := by rw [List.length_take, Array.length_toList]; exact Nat.min_eq_left hm
    obtain ⟨F, Hs, ks, h0, h0', _, hord, h1, h2⟩ := opsQ_chain (B := B) (wB := wB) hΓ stab hinl (ops.toList.take m) 0 [] fr h rfl rfl hr
    rw [Nat.zero_add, hLl] at h1
    have hF : ∀ j o, (ops.toList.take m)[j]? = some o → Goes P GW Λ B wB gl (ops.toList.take m) (ks.getD j 0) o (F j) (Hs j) (F (j + 1)) (Hs (j + 1)) := fun j o hj => h2 j o (Nat.zero_le _) hj
    refine open_soundM (ds := ds) (G0 := G0) (w0 := w0) (gl := gl) (K := fun j => ks.getD j 0) (ks := ks) stab hm rfl (fun j o hj ho i hi => ?_) (fun _ => rfl) hord hF (fun fuel listed G a w e1 e2 e3 e4 S' => ?_) ops.size (Array.replicate ops.size false) 0 G a w
      ⟨by rw [h0]; exact S.size, fun j o t hj ht hl => ?_, fun t _ => by rw [h0]; exact S.slot t, by rw [h0']; exact S.heap, Nat.zero_le _, fun j o hj _ => ?_, fun j o hj hl => ?_, S.gl, S.defs, S.lay, S.mv, by rw [hLl]; simpa using hm⟩ (by simp) (fun i h1 h2 => ?_) (by simp [List.count_replicate])
    · unfold lateB at hlate
      rw [List.all_eq_true] at hlate
      have hjl : j < ops.size := (Array.getElem?_eq_some_iff.1 ho).1
      have := hlate (o, j) (List.mem_zipIdx_iff_getElem?.2 (by simpa using ho))
      simp only [Bool.or_eq_true, decide_eq_true_eq] at this
      rcases this with q | q
      · omega
      · rw [List.all_eq_true] at q
        have := q i (List.mem_range.2 hi)
        rw [List.any_eq_true] at this
        obtain ⟨e, he, hb⟩ := this
        simp only [Bool.and_eq_true, beq_iff_eq] at hb
        exact ⟨e, he, hb.1, hb.2⟩
    · have hl : listed = (List.replicate m true ++ List.replicate (ops.size - m) false).toArray := by
        apply Array.ext
        · rw [e1]; simp; omega
        · intro i h1 h2
          have hi : i < ops.size := by rw [← e1]; exact h1
          have q1 : listed.getD i true = decide (i < m) := by
            by_cases q : i < m
            · rw [e2 i q]; simp [q]
            · rw [e3 i (by omega) hi]; simp [q]
          have q2 := listedM_get (n := ops.size) (m := m) (i := i) (d := true) hm hi
          rw [Array.getD_eq_getD_getElem?, Array.getElem?_eq_getElem h1] at q1
          rw [Array.getD_eq_getD_getElem?, Array.getElem?_eq_getElem h2] at q2
          simp only [Option.getD_some] at q1 q2
          rw [q1, q2]
      subst hl
      have hf : fuel = ops.size - m := by
        rw [← e4, List.toList_toArray, List.count_append, List.count_replicate, List.count_replicate]; simp
      subst hf
      exact opsX_path hΓ stab hinl _ _ _ _ h1 ds G0 w0 G a w Q S' hq
    · rw [Array.getD_eq_getD_getElem?] at hl
      have hjm : j < m := by rw [← hLl]; exact (List.getElem?_eq_some_iff.1 hj).1
      have : j < ops.size := by omega
      simp [this] at hl
    · have hjm : j < m := by rw [← hLl]; exact (List.getElem?_eq_some_iff.1 hj).1
      have : j < ops.size := by omega
      rw [Array.getD_eq_getD_getElem?]
      simp [this]
    · rw [Array.getD_eq_getD_getElem?] at hl
      have hjm : j < m := by rw [← hLl]; exact (List.getElem?_eq_some_iff.1 hj).1
      have : j < ops.size := by omega
      simp [this] at hl
    · rw [Array.getD_eq_getD_getElem?]; simp [h2]
  · cases hr

theorem coinReg_is {x : Code} {t d : Tmp} (h : coinReg P x = some (t, d)) : ∃ id ops, x = .region id ops true ∧ coinA P ops.toList = some (t, d) := by
  unfold coinReg at h
  split at h
  · exact ⟨_, _, rfl, h⟩
  · cases h

theorem execC_path (hm : P.follows .mixedOrders = true) (hΓ : AllOk P GW Λ Γ) (stab : ∀ w', Bel B wB w' → GW w') {inl : Nat → List AV → Hp → (Res → Hp → Option α) → Option α} (hinl : InlOk P Λ B wB inl) (C : Cfg) (n0 : Nat) :
    ∀ (c : Code), (∀ d ∈ loopsOf c, ∀ n s, C.LS.lookup (loopKey d) = some (n, s) → LSOk P Λ B wB gl n s d) → ∀ (fl : Option Tmp) (fr : Fr) (h : Hp) (K : Exit → Fr → Hp → Option α), execC P Λ Γ gl inl C n0 c fl fr h K = some r →
      WaysF Λ B wB gl fl fr h n0 (fun e fr' h' => K e fr' h' = some r) (fun Q => c.wp P Q) := by
  have plain : ∀ (c : Code), (∀ d ∈ loopsOf c, ∀ n s, C.LS.lookup (loopKey d) = some (n, s) → LSOk P Λ B wB gl n s d) → ∀ (fl : Option Tmp) (fr : Fr) (h : Hp) (K : Exit → Fr → Hp → Option α),
      fl = none ∧ execA P Λ Γ gl inl C n0 c fr h K = some r → WaysF Λ B wB gl fl fr h n0 (fun e fr' h' => K e fr' h' = some r) (fun Q => c.wp P Q) := by
    rintro c hL fl fr h K ⟨rfl, hr⟩
    obtain ⟨e, fr', h', hk, hW⟩ := execA_path (B := B) (wB := wB) (gl := gl) hm hΓ stab hinl C n0 c hL fr h K hr
    exact fun ds G0 w0 G a w Q hn S _ hq => hW.k (O := fun e fr' h' => K e fr' h' = some r) hk ds G0 w0 G a w Q hn S hq
  intro c
  induction c with
  | seq x y ihx ihy =>
    intro hL fl fr h K hr
    simp only [execC] at hr
    cases fl with
    | some d => cases hr
    | none =>
      simp only at hr
      split at hr
      · rename_i t d hco
        have hco' : coinReg P x = some (t, d) ∧ t < fr.length ∧ d < fr.length := by
          split at hco
          · rename_i t' d' hq
            rw [Option.ite_none_right_eq_some] at hco
            obtain ⟨h1, h2⟩ := hco
            cases h2
            exact ⟨hq, h1.1, h1.2.1⟩
          · cases hco
        obtain ⟨hq, ht, hd⟩ := hco'
        obtain ⟨id, ops, rfl, hc⟩ := coinReg_is hq
        rw [forceL_eq] at hr
        have hW := ihy (fun d hd => hL d (by simp [loopsOf, hd])) (some d) _ _ K hr
        intro ds G0 w0 G a w Q hn S _ hq
        refine wp_seq (coin_wp hm hc hd ht S fun G' a' w' b S' he => ?_)
        exact hW ds G0 w0 G' a' w' Q hn S' (fun d' e => by cases e; exact ⟨b, he⟩) hq
      · have hW := ihx (fun d hd => hL d (by simp [loopsOf, hd])) none fr h _ hr
        intro ds G0 w0 G a w Q hn S _ hq
        refine wp_seq (hW ds G0 w0 G a w _ hn S (fun d e => by cases e) fun e fr' h' G' a' w' ho S' => ?_)
        cases e with
        | normal =>
          simp only at ho
          exact ihy (fun d hd => hL d (by simp [loopsOf, hd])) none fr' h' K ho ds G0 w0 G' a' w' Q hn S' (fun d e => by cases e) hq
        | exit i => exact hq _ _ _ _ _ _ ho S'
        | goto i => exact hq _ _ _ _ _ _ ho S'
        | ret => exact hq _ _ _ _ _ _ ho S'
        | panic ch => exact hq _ _ _ _ _ _ ho S'
        | outgrown => exact hq _ _ _ _ _ _ ho S'
  | cond c x y ihx ihy =>
    intro hL fl fr h K hr
    simp only [execC] at hr
    cases fl with
    | some d =>
      simp only at hr
      split at hr
      · rename_i d'
        rw [Option.ite_none_right_eq_some] at hr
        obtain ⟨rfl, hr⟩ := hr
        obtain ⟨h1, h2⟩ := both_spec hr
        intro ds G0 w0 G a w Q hn S hfl hq
        obtain ⟨b, hb⟩ := hfl d rfl
        cases b with
        | true => exact wp_cond_true hb (ihx (fun d hd => hL d (by simp [loopsOf, hd])) none fr h K h1 ds G0 w0 G a w Q hn S (fun d e => by cases e) hq)
        | false => exact wp_cond_false hb (ihy (fun d hd => hL d (by simp [loopsOf, hd])) none fr h K h2 ds G0 w0 G a w Q hn S (fun d e => by cases e) hq)
      · cases hr
    | none =>
      simp only at hr
      split at hr
      · rename_i t hc
        have he : ∀ {ds G0 w0 G a w}, St Λ B wB gl ds G0 w0 G fr h a w → a.eval c = .bool t := fun S => by
          have he := S.ev c
          rw [hc] at he
          simpa only [AV.is] using he
        cases t with
        | true =>
          simp only [forceL_eq] at hr
          exact fun ds G0 w0 G a w Q hn S _ hq => wp_cond_true (he S) (ihx (fun d hd => hL d (by simp [loopsOf, hd])) none _ h K hr ds G0 w0 G a w Q hn (S.fixB C.J hc) (fun d e => by cases e) hq)
        | false =>
          simp only [forceL_eq] at hr
          exact fun ds G0 w0 G a w Q hn S _ hq => wp_cond_false (he S) (ihy (fun d hd => hL d (by simp [loopsOf, hd])) none _ h K hr ds G0 w0 G a w Q hn (S.fixB C.J hc) (fun d e => by cases e) hq)
      · cases hr
  | block id c ih =>
    intro hL fl fr h K hr
    simp only [execC] at hr
    cases fl with
    | some d => cases hr
    | none =>
      simp only at hr
      have hW := ih (fun d hd => hL d (by simpa [loopsOf] using hd)) none fr h _ hr
      intro ds G0 w0 G a w Q hn S _ hq
      refine wp_block (hW ds G0 w0 G a w _ hn S (fun d e => by cases e) fun e fr' h' G' a' w' ho S' => ?_)
      cases e with
      | exit i =>
        simp only at ho
        simp only [Exit.inBlock]
        split at ho
        · rename_i hi
          rw [if_pos hi]; exact hq _ _ _ _ _ _ ho S'
        · rename_i hi
          rw [if_neg hi]; exact hq _ _ _ _ _ _ ho S'
      | normal => exact hq _ _ _ _ _ _ ho S'
      | goto i => exact hq _ _ _ _ _ _ ho S'
      | ret => exact hq _ _ _ _ _ _ ho S'
      | panic ch => exact hq _ _ _ _ _ _ ho S'
      | outgrown => exact hq _ _ _ _ _ _ ho S'
  | skip => intro hL fl fr h K hr; exact plain _ hL fl fr h K (by simp only [execC] at hr; cases fl with | some d => cases hr | none => exact ⟨rfl, hr⟩)
  | region id ops draw =>
    intro hL fl fr h K hr
    simp only [execC] at hr
    cases fl with
    | some d => cases hr
    | none =>
      simp only at hr
      split at hr
      · rename_i hd
        simp only [Bool.and_eq_true] at hd
        obtain ⟨rfl, _⟩ := hd
        intro ds G0 w0 G a w Q hn S _ hq
        refine wp_region_any hm ?_
        have hb : Below w.heap.size w { w with drawn := w.drawn + 1 } := (Below.refl _ _).drew
        obtain ⟨H', hle⟩ := S.heap.below hb
        split at hr
        · refine opsH_path hΓ stab hinl hr ds G0 w0 G a _ Q (S.move H' (.of hle (S.bel.trans (hb.mono S.bel.size)) rfl (Nat.le_refl _) (fun _ _ _ => rfl) (fun i hi g hg => .inl ⟨i, hi, hg⟩))) fun fr' h' G' a' w' hk S' => ?_
          rw [forceL_eq] at hk
          exact hq _ _ _ _ _ _ hk (S'.dropsR C.J id)
        · refine opsX_path hΓ stab hinl _ _ _ _ hr ds G0 w0 G a _ Q (S.move H' (.of hle (S.bel.trans (hb.mono S.bel.size)) rfl (Nat.le_refl _) (fun _ _ _ => rfl) (fun i hi g hg => .inl ⟨i, hi, hg⟩))) fun fr' h' G' a' w' hk S' => ?_
          rw [forceL_eq] at hk
          exact hq _ _ _ _ _ _ hk (S'.dropsR C.J id)
      · exact plain _ hL none fr h K ⟨rfl, hr⟩
  | loop c ih => intro hL fl fr h K hr; exact plain _ hL fl fr h K (by simp only [execC] at hr; cases fl with | some d => cases hr | none => exact ⟨rfl, hr⟩)
  | exit i => intro hL fl fr h K hr; exact plain _ hL fl fr h K (by simp only [execC] at hr; cases fl with | some d => cases hr | none => exact ⟨rfl, hr⟩)
  | label l => intro hL fl fr h K hr; exact plain _ hL fl fr h K (by simp only [execC] at hr; cases fl with | some d => cases hr | none => exact ⟨rfl, hr⟩)
  | ret => intro hL fl fr h K hr; exact plain _ hL fl fr h K (by simp only [execC] at hr; cases fl with | some d => cases hr | none => exact ⟨rfl, hr⟩)
  | rangeFunc => intro hL fl fr h K hr; exact plain _ hL fl fr h K (by simp only [execC] at hr; cases fl with | some d => cases hr | none => exact ⟨rfl, hr⟩)
  | scope => intro hL fl fr h K hr; exact plain _ hL fl fr h K (by simp only [execC] at hr; cases fl with | some d => cases hr | none => exact ⟨rfl, hr⟩)
  | goto => intro hL fl fr h K hr; exact plain _ hL fl fr h K (by simp only [execC] at hr; cases fl with | some d => cases hr | none => exact ⟨rfl, hr⟩)
  | refuse => intro hL fl fr h K hr; exact plain _ hL fl fr h K (by simp only [execC] at hr; cases fl with | some d => cases hr | none => exact ⟨rfl, hr⟩)

def resV (tmps : Array Value) : ResultVar → Sem Value
  | .tmp t => pure (tmps.getD t undef)
  | .cell p t => do loadVar t (← asAddr (tmps.getD p undef))

theorem results_resV (fn : Func) (tmps : Array Value) : results fn tmps = (do let vs ← fn.results.mapM (resV tmps); pure (if h : vs.size = 1 then vs[0] else .tuple vs)) := by
  unfold results
  have : (fun (x : ResultVar) => (match x with | .tmp t => pure (tmps.getD t undef) | .cell a t => do loadVar t (← asAddr (tmps.getD a undef)) : Sem Value)) = resV tmps := by
    funext x; cases x <;> rfl
  rw [← this]
  rfl

theorem loadAt_ptr {t : TypeId} {v u : Value} (h : (Instr.loadAt t v).run P w = .ok u w) : (do loadVar t (← asAddr v) : Sem Value).run P w = .ok u w := by
  cases v
  case pointer p =>
    cases p with
    | none => simp [Instr.loadAt, Instr.sureAddr, stuck, Sem.run] at h
    | some a =>
      simpa [Instr.loadAt, Instr.sureAddr, asAddr] using h
  all_goals simp [Instr.loadAt, Instr.sureAddr, stuck, Sem.run] at h

theorem resA_sound (S : St Λ B wB gl ds G0 w0 G fr h a w) : ∀ (rs : List ResultVar) (l : List AV), resA P Λ fr h rs = some l →
    ∃ vs : List Value, (rs.mapM (resV a.tmps)).run P w = .ok vs w ∧ AV.isL G w l vs
  | [], l, hr => by simp only [resA] at hr; cases hr; exact ⟨[], by simp, by simp [AV.isL]⟩
  | .tmp t :: rs, l, hr => by
    simp only [resA, Option.map_eq_some_iff] at hr
    obtain ⟨l', hr, rfl⟩ := hr
    obtain ⟨vs, hvs, hl⟩ := resA_sound S rs l' hr
    exact ⟨a.tmps.getD t undef :: vs, by simp only [List.mapM_cons, resV, Sem.run_bind, Sem.run_pure, Result.andThen_ok, hvs], by simp only [AV.isL]; exact ⟨_, _, rfl, S.slot t, hl⟩⟩
  | .cell p t :: rs, l, hr => by
    simp only [resA] at hr
    split at hr
    · rename_i v l' hv hr'
      cases hr
      obtain ⟨vs, hvs, hl⟩ := resA_sound S rs l' hr'
      obtain ⟨u, hu, hk⟩ := run_loadA S.heap S.lay hv (S.slot p)
      refine ⟨u :: vs, ?_, by simp only [AV.isL]; exact ⟨_, _, rfl, hk, hl⟩⟩
      have hload' : (resV a.tmps (.cell p t)).run P w = .ok u w := loadAt_ptr hu
      simp only [List.mapM_cons]
      rw [Sem.run_bind, hload']
      simp only [Result.andThen_ok, Sem.run_bind, hvs, Sem.run_pure]
    · cases hr

theorem St.results (S : St Λ B wB gl ds G0 w0 G fr h a w) {fn : Func} {l : List AV} (hl : resA P Λ fr h fn.results.toList = some l) : ∃ v, (results fn a.tmps).run P w = .ok v w ∧ (oneA l).is G w v := by
  obtain ⟨us, hus, hisl⟩ := resA_sound S _ l hl
  have hrun : (Go.results fn a.tmps).run P w = .ok (if h : us.toArray.size = 1 then us.toArray[0] else .tuple us.toArray) w := by
    rw [results_resV, Sem.run_bind]
    rw [← Array.toArray_toList (xs := fn.results), List.mapM_toArray, Sem.run_map, hus]
    rfl
  refine ⟨_, hrun, ?_⟩
  have hlen := isL_len hisl
  match l, us, hlen, hisl with
  | [], [], _, _ => simp only [oneA, List.size_toArray, List.length_nil]; rw [dif_neg (by simp)]; simp only [AV.is]; exact ⟨_, rfl, by simp [AV.isL]⟩
  | [x], [u], _, hisl =>
    simp only [AV.isL] at hisl
    obtain ⟨v, r', e, hx, hr'⟩ := hisl
    cases e
    simpa [oneA] using hx
  | x :: y :: l, u :: u' :: us, _, hisl =>
    simp only [oneA]
    rw [dif_neg (by simp)]
    simp only [AV.is]
    exact ⟨_, rfl, hisl⟩

theorem bodyA_path (hm : P.follows .mixedOrders = true) (hΓ : AllOk P GW Λ Γ) (stab : ∀ w', Bel B wB w' → GW w') {inl : Nat → List AV → Hp → (Res → Hp → Option α) → Option α} (hinl : InlOk P Λ B wB inl) {C : Cfg} {f : FuncId} {fn : Func} (hf : P.funcs[f]? = some fn)
    (hL : ∀ c, fn.body = some c → ∀ d ∈ loopsOf c, ∀ n s, C.LS.lookup (loopKey d) = some (n, s) → LSOk P Λ B wB gl n s d) {args : List AV} {h : Hp} {k : Res → Hp → Option α} (hr : bodyA P Λ Γ gl inl C fn args h k = some r) :
    ∃ res h', k res h' = some r ∧ ∀ (G : Gh) (w : World) (vs : Array Value), HRep G B h w → G.lay = Λ → Bel B wB w → (∀ g i, gl.lookup g = some i → i < G.n ∧ G.at_ i = g) → AV.isL G w args vs.toList →
      Calls P f vs w fun e w' => ∃ G', HRep G' B h' w' ∧ Mv B wB G w G' w' ∧ res.isE G' w' e := by
  unfold bodyA at hr
  cases hb : fn.body with
  | none => simp [hb] at hr
  | some c =>
    simp only [hb, forceL_eq] at hr
    obtain ⟨e, fr1, h1, hk1, hW⟩ := execA_path (B := B) (wB := wB) (gl := gl) hm hΓ stab hinl C h.length c (hL c hb) _ h _ hr
    have start : ∀ (G : Gh) (w : World) (vs : Array Value), HRep G B h w → G.lay = Λ → Bel B wB w → (∀ g i, gl.lookup g = some i → i < G.n ∧ G.at_ i = g) → AV.isL G w args vs.toList →
        St Λ B wB gl [] G w G (args ++ List.replicate (fn.ntmps - args.length) .junk) h { tmps := vs ++ Array.replicate (fn.ntmps - vs.size) undef, defers := [] } w := fun G w vs H hΛ hb hgl hargs => by
      have hlen : vs.size = args.length := by have := isL_len hargs; simpa using this
      refine ⟨by simp [hlen], fun t => ?_, H, hgl, rfl, hΛ, .refl hb⟩
      show AV.is G w _ ((vs ++ Array.replicate (fn.ntmps - vs.size) undef).getD t undef)
      rw [List.getD_eq_getElem?_getD, Array.getD_eq_getD_getElem?, List.getElem?_append, Array.getElem?_append]
      by_cases q : t < args.length
      · rw [if_pos q, if_pos (by omega)]
        obtain ⟨v, hv, k⟩ := isL_get hargs t args[t] (List.getElem?_eq_getElem q)
        have hv' : vs[t]? = some v := by simpa using hv
        rw [List.getElem?_eq_getElem q, hv']; exact k
      · rw [if_neg q, if_neg (by omega)]
        have : ((List.replicate (fn.ntmps - args.length) AV.junk)[t - args.length]?).getD .junk = .junk := by
          rw [List.getElem?_replicate]; split <;> rfl
        rw [this]; trivial
    have fin : ∀ {l : List AV}, resA P Λ fr1 h1 fn.results.toList = some l → (e = .normal ∨ e = .ret) → ∀ (G : Gh) (w : World) (vs : Array Value), HRep G B h w → G.lay = Λ → Bel B wB w → (∀ g i, gl.lookup g = some i → i < G.n ∧ G.at_ i = g) → AV.isL G w args vs.toList →
        Calls P f vs w fun en w' => ∃ G', HRep G' B h1 w' ∧ Mv B wB G w G' w' ∧ (Res.ret (oneA l)).isE G' w' en := fun {l} hl he G w vs H hΛ hb' hgl hargs => by
      refine calls_of_wp hf hb (hW [] G w G _ w _ (by rw [H.len]; exact Nat.le_refl _) (start G w vs H hΛ hb' hgl hargs) fun G' a' w' S' => ?_)
      obtain ⟨v, hv, hvis⟩ := S'.results hl
      rcases he with rfl | rfl
      · exact ⟨S'.defs, v, hv, G', S'.heap, S'.mv, v, rfl, hvis⟩
      · exact ⟨S'.defs, v, hv, G', S'.heap, S'.mv, v, rfl, hvis⟩
    cases e with
    | normal =>
      simp only at hk1
      split at hk1
      · rename_i l hl; exact ⟨_, h1, hk1, fin hl (.inl rfl)⟩
      · cases hk1
    | ret =>
      simp only at hk1
      split at hk1
      · rename_i l hl; exact ⟨_, h1, hk1, fin hl (.inr rfl)⟩
      · cases hk1
    | panic ch =>
      match ch, hk1, hW with
      | [], hk1, _ => cases hk1
      | [⟨v, false, false⟩], hk1, hW =>
        refine ⟨_, h1, hk1, fun G w vs H hΛ hb' hgl hargs => calls_of_wp hf hb (hW [] G w G _ w _ (by rw [H.len]; exact Nat.le_refl _) (start G w vs H hΛ hb' hgl hargs) fun G' a' w' S' => ⟨S'.defs, G', S'.heap, S'.mv, rfl⟩)⟩
      | [⟨v, true, g⟩], hk1, _ => cases hk1
      | [⟨v, false, true⟩], hk1, _ => cases hk1
      | _ :: _ :: _, hk1, _ => cases hk1
    | exit i => cases hk1
    | goto i => cases hk1
    | outgrown => cases hk1

theorem bodyC_path (hm : P.follows .mixedOrders = true) (hΓ : AllOk P GW Λ Γ) (stab : ∀ w', Bel B wB w' → GW w') {inl : Nat → List AV → Hp → (Res → Hp → Option α) → Option α} (hinl : InlOk P Λ B wB inl) {C : Cfg} {f : FuncId} {fn : Func} (hf : P.funcs[f]? = some fn)
    (hL : ∀ c, fn.body = some c → ∀ d ∈ loopsOf c, ∀ n s, C.LS.lookup (loopKey d) = some (n, s) → LSOk P Λ B wB gl n s d) {args : List AV} {h : Hp} {k : Res → Hp → Option α} (hr : bodyC P Λ Γ gl inl C fn args h k = some r) :
    ∀ (G : Gh) (w : World) (vs : Array Value), HRep G B h w → G.lay = Λ → Bel B wB w → (∀ g i, gl.lookup g = some i → i < G.n ∧ G.at_ i = g) → AV.isL G w args vs.toList →
      Calls P f vs w fun e w' => ∃ res h' G', k res h' = some r ∧ HRep G' B h' w' ∧ Mv B wB G w G' w' ∧ res.isE G' w' e := by
  unfold bodyC at hr
  cases hb : fn.body with
  | none => simp [hb] at hr
  | some c =>
    simp only [hb, forceL_eq] at hr
    have hW := execC_path (B := B) (wB := wB) (gl := gl) hm hΓ stab hinl C h.length c (hL c hb) none _ h _ hr
    intro G w vs H hΛ hb' hgl hargs
    have hlen : vs.size = args.length := by have := isL_len hargs; simpa using this
    have S : St Λ B wB gl [] G w G (args ++ List.replicate (fn.ntmps - args.length) .junk) h { tmps := vs ++ Array.replicate (fn.ntmps - vs.size) undef, defers := [] } w := by
      refine ⟨by simp [hlen], fun t => ?_, H, hgl, rfl, hΛ, .refl hb'⟩
      show AV.is G w _ ((vs ++ Array.replicate (fn.ntmps - vs.size) undef).getD t undef)
      rw [List.getD_eq_getElem?_getD, Array.getD_eq_getD_getElem?, List.getElem?_append, Array.getElem?_append]
      by_cases q : t < args.length
      · rw [if_pos q, if_pos (by omega)]
        obtain ⟨v, hv, k⟩ := isL_get hargs t args[t] (List.getElem?_eq_getElem q)
        have hv' : vs[t]? = some v := by simpa using hv
        rw [List.getElem?_eq_getElem q, hv']; exact k
      · rw [if_neg q, if_neg (by omega)]
        have : ((List.replicate (fn.ntmps - args.length) AV.junk)[t - args.length]?).getD .junk = .junk := by
          rw [List.getElem?_replicate]; split <;> rfl
        rw [this]; trivial
    refine calls_of_wp hf hb (hW [] G w G _ w _ (by rw [H.len]; exact Nat.le_refl _) S (fun d e => by cases e) fun e fr1 h1 G' a' w' hk1 S' => ?_)
    cases e with
    | normal =>
      simp only at hk1
      split at hk1
      · rename_i l hl
        obtain ⟨v, hv, hvis⟩ := S'.results hl
        exact ⟨S'.defs, v, hv, _, h1, G', hk1, S'.heap, S'.mv, v, rfl, hvis⟩
      · cases hk1
    | ret =>
      simp only at hk1
      split at hk1
      · rename_i l hl
        obtain ⟨v, hv, hvis⟩ := S'.results hl
        exact ⟨S'.defs, v, hv, _, h1, G', hk1, S'.heap, S'.mv, v, rfl, hvis⟩
      · cases hk1
    | panic ch =>
      match ch, hk1 with
      | [], hk1 => cases hk1
      | [⟨v, false, false⟩], hk1 => exact ⟨S'.defs, _, h1, G', hk1, S'.heap, S'.mv, rfl⟩
      | [⟨v, true, g⟩], hk1 => cases hk1
      | [⟨v, false, true⟩], hk1 => cases hk1
      | _ :: _ :: _, hk1 => cases hk1
    | exit i => cases hk1
    | goto i => cases hk1
    | outgrown => cases hk1

def HandAt (P : Program) (Λ : Nat → List CK) (B : Nat) (wB : World) (f : Nat) (S : List AV → Hp → Option (Res × Hp)) : Prop :=
  ∀ (args : List AV) (h : Hp) (res : Res) (h' : Hp), S args h = some (res, h') → ∀ (G : Gh) (w : World) (vs : Array Value), HRep G B h w → G.lay = Λ → Bel B wB w → AV.isL G w args vs.toList →
    Calls P f vs w fun e w' => ∃ G', HRep G' B h' w' ∧ Mv B wB G w G' w' ∧ res.isE G' w' e
def HandM (P : Program) (Λ : Nat → List CK) (B : Nat) (wB : World) (f : Nat) (S : MSum) : Prop :=
  ∀ (args : List AV) (h : Hp) (τ : Type) (x : Option τ) (out : τ → Res × Hp) (sel : (β : Type) → τ → (Res → Hp → Option β) → Option β) (ok : ∀ β t k, sel β t k = k (out t).1 (out t).2) (t : τ), S args h = some (.mk τ x out sel ok) → x = some t →
    ∀ (G : Gh) (w : World) (vs : Array Value), HRep G B h w → G.lay = Λ → Bel B wB w → AV.isL G w args vs.toList → Calls P f vs w fun e w' => ∃ G', HRep G' B (out t).2 w' ∧ Mv B wB G w G' w' ∧ (out t).1.isE G' w' e
def InOk (P : Program) (Λ : Nat → List CK) (B : Nat) (wB : World) (IN : List (Nat × Func × Cfg)) : Prop :=
  ∀ f fn C, IN.lookup f = some (fn, C) → (∀ args w, (callFunc f args).run P w = .ok (.enter f args) w) ∧
    ((C.mem = none ∧ C.hand = none ∧ P.funcs[f]? = some fn ∧ ∀ c, fn.body = some c → ∀ d ∈ loopsOf c, ∀ n s, C.LS.lookup (loopKey d) = some (n, s) → LSOk P Λ B wB [] n s d) ∨
     (∃ S, C.mem = none ∧ C.hand = some S ∧ HandAt P Λ B wB f S) ∨ ∃ S, C.mem = some S ∧ HandM P Λ B wB f S)

theorem inlA_ok (hm : P.follows .mixedOrders = true) (hΓ : AllOk P GW Λ Γ) (stab : ∀ w', Bel B wB w' → GW w') {IN : List (Nat × Func × Cfg)} (hIN : InOk P Λ B wB IN) : ∀ d, InlOk (α := α) P Λ B wB (inlA P Λ Γ IN d)
  | 0 => fun f args h k r hr => by simp [inlA] at hr
  | d + 1 => fun f args h k r hr => by
    simp only [inlA] at hr
    split at hr
    · rename_i fn C hlk
      obtain ⟨hcf, ⟨hm0, hh, hf, hL⟩ | ⟨S, hm0, hh, hS⟩ | ⟨S, hm0, hS⟩⟩ := hIN f fn C hlk
      · simp only [hm0, hh] at hr
        obtain ⟨res, h', hk, hC⟩ := bodyA_path (gl := []) hm hΓ stab (inlA_ok hm hΓ stab hIN d) hf hL hr
        exact ⟨hcf, res, h', hk, fun G w vs H hΛ hb hargs => hC G w vs H hΛ hb (fun g i q => by simp at q) hargs⟩
      · simp only [hm0, hh] at hr
        split at hr
        · rename_i res h' hs
          rw [forceH_eq] at hr
          exact ⟨hcf, res, h', hr, fun G w vs H hΛ hb hargs => hS args h res h' hs G w vs H hΛ hb hargs⟩
        · cases hr
      · simp only [hm0] at hr
        split at hr
        · rename_i τ x out sel ok hs
          rw [Option.bind_eq_some_iff] at hr
          obtain ⟨t, ht, hr⟩ := hr
          rw [ok, forceH_eq] at hr
          exact ⟨hcf, _, _, hr, fun G w vs H hΛ hb hargs => hS args h τ x out sel ok t hs ht G w vs H hΛ hb hargs⟩
        · cases hr
    · cases hr

end
end Go.Proofs.Qx

namespace Go.Proofs.Qx
open Go Go.RowKit
set_option linter.unusedVariables false
set_option linter.unusedSimpArgs false

def Gh.recast (G : Gh) (T : TS) (ρ : List (Option Nat)) : Gh where
  at_ := fun j => match ρ[j]? with | some (some r) => G.at_ r | _ => 0
  n := T.h.length
  imm := G.imm
  rv := fun j => match ρ[j]? with | some (some r) => G.rv r | _ => .slice none 0 0
  ver := fun j => if j < T.keep then max (G.ver j) ((T.h.map TB.ver).getD j 0) else (T.h.map TB.ver).getD j 0
  ft := fun j => match ρ[j]? with | some (some r) => if r < G.n then G.ft r else [] | _ => []
  lay := G.lay

section
variable {G : Gh} {w : World} {T : TS} {ρ : List (Option Nat)} {h : Hp} {B : Nat}

theorem extT_val_seq {tv : List Nat} {t : Nat} {u : Value} {d : List D} (hd : extT tv ρ h (.seq t) (.val u) = some d) : u = .slice none 0 0 ∧ d = [.seq []] := by
  unfold extT at hd
  split at hd <;> simp_all
theorem extT_val_nil {tv : List Nat} {u : Value} {d : List D} (hd : extT tv ρ h .nil (.val u) = some d) : u = .slice none 0 0 ∧ d = [] := by
  unfold extT at hd
  split at hd <;> simp_all
theorem extT_val_rs {tv : List Nat} {j q : Nat} {u : Value} {d : List D} (hd : extT tv ρ h (.rs j q) (.val u) = some d) : u = .slice none 0 0 ∧ d = [] ∧ ρ[j]? = some none ∧ q ≤ tv.getD j 0 := by
  unfold extT at hd
  split at hd <;> simp_all

theorem extT_val_nilp {tv : List Nat} {u : Value} {d : List D} (hd : extT tv ρ h .nilp (.val u) = some d) : u = .pointer none ∧ d = [] := by
  unfold extT at hd
  split at hd <;> simp_all
theorem extT_val_op {tv : List Nat} {b : Nat} {u : Value} {d : List D} (hd : extT tv ρ h (.op b) (.val u) = some d) : u = .pointer none ∧ d = [] ∧ b < ρ.length := by
  unfold extT at hd
  split at hd <;> simp_all

theorem headD_cons (d : D) (l : List D) : ((d :: l).headD default) = d := rfl

mutual
theorem extT_is (hb : ∀ i b, h[i]? = some b → BRep G B w i b) (hlen : ρ.length = T.h.length) (hk2 : ∀ j, j < T.keep → ρ[j]? = some (some j)) :
    ∀ (t : Tp) (a : AV) (d : List D), extT (T.h.map TB.ver) ρ h t a = some d → ∀ (v : Value), a.is G w v → ∀ rest, (bldT t (d ++ rest)).2 = rest ∧ (bldT t (d ++ rest)).1.is (G.recast T ρ) w v
  | .junk, a, d, hd, v, hv, rest => by simp only [extT] at hd; cases hd; exact ⟨rfl, trivial⟩
  | .int k, a, d, hd, v, hv, rest => by
    cases a <;> simp only [extT] at hd <;> try (cases hd; done)
    split at hd
    · rename_i e; subst e; cases hd; simpa [bldT, AV.is, D.toInt] using hv
    · cases hd
  | .bool, a, d, hd, v, hv, rest => by
    cases a <;> simp only [extT] at hd <;> cases hd
    simpa [bldT, AV.is, D.toBool] using hv
  | .str, a, d, hd, v, hv, rest => by
    cases a <;> simp only [extT] at hd <;> cases hd
    simpa [bldT, AV.is, D.toStr] using hv
  | .seq t, a, d, hd, v, hv, rest => by
    cases a
    case seq t' l =>
      simp only [extT] at hd
      split at hd
      · rename_i e; subst e; cases hd; exact ⟨rfl, by simpa [bldT, AV.is, D.toSeq, Gh.recast] using hv⟩
      · cases hd
    case val u =>
      obtain ⟨rfl, rfl⟩ := extT_val_seq hd
      simp only [AV.is] at hv
      subst hv
      exact ⟨rfl, by simp only [bldT, List.cons_append, headD_cons, AV.is, D.toSeq]; exact .nil _⟩
    all_goals (simp only [extT] at hd; cases hd)
  | .ptr b o, a, d, hd, v, hv, rest => by
    cases a <;> simp only [extT] at hd <;> try (cases hd; done)
    split at hd
    · rename_i b' o' hc
      obtain ⟨h1, rfl⟩ := hc
      cases hd
      simp only [AV.is] at hv
      have : b < ρ.length := (List.getElem?_eq_some_iff.1 h1).1
      refine ⟨rfl, ?_⟩
      simp only [bldT, AV.is, Gh.recast, h1]
      exact ⟨by omega, hv.2⟩
    · cases hd
  | .sl b o n c, a, d, hd, v, hv, rest => by
    cases a <;> simp only [extT] at hd <;> try (cases hd; done)
    split at hd
    · rename_i hc
      obtain ⟨h1, rfl, rfl, rfl⟩ := hc
      cases hd
      simp only [AV.is] at hv
      have : b < ρ.length := (List.getElem?_eq_some_iff.1 h1).1
      refine ⟨rfl, ?_⟩
      simp only [bldT, AV.is, Gh.recast, h1]
      exact ⟨by omega, hv.2⟩
    · cases hd
  | .rs j q, a, d, hd, v, hv, rest => by
    have hver : q ≤ (T.h.map TB.ver).getD j 0 → (∃ r, ρ[j]? = some (some r) ∨ ρ[j]? = some none) → q ≤ (G.recast T ρ).ver j := fun hq hj => by
      simp only [Gh.recast]
      split
      · rename_i hjk
        exact Nat.le_trans hq (Nat.le_max_right _ _)
      · exact hq
    cases a
    case rs r q' =>
      simp only [extT] at hd
      split at hd
      · rename_i hc
        obtain ⟨h1, hq⟩ := hc
        simp only [AV.is] at hv
        obtain ⟨hrn, _, hsl, hval⟩ := hv
        have hjl : j < ρ.length := (List.getElem?_eq_some_iff.1 h1).1
        have key : G.ver r = q' → d = [] → (bldT (.rs j q) (d ++ rest)).2 = rest ∧ (bldT (.rs j q) (d ++ rest)).1.is (G.recast T ρ) w v := fun e1 e2 => by
          subst e2
          refine ⟨rfl, ?_⟩
          simp only [bldT, AV.is]
          refine ⟨by simp only [Gh.recast]; omega, hver hq ⟨r, .inl h1⟩, hsl, fun _ => ?_⟩
          simp only [Gh.recast, h1]
          exact hval e1
        split at hd
        · rename_i e v' nb l hrow
          split at hd
          · rename_i e; subst e; cases hd
            exact key (hb r _ hrow).1 rfl
          · cases hd
        · rename_i e v' l hrow
          split at hd
          · rename_i e; subst e; cases hd
            exact key (hb r _ hrow).1 rfl
          · cases hd
        · rename_i e v' b fz hrow
          split at hd
          · rename_i e; subst e; cases hd
            exact key (hb r _ hrow).1 rfl
          · cases hd
        · rename_i e v' l hrow
          split at hd
          · rename_i e; subst e; cases hd
            exact key (hb r _ hrow).1 rfl
          · cases hd
        · cases hd
      · cases hd
    case val u =>
      obtain ⟨rfl, rfl, h1, hq⟩ := extT_val_rs hd
      simp only [AV.is] at hv
      subst hv
      have hjl : j < ρ.length := (List.getElem?_eq_some_iff.1 h1).1
      refine ⟨rfl, ?_⟩
      simp only [bldT, AV.is]
      refine ⟨by simp only [Gh.recast]; omega, hver hq ⟨0, .inr h1⟩, ⟨_, _, _, rfl⟩, fun _ => ?_⟩
      simp only [Gh.recast, h1]
    all_goals (simp only [extT] at hd; cases hd)
  | .fn f l m, a, d, hd, v, hv, rest => by
    cases a <;> simp only [extT] at hd <;> try (cases hd; done)
    split at hd
    · rename_i e
      subst e
      split at hd
      · rename_i x y h1 h2
        cases hd
        simp only [AV.is] at hv
        obtain ⟨va, vb, rfl, hl, hm⟩ := hv
        obtain ⟨q1, q2⟩ := extTs_is hb hlen hk2 l _ x h1 va.toList hl (y ++ rest)
        obtain ⟨q3, q4⟩ := extTs_is hb hlen hk2 m _ y h2 vb.toList hm rest
        rw [List.append_assoc]
        simp only [bldT, q1, AV.is]
        exact ⟨q3, va, vb, rfl, q2, q4⟩
      · cases hd
    · cases hd
  | .nil, a, d, hd, v, hv, rest => by
    cases a
    case val u =>
      obtain ⟨rfl, rfl⟩ := extT_val_nil hd
      simp only [AV.is] at hv
      exact ⟨rfl, by simp only [bldT, AV.is]; exact hv⟩
    all_goals (simp only [extT] at hd; cases hd)
  | .nilp, a, d, hd, v, hv, rest => by
    cases a
    case val u =>
      obtain ⟨rfl, rfl⟩ := extT_val_nilp hd
      simp only [AV.is] at hv
      exact ⟨rfl, by simp only [bldT, AV.is]; exact hv⟩
    all_goals (simp only [extT] at hd; cases hd)
  | .op b, a, d, hd, v, hv, rest => by
    cases a
    case val u =>
      obtain ⟨rfl, rfl, hlt⟩ := extT_val_op hd
      simp only [AV.is] at hv
      exact ⟨rfl, by simp only [bldT, AV.is, Gh.recast]; exact ⟨by omega, .inl hv⟩⟩
    case ptr b' o =>
      simp only [extT] at hd
      split at hd
      · rename_i hc
        obtain ⟨h1, rfl⟩ := hc
        cases hd
        simp only [AV.is] at hv
        have : b < ρ.length := (List.getElem?_eq_some_iff.1 h1).1
        refine ⟨rfl, ?_⟩
        simp only [bldT, AV.is, Gh.recast, h1]
        exact ⟨by omega, .inr hv.2⟩
      · cases hd
    case op b' =>
      simp only [extT] at hd
      split at hd
      · rename_i h1
        cases hd
        simp only [AV.is] at hv
        have : b < ρ.length := (List.getElem?_eq_some_iff.1 h1).1
        refine ⟨rfl, ?_⟩
        simp only [bldT, AV.is, Gh.recast, h1]
        exact ⟨by omega, hv.2⟩
      · cases hd
    all_goals (simp only [extT] at hd; cases hd)
  | .agg l, a, d, hd, v, hv, rest => by
    cases a <;> simp only [extT] at hd <;> try (cases hd; done)
    simp only [AV.is] at hv
    obtain ⟨va, rfl, hl⟩ := hv
    obtain ⟨q1, q2⟩ := extTs_is hb hlen hk2 l _ d hd va.toList hl rest
    simp only [bldT, AV.is]
    exact ⟨q1, va, rfl, q2⟩
theorem extTs_is (hb : ∀ i b, h[i]? = some b → BRep G B w i b) (hlen : ρ.length = T.h.length) (hk2 : ∀ j, j < T.keep → ρ[j]? = some (some j)) :
    ∀ (ts : List Tp) (l : List AV) (d : List D), extTs (T.h.map TB.ver) ρ h ts l = some d → ∀ (vs : List Value), AV.isL G w l vs → ∀ rest, (bldTs ts (d ++ rest)).2 = rest ∧ AV.isL (G.recast T ρ) w (bldTs ts (d ++ rest)).1 vs
  | [], [], d, hd, vs, hv, rest => by simp only [extTs] at hd; cases hd; simpa [bldTs, AV.isL] using hv
  | [], a :: l, d, hd, vs, hv, rest => by simp [extTs] at hd
  | t :: ts, [], d, hd, vs, hv, rest => by simp [extTs] at hd
  | t :: ts, a :: l, d, hd, vs, hv, rest => by
    simp only [extTs] at hd
    split at hd
    · rename_i x y h1 h2
      cases hd
      simp only [AV.isL] at hv
      obtain ⟨v, r, rfl, ha, hl⟩ := hv
      obtain ⟨q1, q2⟩ := extT_is hb hlen hk2 t a x h1 v ha (y ++ rest)
      obtain ⟨q3, q4⟩ := extTs_is hb hlen hk2 ts l y h2 r hl rest
      rw [List.append_assoc]
      simp only [bldTs, q1, AV.isL]
      exact ⟨q3, v, r, rfl, q2, q4⟩
    · cases hd
end

theorem extB_is (H : HRep G B h w) (hlen : ρ.length = T.h.length) (hk2 : ∀ j, j < T.keep → ρ[j]? = some (some j))
    {kp : Bool} {j : Nat} {tb : TB} {ob : Option Nat} {d : List D} (hT : T.h[j]? = some tb) (hρ : ρ[j]? = some ob) (hkp : kp = true ↔ j < T.keep) (hd : extB (T.h.map TB.ver) kp ρ h tb ob = some d) (rest : List D) :
    (bldB tb (d ++ rest)).2 = rest ∧ BRep (G.recast T ρ) B w j (bldB tb (d ++ rest)).1 ∧ ((bldB tb (d ++ rest)).1.own = true → ∀ g ∈ (G.recast T ρ).ft j, B ≤ g ∧ ∀ o, ¬ G.imm g o) := by
  have hver : ∀ b, ob = some b → (kp = true → G.ver b ≤ tb.ver) → (G.recast T ρ).ver j = tb.ver := fun b hb hk => by
    simp only [Gh.recast]
    split
    · rename_i hj
      have e := hk2 j hj
      rw [hρ] at e; cases e
      cases hb
      have e2 : (T.h.map TB.ver).getD j 0 = tb.ver := by simp [List.getD_eq_getElem?_getD, hT]
      rw [e2]
      exact Nat.max_eq_right (hk (hkp.2 hj))
    · rename_i hj
      simp [List.getD_eq_getElem?_getD, hT]
  have hver0 : ob = none → (G.recast T ρ).ver j = tb.ver := fun hb => by
    simp only [Gh.recast]
    split
    · rename_i hj
      have e := hk2 j hj
      rw [hρ] at e; cases e; cases hb
    · simp [List.getD_eq_getElem?_getD, hT]
  have hft : ∀ b, ob = some b → ∀ {c : Blk}, h[b]? = some c → (G.recast T ρ).ft j = G.ft b ∧ (G.recast T ρ).at_ j = G.at_ b ∧ (G.recast T ρ).rv j = G.rv b := fun b hb c hc => by
    have : b < G.n := by rw [← H.len]; exact (List.getElem?_eq_some_iff.1 hc).1
    subst hb; simp [Gh.recast, hρ, this]
  have hrow : ∀ {e nb nb' l v ft}, (nb = true → nb' = true) → RowRep G B w e nb' l v ft → RowRep (G.recast T ρ) B w e nb l v ft := fun hnb h => ⟨h.1, fun e => h.2.1 (hnb e), h.2.2.1, h.2.2.2⟩
  unfold extB at hd
  split at hd
  · cases hd; exact ⟨rfl, trivial, fun e => by simp [bldB, Blk.own] at e⟩
  · rename_i e l md b
    split at hd
    · rename_i e' l' md' hb
      obtain ⟨f1, f2, f3⟩ := hft b rfl hb
      split at hd
      · rename_i hc
        obtain ⟨rfl, rfl⟩ := hc
        obtain ⟨h1, h2, c, h3, h4⟩ := H.blk b _ hb
        obtain ⟨q1, q2⟩ := extTs_is H.blk hlen hk2 l l' d hd c.toList h4 rest
        simp only [bldB]
        refine ⟨q1, ⟨by rw [f1, f2]; exact h1, by rw [f2]; exact h2, c, by rw [f2]; exact h3, q2⟩, fun ho g hg => ?_⟩
        rw [f1] at hg
        exact H.own b _ hb (by cases md <;> simp [Blk.own] at ho ⊢) g hg
      · cases hd
    · cases hd
  · rename_i e nb v b
    split at hd
    · rename_i e' v' nb' l hb
      obtain ⟨f1, f2, f3⟩ := hft b rfl hb
      split at hd
      · rename_i hc
        obtain ⟨rfl, hnb, hvk⟩ := hc
        cases hd
        obtain ⟨h1, h2⟩ := H.blk b _ hb
        refine ⟨rfl, ⟨hver b rfl fun hk => by rw [h1]; exact hvk hk, by rw [f3, f1]; exact hrow hnb h2⟩, fun _ g hg => ?_⟩
        rw [f1] at hg
        exact H.own b _ hb rfl g hg
      · cases hd
    · cases hd
  · rename_i e nb v
    cases hd
    have f0 : (G.recast T ρ).ft j = [] ∧ (G.recast T ρ).rv j = .slice none 0 0 := by simp [Gh.recast, hρ]
    refine ⟨rfl, ⟨hver0 rfl, ?_⟩, fun _ g hg => by rw [f0.1] at hg; cases hg⟩
    rw [f0.1, f0.2]
    exact ⟨rfl, fun _ => by simp [D.toSeq, headD_cons], by simp [D.toSeq], [], World.ownsRow_nil w B e _, by simp [D.toSeq]⟩
  · rename_i e v b
    split at hd
    · rename_i e' v' l hb
      obtain ⟨f1, f2, f3⟩ := hft b rfl hb
      split at hd
      · rename_i hc
        obtain ⟨rfl, hvk⟩ := hc
        cases hd
        obtain ⟨h1, h2, h3⟩ := H.blk b _ hb
        exact ⟨rfl, ⟨hver b rfl fun hk => by rw [h1]; exact hvk hk, by rw [f1]; exact h2, by rw [f3]; exact h3⟩, fun e => by simp [bldB, Blk.own] at e⟩
      · cases hd
    · cases hd
  · rename_i b
    split at hd
    · rename_i s p hb
      obtain ⟨f1, f2, f3⟩ := hft b rfl hb
      cases hd
      obtain ⟨h1, h2⟩ := H.blk b _ hb
      refine ⟨rfl, ⟨by rw [f1, f2]; exact h1, by rw [f2]; simpa [D.toStr, D.toInt] using h2⟩, fun _ g hg => ?_⟩
      rw [f1] at hg
      exact H.own b _ hb rfl g hg
    · cases hd
  · rename_i e fz v b
    split at hd
    · rename_i e' v' s fz' hb
      obtain ⟨f1, f2, f3⟩ := hft b rfl hb
      split at hd
      · rename_i hc
        obtain ⟨rfl, rfl, hvk⟩ := hc
        cases hd
        obtain ⟨h1, h2, h3⟩ := H.blk b _ hb
        refine ⟨rfl, ⟨hver b rfl fun hk => by rw [h1]; exact hvk hk, by rw [f1, f3]; exact h2, by rw [f3]; exact h3⟩, fun _ g hg => ?_⟩
        rw [f1] at hg
        exact H.own b _ hb rfl g hg
      · cases hd
    · cases hd
  · rename_i e fz v
    cases hd
    have f0 : (G.recast T ρ).ft j = [] ∧ (G.recast T ρ).rv j = .slice none 0 0 := by simp [Gh.recast, hρ]
    exact ⟨rfl, ⟨hver0 rfl, by rw [f0.1, f0.2]; rfl, by rw [f0.2]; exact .inl ⟨rfl, rfl⟩⟩, fun _ g hg => by rw [f0.1] at hg; cases hg⟩
  · rename_i e v b
    split at hd
    · rename_i e' v' l hb
      obtain ⟨f1, f2, f3⟩ := hft b rfl hb
      split at hd
      · rename_i hc
        obtain ⟨rfl, hvk⟩ := hc
        cases hd
        obtain ⟨h1, h2⟩ := H.blk b _ hb
        exact ⟨rfl, ⟨hver b rfl fun hk => by rw [h1]; exact hvk hk, by rw [f3, f1]; exact h2⟩, fun e => by simp [bldB, Blk.own] at e⟩
      · cases hd
    · cases hd
  · rename_i e v
    cases hd
    have f0 : (G.recast T ρ).ft j = [] ∧ (G.recast T ρ).rv j = .slice none 0 0 := by simp [Gh.recast, hρ]
    refine ⟨rfl, ⟨hver0 rfl, ?_⟩, fun _ g hg => by rw [f0.1] at hg; cases hg⟩
    rw [f0.1, f0.2]
    exact ⟨by simp [D.toSeq], by simp [Value.ownBlock], by simp, by simp, [], [], World.ownsRow_nil w B e _, by simp [D.toSeq], rfl, rfl, by simp [D.toSeq]⟩
  · rename_i e be fz b
    split at hd
    · rename_i e' be' s fz' hb
      obtain ⟨f1, f2, f3⟩ := hft b rfl hb
      split at hd
      · rename_i hc
        obtain ⟨rfl, rfl, rfl⟩ := hc
        cases hd
        obtain ⟨p, buf, h1, h2, h3, h4, h5⟩ := H.blk b _ hb
        refine ⟨rfl, ⟨p, buf, by rw [f1, f2]; exact h1, by rw [f2]; exact h2, by rw [f2]; exact h3, by rw [f2]; exact h4, h5⟩, fun _ g hg => ?_⟩
        rw [f1] at hg
        exact H.own b _ hb rfl g hg
      · cases hd
    · cases hd
  · cases hd

theorem extBs_is (H : HRep G B h w) (hlen : ρ.length = T.h.length) (hk2 : ∀ j, j < T.keep → ρ[j]? = some (some j)) :
    ∀ (ts : List TB) (bs : List (Option Nat)) (n i : Nat) (d : List D), extBs (T.h.map TB.ver) ρ h n ts bs = some d → T.h.drop i = ts → ρ.drop i = bs → (∀ m, n - m ≠ 0 ↔ i + m < T.keep) → ∀ rest,
      (bldBs ts (d ++ rest)).2 = rest ∧ (bldBs ts (d ++ rest)).1.length = ts.length ∧
      ∀ (m : Nat) (b : Blk), (bldBs ts (d ++ rest)).1[m]? = some b → BRep (G.recast T ρ) B w (i + m) b ∧ (b.own = true → ∀ g ∈ (G.recast T ρ).ft (i + m), B ≤ g ∧ ∀ o, ¬ G.imm g o)
  | [], [], n, i, d, hd, _, _, _, rest => by simp only [extBs] at hd; cases hd; simp [bldBs]
  | [], b :: bs, n, i, d, hd, _, _, _, rest => by simp [extBs] at hd
  | t :: ts, [], n, i, d, hd, _, _, _, rest => by simp [extBs] at hd
  | t :: ts, b :: bs, n, i, d, hd, ht, hρ, hn, rest => by
    simp only [extBs] at hd
    split at hd
    · rename_i x y h1 h2
      cases hd
      have get : ∀ {α : Type} {l : List α} {x : α} {r : List α}, l.drop i = x :: r → l[i]? = some x ∧ l.drop (i + 1) = r := fun {α l x r} e => by
        constructor
        · have : (l.drop i)[0]? = some x := by rw [e]; rfl
          rw [List.getElem?_drop] at this
          simpa using this
        · have e := congrArg (List.drop 1) e
          rwa [List.drop_drop, List.drop_one, List.tail_cons] at e
      obtain ⟨q1, q2, q3⟩ := extB_is H hlen hk2 (get ht).1 (get hρ).1 (by have := hn 0; simpa using this) h1 (y ++ rest)
      obtain ⟨r1, r2, r3⟩ := extBs_is H hlen hk2 ts bs (n - 1) (i + 1) y h2 (get ht).2 (get hρ).2 (fun m => by have := hn (m + 1); rw [show n - (m + 1) = n - 1 - m by omega, show i + (m + 1) = i + 1 + m by omega] at this; exact this) rest
      rw [List.append_assoc]
      simp only [bldBs, q1]
      refine ⟨r1, by simp [r2], fun m b' hm => ?_⟩
      cases m with
      | zero => simp at hm; subst hm; exact ⟨q2, q3⟩
      | succ m => rw [show i + (m + 1) = i + 1 + m by omega]; exact r3 m b' (by simpa using hm)
    · cases hd

theorem noDup_inj : ∀ {l : List (Option Nat)} {i j a : Nat}, noDup l = true → l[i]? = some (some a) → l[j]? = some (some a) → i = j
  | [], i, j, a, h, hi, hj => by simp at hi
  | none :: l, i, j, a, h, hi, hj => by
    simp only [noDup] at h
    cases i with
    | zero => simp at hi
    | succ i => cases j with
      | zero => simp at hj
      | succ j => have := noDup_inj (i := i) (j := j) (a := a) h (by simpa using hi) (by simpa using hj); omega
  | some x :: l, i, j, a, h, hi, hj => by
    simp only [noDup, Bool.and_eq_true, Bool.not_eq_true'] at h
    have no : ∀ k, l[k]? ≠ some (some x) := fun k hk => by
      have : l.contains (some x) = true := by simp; exact List.mem_iff_getElem?.2 ⟨k, hk⟩
      rw [this] at h; cases h.1
    cases i with
    | zero =>
      simp at hi; subst hi
      cases j with
      | zero => rfl
      | succ j => exact absurd (by simpa using hj) (no j)
    | succ i => cases j with
      | zero => simp at hj; subst hj; exact absurd (by simpa using hi) (no i)
      | succ j => have := noDup_inj (i := i) (j := j) (a := a) h.2 (by simpa using hi) (by simpa using hj); omega

variable {Λ : Nat → List CK} {wB : World} {gl : List (Nat × Nat)} {ds : List Deferred} {G0 : Gh} {w0 : World} {fr : Fr} {a : Act}

theorem recast_rep (H : HRep G B h w) {vs : List Value} (hl : AV.isL G w fr vs) {d : List D} (hd : extS T fr h = some d) :
    HRep (G.recast T (placeT T fr h)) B (bldS T d).2 w ∧ AV.isL (G.recast T (placeT T fr h)) w (bldS T d).1 vs ∧ (placeT T fr h).length = T.h.length ∧ noDup (placeT T fr h) = true ∧ (∀ j, j < T.keep → (placeT T fr h)[j]? = some (some j)) ∧ T.keep ≤ T.h.length ∧ (bldS T d).2.length = T.h.length := by
  unfold extS at hd
  simp only at hd
  split at hd
  · rename_i hc
    obtain ⟨hnd, hkh⟩ := hc
    split at hd
    · rename_i x y hx hy
      cases hd
      generalize hρ : placeT T fr h = ρ at hx hy hnd
      have hk2 : ∀ j, j < T.keep → ρ[j]? = some (some j) := fun j hj => by
        rw [← hρ]; unfold placeT
        rw [List.getElem?_append_left (by simpa using hj)]
        simp [hj]
      have hlens : ∀ (ts : List TB) (bs : List (Option Nat)) (n : Nat) (d : List D), extBs (T.h.map TB.ver) ρ h n ts bs = some d → bs.length = ts.length := by
        intro ts
        induction ts with
        | nil => intro bs n d hd; cases bs <;> simp [extBs] at hd ⊢
        | cons t ts ih =>
          intro bs n d hd
          cases bs with
          | nil => simp [extBs] at hd
          | cons b bs =>
            simp only [extBs] at hd
            split at hd
            · rename_i h1 h2; simp [ih bs _ _ h2]
            · cases hd
      have hlen := hlens _ _ _ _ hy
      have hGn : h.length = G.n := H.len
      obtain ⟨q1, q2⟩ := extTs_is H.blk hlen hk2 T.fr fr x hx vs hl y
      obtain ⟨r1, r2, r3⟩ := extBs_is H hlen hk2 T.h ρ T.keep 0 y hy rfl rfl (fun m => by omega) []
      rw [List.append_nil] at r1 r2 r3
      have e2 : (bldS T (x ++ y)).2 = (bldBs T.h y).1 := by unfold bldS; simp only [q1]
      have e1 : (bldS T (x ++ y)).1 = (bldTs T.fr (x ++ y)).1 := rfl
      have hkl : T.keep ≤ T.h.length := by rw [← hlen, ← hρ]; unfold placeT; simp
      have keepv : ∀ i, i < T.keep → (G.recast T ρ).at_ i = G.at_ i ∧ G.ver i ≤ (G.recast T ρ).ver i ∧ (G.recast T ρ).rv i = G.rv i := fun i hi => by simp [Gh.recast, hk2 i hi, hi, Nat.le_max_left]
      have ftcase : ∀ i g, g ∈ (G.recast T ρ).ft i → ∃ r, ρ[i]? = some (some r) ∧ g ∈ G.ft r ∧ r < G.n := fun i g hg => by
        simp only [Gh.recast] at hg
        split at hg
        · rename_i r hr
          split at hg
          · rename_i hrn; exact ⟨r, hr, hg, hrn⟩
          · cases hg
        · cases hg
      refine ⟨⟨by rw [e2, r2]; rfl, fun i b hi => ?_, fun i b hi ho g hg => ?_, fun i j hi hj hij g hg hg' => ?_, fun i hi g hg => ?_, H.imm⟩, by rw [e1]; exact q2, hlen, hnd, hk2, hkl, by rw [e2, r2]⟩
      · rw [e2] at hi
        have := (r3 i b hi).1
        rwa [Nat.zero_add] at this
      · rw [e2] at hi
        have := (r3 i b hi).2 ho g (by rw [Nat.zero_add]; exact hg)
        exact this
      · obtain ⟨r, hr, hgr, hrn⟩ := ftcase i g hg
        obtain ⟨r', hr', hgr', hrn'⟩ := ftcase j g hg'
        by_cases e : r = r'
        · subst e; exact hij (noDup_inj hnd hr hr')
        · exact H.inj r r' hrn hrn' e g hgr hgr'
      · obtain ⟨r, hr, hgr, hrn⟩ := ftcase i g hg
        exact H.lt r hrn g hgr
    · cases hd
  · cases hd

theorem recast_ft {i g : Nat} (hg : g ∈ (G.recast T ρ).ft i) : ∃ r, ρ[i]? = some (some r) ∧ g ∈ G.ft r ∧ r < G.n := by
  simp only [Gh.recast] at hg
  split at hg
  · rename_i r hr
    split at hg
    · rename_i hrn; exact ⟨r, hr, hg, hrn⟩
    · cases hg
  · cases hg

theorem recast_st (S : St Λ B wB gl ds G0 w0 G fr h a w) (hk0 : G0.n ≤ T.keep) {d : List D} (hd : extS T fr h = some d) : ∃ G', St Λ B wB gl ds G0 w0 G' (bldS T d).1 (bldS T d).2 a w := by
  obtain ⟨H', q2, hlen, hnd, hk2, hkl, _⟩ := recast_rep S.heap (vs := a.tmps.toList) (isL_of_get (by simpa using S.size) fun i b v hb hv => by
    have := S.slot i
    rw [List.getD_eq_getElem?_getD, hb, Array.getD_eq_getD_getElem?] at this
    have hv' : a.tmps[i]? = some v := by simpa using hv
    rw [hv'] at this
    exact this) hd
  have keepv : ∀ i, i < T.keep → (G.recast T (placeT T fr h)).at_ i = G.at_ i ∧ G.ver i ≤ (G.recast T (placeT T fr h)).ver i ∧ (G.recast T (placeT T fr h)).rv i = G.rv i := fun i hi => by simp [Gh.recast, hk2 i hi, hi, Nat.le_max_left]
  refine ⟨G.recast T (placeT T fr h), by have := isL_len q2; simpa using this, fun t => ?_, H', fun g i hg => ?_, S.defs, S.lay, ?_⟩
  · have hl := isL_len q2
    rw [List.getD_eq_getElem?_getD, Array.getD_eq_getD_getElem?]
    cases hg : (bldS T d).1[t]? with
    | none => exact trivial
    | some av =>
      obtain ⟨v, hv, k⟩ := isL_get q2 t av hg
      have hv' : a.tmps[t]? = some v := by simpa using hv
      rw [hv']; exact k
  · have := S.gl g i hg
    exact ⟨this.1, by rw [(keepv i (by omega)).1]; exact this.2⟩
  · have m := S.mv
    exact ⟨⟨Nat.le_trans hk0 hkl, fun i hi => by rw [(keepv i (by omega)).1]; exact m.le.at_ i hi, m.le.imm, m.le.cell, fun i hi => Nat.le_trans (m.le.ver i hi) (keepv i (by omega)).2.1,
      fun i hi e => by rw [(keepv i (by omega)).2.2]; exact m.le.rv i hi (Nat.le_antisymm (by rw [← e]; exact (keepv i (by omega)).2.1) (m.le.ver i hi)), m.le.lay⟩, m.below, m.old, m.size, m.keep, fun i hi g hg => by
      obtain ⟨r, _, hgr, hrn⟩ := recast_ft hg
      exact m.ft r hrn g hgr, m.imm⟩

end
end Go.Proofs.Qx

namespace Go.Proofs.Qx
open Go Go.RowKit
set_option linter.unusedVariables false
set_option linter.unusedSimpArgs false

section
variable {P : Program} {Λ : Nat → List CK} {B : Nat} {wB : World} {gl : List (Nat × Nat)} {GW : World → Prop} {Γ : List (Nat × CE)}

def contA {σ τ : Type} (T : TS) (X : List (Exit × TS)) (dσ : List D → Option σ) (dτ : Nat → List D → Option τ) (rec : σ → Option τ) : Exit → Fr → Hp → Option τ := fun e fr h =>
  match e with
  | .normal => (extS T fr h).bind fun d => (dσ d).bind rec
  | e => (exitsA e fr h 0 X).bind fun p => dτ p.1 p.2
def sumA {σ τ : Type} (T : TS) (X : List (Exit × TS)) (dσ : List D → Option σ) (eτ : τ → Nat × List D) (sel : (β : Type) → τ → (Exit → Fr → Hp → Option β) → Option β)
    (ok : ∀ β t k, sel β t k = k (endA X eτ t).1 (endA X eτ t).2.1 (endA X eτ t).2.2) (L : σ → Option τ) : LSum := fun fr h =>
  match extS T fr h with
  | some d => match dσ d with
    | some x => some (.mk τ (L x) (endA X eτ) sel ok)
    | none => none
  | none => none

theorem exitsA_ok {e : Exit} {fr : Fr} {h : Hp} : ∀ (X : List (Exit × TS)) (i j : Nat) (d : List D), exitsA e fr h i X = some (j, d) → ∃ m T, j = i + m ∧ X[m]? = some (e, T) ∧ extS T fr h = some d
  | [], i, j, d, hx => by simp [exitsA] at hx
  | (x, T) :: X, i, j, d, hx => by
    have later : exitsA e fr h (i + 1) X = some (j, d) → ∃ m T', j = i + m ∧ ((x, T) :: X)[m]? = some (e, T') ∧ extS T' fr h = some d := fun q => by
      obtain ⟨m, T', h1, h2, h3⟩ := exitsA_ok X (i + 1) j d q
      exact ⟨m + 1, T', by omega, by simpa using h2, h3⟩
    have here : x = e → exitsA e fr h i ((x, T) :: X) = (match extS T fr h with | some d => some (i, d) | none => exitsA e fr h (i + 1) X) → ∃ m T', j = i + m ∧ ((x, T) :: X)[m]? = some (e, T') ∧ extS T' fr h = some d := fun e1 e2 => by
      rw [e2] at hx
      split at hx
      · rename_i d' hd; cases hx; subst e1; exact ⟨0, T, rfl, rfl, hd⟩
      · exact later hx
    cases x <;> cases e <;> try (exact later hx)
    case exit.exit a b =>
      by_cases q : a = b
      · exact here (by rw [q]) (by simp [exitsA, q] <;> (cases extS T fr h <;> rfl))
      · refine later ?_
        have : (a == b) = false := by simpa using q
        simpa [exitsA, this] using hx
    case ret.ret => exact here rfl (by simp [exitsA] <;> (cases extS T fr h <;> rfl))
    case panic.panic a b =>
      cases q : panSame a b with
      | true => exact here (by rw [panSame_eq q]) (by simp [exitsA, q] <;> (cases extS T fr h <;> rfl))
      | false => exact later (by simpa [exitsA, q] using hx)

theorem loop_mk {σ τ : Type} (hm : P.follows .mixedOrders = true) (hΓ : AllOk P GW Λ Γ) (stab : ∀ w', Bel B wB w' → GW w') {inl : Nat → List AV → Hp → (Res → Hp → Option τ) → Option τ} (hinl : InlOk P Λ B wB inl) {C : Cfg} {n : Nat} {c : Code}
    (hL : ∀ d ∈ loopsOf c, ∀ m s, C.LS.lookup (loopKey d) = some (m, s) → LSOk P Λ B wB gl m s d)
    {T : TS} {X : List (Exit × TS)} (hT : n ≤ T.keep) (hX : ∀ x ∈ X, n ≤ x.2.keep) {dσ : List D → Option σ} {eσ : σ → List D} (hσ : ∀ d x, dσ d = some x → eσ x = d) {dτ : Nat → List D → Option τ} {eτ : τ → Nat × List D} (hτ : ∀ i d t, dτ i d = some t → eτ t = (i, d))
    {L : Nat → σ → Option τ} (h0 : ∀ x, L 0 x = none) (hS : ∀ k x, L (k + 1) x = execA P Λ Γ gl inl C n c (bldS T (eσ x)).1 (bldS T (eσ x)).2 (contA T X dσ dτ (L k))) (K : Nat)
    {sel : (β : Type) → τ → (Exit → Fr → Hp → Option β) → Option β} {ok : ∀ β t k, sel β t k = k (endA X eτ t).1 (endA X eτ t).2.1 (endA X eτ t).2.2} :
    LSOk P Λ B wB gl n (sumA T X dσ eτ sel ok (L K)) c := by
  -- from a told state
  have key : ∀ (K : Nat) (x : σ) (t : τ), L K x = some t → ∀ (ds : List Deferred) (G0 : Gh) (w0 : World) (G : Gh) (a : Act) (w : World) (Q : Exit → Act → World → Prop), G0.n ≤ n → St Λ B wB gl ds G0 w0 G (bldS T (eσ x)).1 (bldS T (eσ x)).2 a w →
      (∀ G' a' w', St Λ B wB gl ds G0 w0 G' (endA X eτ t).2.1 (endA X eτ t).2.2 a' w' → Q (endA X eτ t).1 a' w') → Code.rounds P c Q K a w := by
    intro K
    induction K with
    | zero => intro x t ht; rw [h0] at ht; cases ht
    | succ K ih =>
      intro x t ht ds G0 w0 G a w Q hn S hq
      rw [hS] at ht
      obtain ⟨e, fr1, h1, hk1, hW⟩ := execA_path (B := B) (wB := wB) (gl := gl) hm hΓ stab hinl C n c hL _ _ _ ht
      rw [rounds_succ]
      refine hW ds G0 w0 G a w _ hn S fun G' a' w' S' => ?_
      have leave : e ≠ .normal → (exitsA e fr1 h1 0 X).bind (fun p => dτ p.1 p.2) = some t → Exit.then (Code.rounds P c Q K) Q e a' w' := fun hne hx => by
        rw [Option.bind_eq_some_iff] at hx
        obtain ⟨⟨j, d⟩, hx, hd⟩ := hx
        obtain ⟨m, T', hj, hxm, hext⟩ := exitsA_ok X 0 j d hx
        have e1 := hτ _ _ _ hd
        simp only at e1
        have e2 : endA X eτ t = (e, bldS T' d) := by
          unfold endA
          rw [e1]
          simp only [hj, Nat.zero_add, hxm]
        obtain ⟨G2, S2⟩ := recast_st S' (Nat.le_trans hn (hX _ (List.mem_iff_getElem?.2 ⟨m, hxm⟩))) hext
        have := hq G2 a' w' (by rw [e2]; exact S2)
        rw [e2] at this
        cases e <;> first | exact absurd rfl hne | exact this
      cases e with
      | normal =>
        simp only [contA] at hk1
        rw [Option.bind_eq_some_iff] at hk1
        obtain ⟨d, hext, hk1⟩ := hk1
        rw [Option.bind_eq_some_iff] at hk1
        obtain ⟨x', hx', hk1⟩ := hk1
        obtain ⟨G2, S2⟩ := recast_st S' (Nat.le_trans hn hT) hext
        have e1 := hσ _ _ hx'
        exact ih x' t hk1 ds G0 w0 G2 a' w' Q hn (by rw [e1]; exact S2) hq
      | exit i => exact leave (by simp) hk1
      | goto i => exact leave (by simp) hk1
      | ret => exact leave (by simp) hk1
      | panic ch => exact leave (by simp) hk1
      | outgrown => exact leave (by simp) hk1
  intro fr h τ' x' out sel' ok' t hs hx ds G0 w0 G a w Q hn S hq
  unfold sumA at hs
  split at hs
  · rename_i d hext
    split at hs
    · rename_i x hdx
      cases hs
      obtain ⟨G2, S2⟩ := recast_st S (Nat.le_trans hn hT) hext
      have e1 := hσ _ _ hdx
      exact wp_loop_rounds K (key K x t hx ds G0 w0 G2 a w Q hn (by rw [e1]; exact S2) hq)
    · cases hs
  · cases hs

mutual
def AV.free : AV → Bool
  | .ptr .. => false
  | .sl .. => false
  | .rs .. => false
  | .ep .. => false
  | .sd .. => false
  | .op .. => false
  | .agg l => AV.freeL l
  | .tup l => AV.freeL l
  | .fn _ l m => AV.freeL l && AV.freeL m
  | .ifc _ a => a.free
  | _ => true
def AV.freeL : List AV → Bool
  | [] => true
  | a :: l => a.free && AV.freeL l
end

mutual
theorem AV.free_is {G G' : Gh} {w : World} (hl : G'.lay = G.lay) (hi : ∀ b o, G.imm b o → G'.imm b o) : ∀ (a : AV) (v : Value), a.free = true → a.is G w v → a.is G' w v
  | .junk, _, _, _ => trivial
  | .int .., _, _, h => by simpa [AV.is] using h
  | .bool .., _, _, h => by simpa [AV.is] using h
  | .str .., _, _, h => by simpa [AV.is] using h
  | .ptr .., _, hf, _ => by simp [AV.free] at hf
  | .sl .., _, hf, _ => by simp [AV.free] at hf
  | .rs .., _, hf, _ => by simp [AV.free] at hf
  | .ep .., _, hf, _ => by simp [AV.free] at hf
  | .sd .., _, hf, _ => by simp [AV.free] at hf
  | .op .., _, hf, _ => by simp [AV.free] at hf
  | .agg l, v, hf, h => by
    simp only [AV.is] at h ⊢
    obtain ⟨a, e, hl'⟩ := h
    exact ⟨a, e, AV.freeL_is hl hi l _ (by simpa [AV.free] using hf) hl'⟩
  | .tup l, v, hf, h => by
    simp only [AV.is] at h ⊢
    obtain ⟨a, e, hl'⟩ := h
    exact ⟨a, e, AV.freeL_is hl hi l _ (by simpa [AV.free] using hf) hl'⟩
  | .fn f l m, v, hf, h => by
    simp only [AV.is] at h ⊢
    obtain ⟨a, b, e, hl', hm⟩ := h
    simp only [AV.free, Bool.and_eq_true] at hf
    exact ⟨a, b, e, AV.freeL_is hl hi l _ hf.1 hl', AV.freeL_is hl hi m _ hf.2 hm⟩
  | .val _, _, _, h => by simpa [AV.is] using h
  | .own .., _, _, _ => trivial
  | .seq c l, v, _, h => by
    simp only [AV.is, hl] at h ⊢
    exact h.mono hi (fun _ _ _ => rfl)
  | .sp t l i o, v, _, h => by
    simp only [AV.is, hl] at h ⊢
    exact h.mono hi (fun _ _ _ => rfl)
  | .ifc t a, v, hf, h => by
    simp only [AV.is] at h ⊢
    obtain ⟨u, e, ha⟩ := h
    exact ⟨u, e, AV.free_is hl hi a u (by simpa [AV.free] using hf) ha⟩
theorem AV.freeL_is {G G' : Gh} {w : World} (hl : G'.lay = G.lay) (hi : ∀ b o, G.imm b o → G'.imm b o) : ∀ (l : List AV) (vs : List Value), AV.freeL l = true → AV.isL G w l vs → AV.isL G' w l vs
  | [], _, _, h => by simpa [AV.isL] using h
  | a :: l, vs, hf, h => by
    simp only [AV.isL] at h ⊢
    obtain ⟨v, r, e, ha, hl'⟩ := h
    simp only [AV.freeL, Bool.and_eq_true] at hf
    exact ⟨v, r, e, AV.free_is hl hi a v hf.1 ha, AV.freeL_is hl hi l r hf.2 hl'⟩
end
def Res.free : Res → Bool
  | .ret v => v.free
  | .pan _ => true

theorem allOk_nil : AllOk P GW Λ [] := fun f s h => by simp at h
theorem allOk_cons {f : Nat} {s : CE} {Γ : List (Nat × CE)} (h : CEOk P GW Λ f s) (hs : AllOk P GW Λ Γ) : AllOk P GW Λ ((f, s) :: Γ) := fun g t hg => by
  rw [List.lookup_cons] at hg
  split at hg
  · rename_i e
    cases hg
    obtain rfl : g = f := by simpa using e
    exact h
  · exact hs g t hg

theorem finA_ok {α : Type} {G : Gh} {w : World} {h : Hp} (H : HRep G B h w) (hΛ : G.lay = Λ) {ks : List AK} {res : Res} {k : Res → Option α} {r : α} (hr : finA Λ ks res h k = some r) :
    ∃ res', k res' = some r ∧ ∀ e, res.isE G w e → ∃ S, (∀ q ∈ S, Frz h q ∧ q < G.n) ∧ res'.isE { G with imm := immR G S } w e := by
  unfold finA at hr
  split at hr
  · rename_i v
    exact ⟨_, hr, fun e he => ⟨[], by simp, he⟩⟩
  · rename_i v
    split at hr
    · rename_i q
      split at hr
      · rename_i v' S hv
        refine ⟨_, hr, fun e he => ?_⟩
        obtain ⟨u, rfl, hu⟩ := he
        obtain ⟨h1, h2⟩ := argA_is H (Compat.refl h) hΛ hv hu
        exact ⟨S, h2, u, rfl, h1⟩
      · cases hr
    · split at hr
      · rename_i l
        split at hr
        · rename_i l' S hv
          refine ⟨_, hr, fun e he => ?_⟩
          obtain ⟨u, rfl, hu⟩ := he
          simp only [AV.is] at hu
          obtain ⟨a, rfl, hl⟩ := hu
          obtain ⟨h1, h2⟩ := argsA_is H (Compat.refl h) hΛ _ _ _ _ _ hv hl
          exact ⟨S, h2, _, rfl, by simp only [AV.is]; exact ⟨a, rfl, h1⟩⟩
        · cases hr
      · cases hr

theorem runA_ok {α : Type} (hm : P.follows .mixedOrders = true) (hΓ : AllOk P GW Λ Γ) {f : FuncId} {fn : Func} (hf : P.funcs[f]? = some fn) {w : World} (stab : ∀ w', Bel w.heap.size w w' → GW w') {IN : List (Nat × Func × Cfg)} (hIN : InOk P Λ w.heap.size w IN) {C : Cfg}
    (hL : ∀ c, fn.body = some c → ∀ d ∈ loopsOf c, ∀ n s, C.LS.lookup (loopKey d) = some (n, s) → LSOk P Λ w.heap.size w gl n s d) {d : Nat} {args : List AV} {h0 : Hp} {ks : List AK} {k : Res → Option α} {r : α} (hr : runA P Λ Γ gl IN d C fn args h0 ks k = some r) :
    ∀ (G : Gh) (vs : Array Value), HRep G w.heap.size h0 w → G.lay = Λ → (∀ g i, gl.lookup g = some i → i < G.n ∧ G.at_ i = g) → AV.isL G w args vs.toList →
      Calls P f vs w fun e w' => ∃ (res : Res) (G' : Gh), k res = some r ∧ G'.lay = Λ ∧ res.isE G' w' e ∧ Below w.heap.size w w' ∧ (∀ b o, G.imm b o → G'.imm b o) ∧ (∀ b o, b < w.heap.size → G'.imm b o → G.imm b o) ∧ (∀ b o, G'.imm b o → b < w'.heap.size) := by
  unfold runA at hr
  have hC := bodyC_path (B := w.heap.size) (wB := w) (gl := gl) hm hΓ stab (inlA_ok hm hΓ stab hIN d) hf hL hr
  intro G vs H hΛ hgl hargs
  refine (hC G w vs H hΛ ⟨Below.refl _ _, Nat.le_refl _⟩ hgl hargs).mono ?_
  rintro e w' ⟨res, h', G', hk, H', m, hE⟩
  have hΛ' : G'.lay = Λ := m.le.lay.trans hΛ
  obtain ⟨res', hk', hfin⟩ := finA_ok H' hΛ' hk
  obtain ⟨S, hS, hE'⟩ := hfin e hE
  obtain ⟨G2, H2, m2, s2, i2, _, _⟩ := freeze_mv H' m.below (frzD_of hS)
  exact ⟨res', { G' with imm := immR G' S }, hk', hΛ', hE', m.below.below, fun b o q => .inl (m.le.imm b o q), fun b o hb q => m.old b o hb (m2.old b o hb ((i2 b o).2 q)), fun b o q => H2.imm b o ((i2 b o).2 q)⟩

theorem tells_mk {ks : List AK} {mode : CM} {s : Tells} (hm : P.follows .mixedOrders = true) (hΓ : AllOk P GW Λ Γ) {f : FuncId} {fn : Func} (hf : P.funcs[f]? = some fn)
    (hcf : ∀ args w, (callFunc f args).run P w = .ok (.enter f args) w) (stab : ∀ w w', GW w → Below w.heap.size w w' → GW w') {h0 : Hp}
    (hg : ∀ (imm : Nat → Nat → Prop) (w : World), GW w → (∀ b o, imm b o → b < w.heap.size) → ∃ G : Gh, G.imm = imm ∧ G.lay = Λ ∧ HRep G w.heap.size h0 w ∧ ∀ g i, gl.lookup g = some i → i < G.n ∧ G.at_ i = g)
    {IN : List (Nat × Func × Cfg)} (hIN : ∀ B wB, (∀ w', Bel B wB w' → GW w') → InOk P Λ B wB IN) {C : Cfg}
    (hL : ∀ B wB, (∀ w', Bel B wB w' → GW w') → ∀ c, fn.body = some c → ∀ d ∈ loopsOf c, ∀ n s, C.LS.lookup (loopKey d) = some (n, s) → LSOk P Λ B wB gl n s d)
    (h : ∀ (args : List AV) (τ : Type) (x : Option τ) (out : τ → Res) (sel : (β : Type) → τ → (Res → Option β) → Option β) (ok : ∀ β t k, sel β t k = k (out t)) (r : τ), s args = some (.mk τ x out sel ok) → x = some r → AV.freeL args = true ∧ (out r).free = true ∧
      ∃ d rk, ∃ dec : Res → Option τ, runA P Λ Γ gl IN d C fn args h0 rk dec = some r ∧ ∀ res, dec res = some r → res = out r) : CEOk P GW Λ f ⟨ks, mode, s⟩ := by
  refine ⟨hcf, fun args τ x out sel ok r hs hx G w vs hlay hw himm hl => ?_⟩
  obtain ⟨hfa, hfr, d, rk, dec, hrun, hdec⟩ := h args τ x out sel ok r hs hx
  obtain ⟨G0, hG0, hl0, H, hgl⟩ := hg G.imm w hw himm
  have stabw : ∀ w', Bel w.heap.size w w' → GW w' := fun w' hb => stab w w' hw hb.below
  have hC := runA_ok hm hΓ hf stabw (hIN _ _ stabw) (hL _ _ stabw) hrun
  refine (hC G0 vs H hl0 hgl (AV.freeL_is (by rw [hl0, hlay]) (by rw [hG0]; exact fun _ _ q => q) _ _ hfa hl)).mono ?_
  rintro e w' ⟨res, G', hk, hlay', hE, hb, h1, h2, h3⟩
  have hres := hdec res hk
  subst hres
  rw [hG0] at h1 h2
  refine ⟨G'.imm, ⟨h1, h2, h3, hb⟩, ?_⟩
  cases hr : out r with
  | pan v => rw [hr] at hE; exact hE
  | ret v =>
    rw [hr] at hE hfr
    obtain ⟨u, rfl, hu⟩ := hE
    exact ⟨u, rfl, AV.free_is (G := G') (G' := { G with imm := G'.imm }) (by rw [hlay', hlay]) (fun _ _ q => q) _ _ hfr hu⟩

theorem no_globals (imm : Nat → Nat → Prop) (w : World) (_ : GW w) (hi : ∀ b o, imm b o → b < w.heap.size) :
    ∃ G : Gh, G.imm = imm ∧ G.lay = Λ ∧ HRep G w.heap.size [] w ∧ ∀ g i, ([] : List (Nat × Nat)).lookup g = some i → i < G.n ∧ G.at_ i = g :=
  ⟨⟨fun _ => 0, 0, imm, fun _ => undef, fun _ => 0, fun _ => [], Λ⟩, rfl, rfl, ⟨rfl, fun i b hi => by simp at hi, fun i b hi => by simp at hi, fun i j hi => absurd hi (Nat.not_lt_zero _), fun i hi => absurd hi (Nat.not_lt_zero _), hi⟩, fun g i q => by simp at q⟩

theorem in_nil : InOk P Λ B wB [] := fun f fn C h => by simp at h

theorem law_mk (hm : P.follows .mixedOrders = true) (hΓ : AllOk P GW Λ Γ) {f : FuncId} {fn : Func} (hf : P.funcs[f]? = some fn) (stab : ∀ w w', GW w → Below w.heap.size w w' → GW w') {h0 : Hp}
    (hg : ∀ (imm : Nat → Nat → Prop) (w : World), GW w → (∀ b o, imm b o → b < w.heap.size) → ∃ G : Gh, G.imm = imm ∧ G.lay = Λ ∧ HRep G w.heap.size h0 w ∧ ∀ g i, gl.lookup g = some i → i < G.n ∧ G.at_ i = g)
    {IN : List (Nat × Func × Cfg)} (hIN : ∀ B wB, (∀ w', Bel B wB w' → GW w') → InOk P Λ B wB IN) {C : Cfg}
    (hL : ∀ B wB, (∀ w', Bel B wB w' → GW w') → ∀ c, fn.body = some c → ∀ d ∈ loopsOf c, ∀ n s, C.LS.lookup (loopKey d) = some (n, s) → LSOk P Λ B wB gl n s d)
    {args : List AV} {d : Nat} {rk : List AK} {dec : Res → Option Bool} (hr : runA P Λ Γ gl IN d C fn args h0 rk dec = some true) (hdec : ∀ res, dec res = some true → res = .ret (.bool true)) (hfa : AV.freeL args = true) {w : World} (hw : GW w) {vs : Array Value}
    {G1 : Gh} (h1 : G1.lay = Λ) (himm : ∀ b o, G1.imm b o → b < w.heap.size) (hl : AV.isL G1 w args vs.toList) : Calls P f vs w fun e w' => e = .returned (.bool true) ∧ Below w.heap.size w w' := by
  obtain ⟨G0, hG0, hl0, H, hgl⟩ := hg G1.imm w hw himm
  have stabw : ∀ w', Bel w.heap.size w w' → GW w' := fun w' hb => stab w w' hw hb.below
  have hC := runA_ok hm hΓ hf stabw (hIN _ _ stabw) (hL _ _ stabw) hr
  refine (hC G0 vs H hl0 hgl (AV.freeL_is (by rw [hl0, h1]) (by rw [hG0]; exact fun _ _ q => q) _ _ hfa hl)).mono ?_
  rintro e w' ⟨res, G', hk, _, hE, hb, _⟩
  have hres := hdec res hk
  subst hres
  obtain ⟨u, rfl, hu⟩ := hE
  simp only [AV.is] at hu
  subst hu
  exact ⟨rfl, hb⟩

end

def loopsOfF (fn : Func) : List Code := match fn.body with | some c => loopsOf c | none => []
def loopAt (fn : Func) (i : Nat) : Code := (loopsOfF fn).getD i .skip
section
variable {P : Program} {Λ : Nat → List CK} {B : Nat} {wB : World} {gl : List (Nat × Nat)} {LS : List (Nat × Nat × LSum)}
theorem bodyL {p : Code → Prop} {fn : Func} (h : ∀ d ∈ loopsOfF fn, p d) : ∀ c, fn.body = some c → ∀ d ∈ loopsOf c, p d := fun c hc d hd => h d (by unfold loopsOfF; rw [hc]; exact hd)
theorem allL_of {l0 l : List Code} (h : l0 = l) (hl : ∀ d ∈ l, ∀ n s, LS.lookup (loopKey d) = some (n, s) → LSOk P Λ B wB gl n s d) : ∀ d ∈ l0, ∀ n s, LS.lookup (loopKey d) = some (n, s) → LSOk P Λ B wB gl n s d := by subst h; exact hl
theorem allL_nil : ∀ d ∈ ([] : List Code), ∀ n s, LS.lookup (loopKey d) = some (n, s) → LSOk P Λ B wB gl n s d := fun d hd => by simp at hd
theorem allL_cons {d : Code} {ds : List Code} {n : Nat} {s : LSum} (h : LS.lookup (loopKey d) = some (n, s)) (hok : LSOk P Λ B wB gl n s d) (t : ∀ d ∈ ds, ∀ n s, LS.lookup (loopKey d) = some (n, s) → LSOk P Λ B wB gl n s d) :
    ∀ c ∈ d :: ds, ∀ n s, LS.lookup (loopKey c) = some (n, s) → LSOk P Λ B wB gl n s c := fun c hc n' s' hs => by
  rcases List.mem_cons.1 hc with rfl | hc
  · rw [h] at hs; cases hs; exact hok
  · exact t c hc n' s' hs
theorem in_app {IN : List (Nat × Func × Cfg)} (h : InOk P Λ B wB IN) {f : Nat} {fn : Func} {C : Cfg} (hf : P.funcs[f]? = some fn) (hcf : ∀ args w, (callFunc f args).run P w = .ok (.enter f args) w)
    (hm0 : C.mem = none) (hh : C.hand = none) (hL : ∀ d ∈ loopsOfF fn, ∀ n s, C.LS.lookup (loopKey d) = some (n, s) → LSOk P Λ B wB [] n s d) : InOk P Λ B wB (IN ++ [(f, fn, C)]) := fun g fn' C' hg => by
  rw [List.lookup_append] at hg
  cases hq : IN.lookup g with
  | some x => rw [hq] at hg; simp at hg; subst hg; exact h g fn' C' hq
  | none =>
    rw [hq] at hg
    simp only [Option.none_or, List.lookup_cons, List.lookup_nil] at hg
    split at hg
    · rename_i e
      obtain rfl : g = f := by simpa using e
      cases hg
      exact ⟨hcf, .inl ⟨hm0, hh, hf, bodyL hL⟩⟩
    · cases hg
theorem in_hand {IN : List (Nat × Func × Cfg)} (h : InOk P Λ B wB IN) {f : Nat} {fn : Func} {C : Cfg} {S : List AV → Hp → Option (Res × Hp)} (hcf : ∀ args w, (callFunc f args).run P w = .ok (.enter f args) w)
    (hm0 : C.mem = none) (hh : C.hand = some S) (hS : HandAt P Λ B wB f S) : InOk P Λ B wB (IN ++ [(f, fn, C)]) := fun g fn' C' hg => by
  rw [List.lookup_append] at hg
  cases hq : IN.lookup g with
  | some x => rw [hq] at hg; simp at hg; subst hg; exact h g fn' C' hq
  | none =>
    rw [hq] at hg
    simp only [Option.none_or, List.lookup_cons, List.lookup_nil] at hg
    split at hg
    · rename_i e
      obtain rfl : g = f := by simpa using e
      cases hg
      exact ⟨hcf, .inr (.inl ⟨S, hm0, hh, hS⟩)⟩
    · cases hg
theorem in_mem {IN : List (Nat × Func × Cfg)} (h : InOk P Λ B wB IN) {f : Nat} {fn : Func} {C : Cfg} {S : MSum} (hcf : ∀ args w, (callFunc f args).run P w = .ok (.enter f args) w)
    (hm0 : C.mem = some S) (hS : HandM P Λ B wB f S) : InOk P Λ B wB (IN ++ [(f, fn, C)]) := fun g fn' C' hg => by
  rw [List.lookup_append] at hg
  cases hq : IN.lookup g with
  | some x => rw [hq] at hg; simp at hg; subst hg; exact h g fn' C' hq
  | none =>
    rw [hq] at hg
    simp only [Option.none_or, List.lookup_cons, List.lookup_nil] at hg
    split at hg
    · rename_i e
      obtain rfl : g = f := by simpa using e
      cases hg
      exact ⟨hcf, .inr (.inr ⟨S, hm0, hS⟩)⟩
    · cases hg
end

mutual
def AV.den : AV → Value
  | .int k n => .int k n
  | .bool b => .bool b
  | .str s => .string s
  | .agg l => .agg (AV.denL l).toArray
  | .tup l => .tuple (AV.denL l).toArray
  | .fn f l m => .func (.func f) (AV.denL l).toArray (AV.denL m).toArray
  | .val v => v
  | _ => undef
def AV.denL : List AV → List Value
  | [] => []
  | a :: l => a.den :: AV.denL l
end
mutual
def AV.simple : AV → Bool
  | .int .. => true
  | .bool .. => true
  | .str .. => true
  | .agg l => AV.simpleL l
  | .tup l => AV.simpleL l
  | .fn _ l m => AV.simpleL l && AV.simpleL m
  | .val _ => true
  | _ => false
def AV.simpleL : List AV → Bool
  | [] => true
  | a :: l => a.simple && AV.simpleL l
end

mutual
theorem AV.den_is (G : Gh) (w : World) : ∀ (a : AV) (v : Value), a.simple = true → (a.is G w v ↔ v = a.den)
  | .junk, _, h => by simp [AV.simple] at h
  | .ptr .., _, h => by simp [AV.simple] at h
  | .sl .., _, h => by simp [AV.simple] at h
  | .seq .., _, h => by simp [AV.simple] at h
  | .rs .., _, h => by simp [AV.simple] at h
  | .ep .., _, h => by simp [AV.simple] at h
  | .sp .., _, h => by simp [AV.simple] at h
  | .ifc .., _, h => by simp [AV.simple] at h
  | .own .., _, h => by simp [AV.simple] at h
  | .int .., _, _ => by simp only [AV.is, AV.den]
  | .bool .., _, _ => by simp only [AV.is, AV.den]
  | .str .., _, _ => by simp only [AV.is, AV.den]
  | .val .., _, _ => by simp only [AV.is, AV.den]
  | .agg l, v, h => by
    simp only [AV.is, AV.den]
    constructor
    · rintro ⟨a, rfl, hl⟩
      rw [(AV.denL_is G w l _ (by simpa [AV.simple] using h)).1 hl |>.symm]
    · rintro rfl
      exact ⟨_, rfl, (AV.denL_is G w l _ (by simpa [AV.simple] using h)).2 rfl⟩
  | .tup l, v, h => by
    simp only [AV.is, AV.den]
    constructor
    · rintro ⟨a, rfl, hl⟩
      rw [(AV.denL_is G w l _ (by simpa [AV.simple] using h)).1 hl |>.symm]
    · rintro rfl
      exact ⟨_, rfl, (AV.denL_is G w l _ (by simpa [AV.simple] using h)).2 rfl⟩
  | .fn f l m, v, h => by
    simp only [AV.simple, Bool.and_eq_true] at h
    simp only [AV.is, AV.den]
    constructor
    · rintro ⟨a, b, rfl, hl, hm⟩
      rw [(AV.denL_is G w l _ h.1).1 hl |>.symm, (AV.denL_is G w m _ h.2).1 hm |>.symm]
    · rintro rfl
      exact ⟨_, _, rfl, (AV.denL_is G w l _ h.1).2 rfl, (AV.denL_is G w m _ h.2).2 rfl⟩
theorem AV.denL_is (G : Gh) (w : World) : ∀ (l : List AV) (vs : List Value), AV.simpleL l = true → (AV.isL G w l vs ↔ vs = AV.denL l)
  | [], vs, _ => by simp only [AV.isL, AV.denL]
  | a :: l, vs, h => by
    simp only [AV.simpleL, Bool.and_eq_true] at h
    simp only [AV.isL, AV.denL]
    constructor
    · rintro ⟨v, r, rfl, ha, hl⟩
      rw [(AV.den_is G w a v h.1).1 ha, (AV.denL_is G w l r h.2).1 hl]
    · rintro rfl
      exact ⟨_, _, rfl, (AV.den_is G w a _ h.1).2 rfl, (AV.denL_is G w l _ h.2).2 rfl⟩
end

theorem tells_of {P : Program} {GW : World → Prop} {Λ : Nat → List CK} {f : FuncId} {ks : List AK} {mode : CM} {s : Tells} (hcf : ∀ args w, (callFunc f args).run P w = .ok (.enter f args) w)
    (h : ∀ (args : List AV) (τ : Type) (x : Option τ) (out : τ → Res) (sel : (β : Type) → τ → (Res → Option β) → Option β) (ok : ∀ β t k, sel β t k = k (out t)) (r : τ), s args = some (.mk τ x out sel ok) → x = some r → AV.simpleL args = true ∧ ∃ av, out r = .ret av ∧
      ∀ w, GW w → Calls P f (AV.denL args).toArray w (fun e w' => ∃ v, e = .returned v ∧ Below w.heap.size w w' ∧ ∀ (imm : Nat → Nat → Prop), (∀ b o, imm b o → b < w.heap.size) → ∃ imm', After imm w imm' w' ∧ ∀ G : Gh, G.lay = Λ → av.is { G with imm := imm' } w' v)) : CEOk P GW Λ f ⟨ks, mode, s⟩ :=
  ⟨hcf, fun args τ x out sel ok r hs hx G w vs hΛ hw himm hl => by
    obtain ⟨h1, av, h2, h3⟩ := h args τ x out sel ok r hs hx
    have e : vs = (AV.denL args).toArray := by apply Array.ext'; simpa using (AV.denL_is G w args _ h1).1 hl
    subst e
    refine (h3 w hw).mono ?_
    rintro en w' ⟨v, rfl, hb, hq⟩
    obtain ⟨imm', ha, hav⟩ := hq G.imm himm
    exact ⟨imm', ha, by rw [h2]; exact ⟨v, rfl, hav G hΛ⟩⟩⟩

theorem tells_simple {P : Program} {GW : World → Prop} {Λ : Nat → List CK} {f : FuncId} {ks : List AK} {mode : CM} {s : Tells} (hcf : ∀ args w, (callFunc f args).run P w = .ok (.enter f args) w)
    (h : ∀ (args : List AV) (τ : Type) (x : Option τ) (out : τ → Res) (sel : (β : Type) → τ → (Res → Option β) → Option β) (ok : ∀ β t k, sel β t k = k (out t)) (r : τ), s args = some (.mk τ x out sel ok) → x = some r → AV.simpleL args = true ∧ ∃ av, out r = .ret av ∧ av.simple = true ∧
      ∀ w, GW w → Calls P f (AV.denL args).toArray w (fun e w' => e = .returned av.den ∧ Below w.heap.size w w')) : CEOk P GW Λ f ⟨ks, mode, s⟩ :=
  tells_of hcf fun args τ x out sel ok r hs hx => by
    obtain ⟨h1, av, h2, h3, h4⟩ := h args τ x out sel ok r hs hx
    refine ⟨h1, av, h2, fun w hw => (h4 w hw).mono ?_⟩
    rintro e w' ⟨rfl, hb⟩
    exact ⟨_, rfl, hb, fun imm himm => ⟨imm, ⟨fun _ _ q => q, fun _ _ _ q => q, fun b o q => Nat.lt_of_lt_of_le (himm b o q) hb.size, hb⟩, fun G _ => (AV.den_is _ w' _ _ h3).2 rfl⟩⟩


end Go.Proofs.Qx

namespace Go.Proofs.Qx
open Go Go.RowKit
set_option linter.unusedVariables false
set_option linter.unusedSimpArgs false

abbrev _root_.Prod.q1 {A0 A1 A2 : Type} (x : A0 × A1 × A2) : A1 := x.2.1
abbrev _root_.Prod.r1 {A0 A1 : Type} (x : A0 × A1) : A1 := x.2
abbrev _root_.Prod.q2 {A0 A1 A2 A3 : Type} (x : A0 × A1 × A2 × A3) : A2 := x.2.2.1
abbrev _root_.Prod.r2 {A0 A1 A2 : Type} (x : A0 × A1 × A2) : A2 := x.2.2
abbrev _root_.Prod.q3 {A0 A1 A2 A3 A4 : Type} (x : A0 × A1 × A2 × A3 × A4) : A3 := x.2.2.2.1
abbrev _root_.Prod.r3 {A0 A1 A2 A3 : Type} (x : A0 × A1 × A2 × A3) : A3 := x.2.2.2
abbrev _root_.Prod.q4 {A0 A1 A2 A3 A4 A5 : Type} (x : A0 × A1 × A2 × A3 × A4 × A5) : A4 := x.2.2.2.2.1
abbrev _root_.Prod.r4 {A0 A1 A2 A3 A4 : Type} (x : A0 × A1 × A2 × A3 × A4) : A4 := x.2.2.2.2
abbrev _root_.Prod.q5 {A0 A1 A2 A3 A4 A5 A6 : Type} (x : A0 × A1 × A2 × A3 × A4 × A5 × A6) : A5 := x.2.2.2.2.2.1
abbrev _root_.Prod.r5 {A0 A1 A2 A3 A4 A5 : Type} (x : A0 × A1 × A2 × A3 × A4 × A5) : A5 := x.2.2.2.2.2
abbrev _root_.Prod.q6 {A0 A1 A2 A3 A4 A5 A6 A7 : Type} (x : A0 × A1 × A2 × A3 × A4 × A5 × A6 × A7) : A6 := x.2.2.2.2.2.2.1
abbrev _root_.Prod.r6 {A0 A1 A2 A3 A4 A5 A6 : Type} (x : A0 × A1 × A2 × A3 × A4 × A5 × A6) : A6 := x.2.2.2.2.2.2
abbrev _root_.Prod.q7 {A0 A1 A2 A3 A4 A5 A6 A7 A8 : Type} (x : A0 × A1 × A2 × A3 × A4 × A5 × A6 × A7 × A8) : A7 := x.2.2.2.2.2.2.2.1
abbrev _root_.Prod.r7 {A0 A1 A2 A3 A4 A5 A6 A7 : Type} (x : A0 × A1 × A2 × A3 × A4 × A5 × A6 × A7) : A7 := x.2.2.2.2.2.2.2
abbrev _root_.Prod.q8 {A0 A1 A2 A3 A4 A5 A6 A7 A8 A9 : Type} (x : A0 × A1 × A2 × A3 × A4 × A5 × A6 × A7 × A8 × A9) : A8 := x.2.2.2.2.2.2.2.2.1
abbrev _root_.Prod.r8 {A0 A1 A2 A3 A4 A5 A6 A7 A8 : Type} (x : A0 × A1 × A2 × A3 × A4 × A5 × A6 × A7 × A8) : A8 := x.2.2.2.2.2.2.2.2
abbrev _root_.Prod.q9 {A0 A1 A2 A3 A4 A5 A6 A7 A8 A9 A10 : Type} (x : A0 × A1 × A2 × A3 × A4 × A5 × A6 × A7 × A8 × A9 × A10) : A9 := x.2.2.2.2.2.2.2.2.2.1
abbrev _root_.Prod.r9 {A0 A1 A2 A3 A4 A5 A6 A7 A8 A9 : Type} (x : A0 × A1 × A2 × A3 × A4 × A5 × A6 × A7 × A8 × A9) : A9 := x.2.2.2.2.2.2.2.2.2
abbrev _root_.Prod.q10 {A0 A1 A2 A3 A4 A5 A6 A7 A8 A9 A10 A11 : Type} (x : A0 × A1 × A2 × A3 × A4 × A5 × A6 × A7 × A8 × A9 × A10 × A11) : A10 := x.2.2.2.2.2.2.2.2.2.2.1
abbrev _root_.Prod.r10 {A0 A1 A2 A3 A4 A5 A6 A7 A8 A9 A10 : Type} (x : A0 × A1 × A2 × A3 × A4 × A5 × A6 × A7 × A8 × A9 × A10) : A10 := x.2.2.2.2.2.2.2.2.2.2
abbrev _root_.Prod.q11 {A0 A1 A2 A3 A4 A5 A6 A7 A8 A9 A10 A11 A12 : Type} (x : A0 × A1 × A2 × A3 × A4 × A5 × A6 × A7 × A8 × A9 × A10 × A11 × A12) : A11 := x.2.2.2.2.2.2.2.2.2.2.2.1
abbrev _root_.Prod.r11 {A0 A1 A2 A3 A4 A5 A6 A7 A8 A9 A10 A11 : Type} (x : A0 × A1 × A2 × A3 × A4 × A5 × A6 × A7 × A8 × A9 × A10 × A11) : A11 := x.2.2.2.2.2.2.2.2.2.2.2
abbrev _root_.Prod.q12 {A0 A1 A2 A3 A4 A5 A6 A7 A8 A9 A10 A11 A12 A13 : Type} (x : A0 × A1 × A2 × A3 × A4 × A5 × A6 × A7 × A8 × A9 × A10 × A11 × A12 × A13) : A12 := x.2.2.2.2.2.2.2.2.2.2.2.2.1
abbrev _root_.Prod.r12 {A0 A1 A2 A3 A4 A5 A6 A7 A8 A9 A10 A11 A12 : Type} (x : A0 × A1 × A2 × A3 × A4 × A5 × A6 × A7 × A8 × A9 × A10 × A11 × A12) : A12 := x.2.2.2.2.2.2.2.2.2.2.2.2
abbrev _root_.Prod.q13 {A0 A1 A2 A3 A4 A5 A6 A7 A8 A9 A10 A11 A12 A13 A14 : Type} (x : A0 × A1 × A2 × A3 × A4 × A5 × A6 × A7 × A8 × A9 × A10 × A11 × A12 × A13 × A14) : A13 := x.2.2.2.2.2.2.2.2.2.2.2.2.2.1
abbrev _root_.Prod.r13 {A0 A1 A2 A3 A4 A5 A6 A7 A8 A9 A10 A11 A12 A13 : Type} (x : A0 × A1 × A2 × A3 × A4 × A5 × A6 × A7 × A8 × A9 × A10 × A11 × A12 × A13) : A13 := x.2.2.2.2.2.2.2.2.2.2.2.2.2
abbrev _root_.Prod.q14 {A0 A1 A2 A3 A4 A5 A6 A7 A8 A9 A10 A11 A12 A13 A14 A15 : Type} (x : A0 × A1 × A2 × A3 × A4 × A5 × A6 × A7 × A8 × A9 × A10 × A11 × A12 × A13 × A14 × A15) : A14 := x.2.2.2.2.2.2.2.2.2.2.2.2.2.2.1
abbrev _root_.Prod.r14 {A0 A1 A2 A3 A4 A5 A6 A7 A8 A9 A10 A11 A12 A13 A14 : Type} (x : A0 × A1 × A2 × A3 × A4 × A5 × A6 × A7 × A8 × A9 × A10 × A11 × A12 × A13 × A14) : A14 := x.2.2.2.2.2.2.2.2.2.2.2.2.2.2
abbrev _root_.Prod.q15 {A0 A1 A2 A3 A4 A5 A6 A7 A8 A9 A10 A11 A12 A13 A14 A15 A16 : Type} (x : A0 × A1 × A2 × A3 × A4 × A5 × A6 × A7 × A8 × A9 × A10 × A11 × A12 × A13 × A14 × A15 × A16) : A15 := x.2.2.2.2.2.2.2.2.2.2.2.2.2.2.2.1
abbrev _root_.Prod.r15 {A0 A1 A2 A3 A4 A5 A6 A7 A8 A9 A10 A11 A12 A13 A14 A15 : Type} (x : A0 × A1 × A2 × A3 × A4 × A5 × A6 × A7 × A8 × A9 × A10 × A11 × A12 × A13 × A14 × A15) : A15 := x.2.2.2.2.2.2.2.2.2.2.2.2.2.2.2
abbrev _root_.Prod.q16 {A0 A1 A2 A3 A4 A5 A6 A7 A8 A9 A10 A11 A12 A13 A14 A15 A16 A17 : Type} (x : A0 × A1 × A2 × A3 × A4 × A5 × A6 × A7 × A8 × A9 × A10 × A11 × A12 × A13 × A14 × A15 × A16 × A17) : A16 := x.2.2.2.2.2.2.2.2.2.2.2.2.2.2.2.2.1
abbrev _root_.Prod.r16 {A0 A1 A2 A3 A4 A5 A6 A7 A8 A9 A10 A11 A12 A13 A14 A15 A16 : Type} (x : A0 × A1 × A2 × A3 × A4 × A5 × A6 × A7 × A8 × A9 × A10 × A11 × A12 × A13 × A14 × A15 × A16) : A16 := x.2.2.2.2.2.2.2.2.2.2.2.2.2.2.2.2
abbrev _root_.Prod.q17 {A0 A1 A2 A3 A4 A5 A6 A7 A8 A9 A10 A11 A12 A13 A14 A15 A16 A17 A18 : Type} (x : A0 × A1 × A2 × A3 × A4 × A5 × A6 × A7 × A8 × A9 × A10 × A11 × A12 × A13 × A14 × A15 × A16 × A17 × A18) : A17 := x.2.2.2.2.2.2.2.2.2.2.2.2.2.2.2.2.2.1
abbrev _root_.Prod.r17 {A0 A1 A2 A3 A4 A5 A6 A7 A8 A9 A10 A11 A12 A13 A14 A15 A16 A17 : Type} (x : A0 × A1 × A2 × A3 × A4 × A5 × A6 × A7 × A8 × A9 × A10 × A11 × A12 × A13 × A14 × A15 × A16 × A17) : A17 := x.2.2.2.2.2.2.2.2.2.2.2.2.2.2.2.2.2
abbrev _root_.Prod.q18 {A0 A1 A2 A3 A4 A5 A6 A7 A8 A9 A10 A11 A12 A13 A14 A15 A16 A17 A18 A19 : Type} (x : A0 × A1 × A2 × A3 × A4 × A5 × A6 × A7 × A8 × A9 × A10 × A11 × A12 × A13 × A14 × A15 × A16 × A17 × A18 × A19) : A18 := x.2.2.2.2.2.2.2.2.2.2.2.2.2.2.2.2.2.2.1
abbrev _root_.Prod.r18 {A0 A1 A2 A3 A4 A5 A6 A7 A8 A9 A10 A11 A12 A13 A14 A15 A16 A17 A18 : Type} (x : A0 × A1 × A2 × A3 × A4 × A5 × A6 × A7 × A8 × A9 × A10 × A11 × A12 × A13 × A14 × A15 × A16 × A17 × A18) : A18 := x.2.2.2.2.2.2.2.2.2.2.2.2.2.2.2.2.2.2

section
variable {P : Program} {Λ : Nat → List CK} {B : Nat} {wB : World} {GW : World → Prop} {Γ : List (Nat × CE)}

theorem allSome_map : ∀ {l : List (Option Nat)} {ρ : List Nat}, allSome l = some ρ → l = ρ.map some
  | [], ρ, h => by simp only [allSome, Option.some.injEq] at h; subst h; rfl
  | some a :: l, ρ, h => by
    simp only [allSome, Option.map_eq_some_iff] at h
    obtain ⟨r, h1, rfl⟩ := h
    rw [allSome_map h1]; rfl
  | none :: l, ρ, h => by simp [allSome] at h

def posOf : List Nat → Nat → Option Nat
  | [], _ => none
  | a :: l, i => if a = i then some 0 else (posOf l i).map (· + 1)
theorem posOf_some : ∀ {ρ : List Nat} {i j : Nat}, posOf ρ i = some j → ρ[j]? = some i
  | [], i, j, h => by simp [posOf] at h
  | a :: l, i, j, h => by
    simp only [posOf] at h
    split at h
    · rename_i e; cases h; simpa using e
    · rw [Option.map_eq_some_iff] at h
      obtain ⟨j', h1, rfl⟩ := h
      simpa using posOf_some h1
theorem posOf_none : ∀ {ρ : List Nat} {i : Nat}, posOf ρ i = none → ∀ j : Nat, ρ[j]? ≠ some i
  | [], i, h, j => by simp
  | a :: l, i, h, j => by
    simp only [posOf] at h
    split at h
    · cases h
    · rename_i e
      rw [Option.map_eq_none_iff] at h
      cases j with
      | zero => simpa using e
      | succ j => simpa using posOf_none h j

def Gh.merge (G G1 : Gh) (ρ : List Nat) : Gh where
  at_ := G.at_
  n := G.n
  imm := G1.imm
  rv := fun i => match posOf ρ i with | some j => G1.rv j | none => G.rv i
  ver := fun i => match posOf ρ i with | some j => G.ver i + G1.ver j | none => G.ver i
  ft := fun i => match posOf ρ i with | some j => G1.ft j | none => G.ft i
  lay := G.lay

structure SubB (G : Gh) (ρ : List Nat) : Prop where
  lt : ∀ j r : Nat, ρ[j]? = some r → r < G.n
  inj : ∀ j k r : Nat, ρ[j]? = some r → ρ[k]? = some r → j = k
theorem SubB.pos {G : Gh} {ρ : List Nat} (s : SubB G ρ) {j r : Nat} (h : ρ[j]? = some r) : posOf ρ r = some j := by
  cases hp : posOf ρ r with
  | none => exact absurd h (posOf_none hp j)
  | some k => rw [s.inj k j r (posOf_some hp) h]

structure Named (G G1 : Gh) (ρ : List Nat) (q : List (Option Nat)) : Prop where
  sub : SubB G ρ
  n : G1.n = ρ.length
  at_ : ∀ j r : Nat, ρ[j]? = some r → G1.at_ j = G.at_ r
  lay : G1.lay = G.lay
  ver : ∀ j r v : Nat, ρ[j]? = some r → q[j]? = some (some v) → G.ver r = v

mutual
theorem AV.is_ren {G G1 : Gh} {w : World} {ρ : List Nat} {q : List (Option Nat)} (h : Named G G1 ρ q) : ∀ (a : AV) (v : Value), a.is G1 w v → (a.ren ρ q).is (G.merge G1 ρ) w v
  | .junk, _, _ => by simp [AV.ren, AV.is]
  | .int .., _, hv => by simpa [AV.ren, AV.is] using hv
  | .bool .., _, hv => by simpa [AV.ren, AV.is] using hv
  | .str .., _, hv => by simpa [AV.ren, AV.is] using hv
  | .ptr b o, v, hv => by
    simp only [AV.ren, AV.is] at hv ⊢
    obtain ⟨r, hr⟩ : ∃ r, ρ[b]? = some r := ⟨_, List.getElem?_eq_getElem (by rw [← h.n]; exact hv.1)⟩
    have e : ρ.getD b 0 = r := by simp [List.getD_eq_getElem?_getD, hr]
    rw [e]
    exact ⟨h.sub.lt b r hr, by rw [hv.2, h.at_ b r hr]; rfl⟩
  | .agg l, v, hv => by
    simp only [AV.ren, AV.is] at hv ⊢
    obtain ⟨a, e, hl⟩ := hv
    exact ⟨a, e, AV.isL_ren h l _ hl⟩
  | .tup l, v, hv => by
    simp only [AV.ren, AV.is] at hv ⊢
    obtain ⟨a, e, hl⟩ := hv
    exact ⟨a, e, AV.isL_ren h l _ hl⟩
  | .fn f l m, v, hv => by
    simp only [AV.ren, AV.is] at hv ⊢
    obtain ⟨a, b, e, hl, hm⟩ := hv
    exact ⟨a, b, e, AV.isL_ren h l _ hl, AV.isL_ren h m _ hm⟩
  | .val _, _, hv => by simpa [AV.ren, AV.is] using hv
  | .seq c l, v, hv => by
    simp only [AV.ren, AV.is] at hv ⊢
    rw [h.lay] at hv
    exact hv
  | .sl b o n c, v, hv => by
    simp only [AV.ren, AV.is] at hv ⊢
    obtain ⟨r, hr⟩ : ∃ r, ρ[b]? = some r := ⟨_, List.getElem?_eq_getElem (by rw [← h.n]; exact hv.1)⟩
    have e : ρ.getD b 0 = r := by simp [List.getD_eq_getElem?_getD, hr]
    rw [e]
    exact ⟨h.sub.lt b r hr, by rw [hv.2, h.at_ b r hr]; rfl⟩
  | .rs r x, v, hv => by
    simp only [AV.is] at hv
    simp only [AV.ren]
    split
    · rename_i w0 hq
      obtain ⟨h1, h2, h3, h4⟩ := hv
      obtain ⟨rr, hr⟩ : ∃ rr, ρ[r]? = some rr := ⟨_, List.getElem?_eq_getElem (by rw [← h.n]; exact h1)⟩
      have e : ρ.getD r 0 = rr := by simp [List.getD_eq_getElem?_getD, hr]
      have hv0 := h.ver r rr w0 hr hq
      simp only [AV.is]
      rw [e]
      have hp := h.sub.pos hr
      refine ⟨h.sub.lt r rr hr, ?_, h3, fun e1 => ?_⟩
      · simp only [Gh.merge, hp]; omega
      · simp only [Gh.merge, hp] at e1 ⊢
        exact h4 (by omega)
    · trivial
  | .ep .., _, _ => by simp [AV.ren, AV.is]
  | .sp .., _, _ => by simp [AV.ren, AV.is]
  | .ifc .., _, _ => by simp [AV.ren, AV.is]
  | .own .., _, _ => by simp [AV.ren, AV.is]
  | .sd .., _, _ => by simp [AV.ren, AV.is]
  | .op b, v, hv => by
    simp only [AV.ren, AV.is] at hv ⊢
    obtain ⟨r, hr⟩ : ∃ r, ρ[b]? = some r := ⟨_, List.getElem?_eq_getElem (by rw [← h.n]; exact hv.1)⟩
    have e : ρ.getD b 0 = r := by simp [List.getD_eq_getElem?_getD, hr]
    rw [e]
    exact ⟨h.sub.lt b r hr, by rw [h.at_ b r hr] at hv; exact hv.2⟩
theorem AV.isL_ren {G G1 : Gh} {w : World} {ρ : List Nat} {q : List (Option Nat)} (h : Named G G1 ρ q) : ∀ (l : List AV) (vs : List Value), AV.isL G1 w l vs → AV.isL (G.merge G1 ρ) w (AV.renL ρ q l) vs
  | [], vs, hv => by simpa [AV.renL, AV.isL] using hv
  | a :: l, vs, hv => by
    simp only [AV.renL, AV.isL] at hv ⊢
    obtain ⟨v, r, e, ha, hl⟩ := hv
    exact ⟨v, r, e, AV.is_ren h a v ha, AV.isL_ren h l r hl⟩
end

theorem rowRep_congr {G G' : Gh} {w : World} {e : TypeId} {nb : Bool} {l : List (List D)} {v : Value} {ft : List Nat} (hl : G'.lay = G.lay) (hi : G'.imm = G.imm) (h : RowRep G B w e nb l v ft) : RowRep G' B w e nb l v ft := by
  unfold RowRep at h ⊢
  rw [hl, hi]; exact h
theorem tRep_congr {G G' : Gh} {w : World} {e : TypeId} {l : List (List D)} {v : Value} {ft : List Nat} (hl : G'.lay = G.lay) (hi : G'.imm = G.imm) (h : TRep G B w e l v ft) : TRep G' B w e l v ft := by
  unfold TRep at h ⊢
  rw [hl, hi]; exact h

theorem brep_ren {G G1 : Gh} {w : World} {ρ : List Nat} {q : List (Option Nat)} (h : Named G G1 ρ q) {j r : Nat} (hr : ρ[j]? = some r) {b b' : Blk} {u : Option Nat} (hu : ∀ x, u = some x → G.ver r = x) (hb : BRep G1 B w j b) (he : Blk.ren ρ q u b = some b') :
    BRep (G.merge G1 ρ) B w r b' := by
  have hp := h.sub.pos hr
  have e1 : (G.merge G1 ρ).ft r = G1.ft j := by simp [Gh.merge, hp]
  have e2 : (G.merge G1 ρ).rv r = G1.rv j := by simp [Gh.merge, hp]
  have e3 : (G.merge G1 ρ).ver r = G.ver r + G1.ver j := by simp [Gh.merge, hp]
  have e4 : (G.merge G1 ρ).at_ r = G1.at_ j := (h.at_ j r hr).symm
  cases b
  case cells e l md =>
    simp only [Blk.ren, Option.some.injEq] at he
    subst he
    obtain ⟨h1, h2, c, h3, h4⟩ := hb
    exact ⟨by rw [e1, e4]; exact h1, by rw [e4]; exact h2, c, by rw [e4]; exact h3, AV.isL_ren h l _ h4⟩
  case row e v nb l =>
    simp only [Blk.ren, Option.map_eq_some_iff] at he
    obtain ⟨x, hx, rfl⟩ := he
    obtain ⟨h1, h2⟩ := hb
    exact ⟨by rw [e3, hu x hx, h1], by rw [e2, e1]; exact rowRep_congr h.lay.symm rfl h2⟩
  case froz e v l =>
    simp only [Blk.ren, Option.map_eq_some_iff] at he
    obtain ⟨x, hx, rfl⟩ := he
    obtain ⟨h1, h2, h3⟩ := hb
    exact ⟨by rw [e3, hu x hx, h1], by rw [e1]; exact h2, by rw [e2]; rw [h.lay] at h3; exact h3⟩
  case iter s p =>
    simp only [Blk.ren, Option.some.injEq] at he
    subst he
    obtain ⟨h1, h2⟩ := hb
    exact ⟨by rw [e1, e4]; exact h1, by rw [e4]; exact h2⟩
  case bytes e v s fz =>
    simp only [Blk.ren, Option.map_eq_some_iff] at he
    obtain ⟨x, hx, rfl⟩ := he
    obtain ⟨h1, h2, h3⟩ := hb
    exact ⟨by rw [e3, hu x hx, h1], by rw [e1, e2]; exact h2, by rw [e2]; exact h3⟩
  case gone =>
    simp only [Blk.ren, Option.some.injEq] at he
    subst he; trivial
  case trow e v l =>
    simp only [Blk.ren, Option.map_eq_some_iff] at he
    obtain ⟨x, hx, rfl⟩ := he
    obtain ⟨h1, h2⟩ := hb
    exact ⟨by rw [e3, hu x hx, h1], by rw [e2, e1]; exact tRep_congr h.lay.symm rfl h2⟩
  case bld e be s fz =>
    simp only [Blk.ren, Option.some.injEq] at he
    subst he
    obtain ⟨p, buf, h1, h2, h3, h4, h5⟩ := hb
    exact ⟨p, buf, by rw [e1, e4]; exact h1, by rw [e4]; exact h2, by rw [e4]; exact h3, by rw [e4]; exact h4, h5⟩

theorem ren_own {ρ : List Nat} {q : List (Option Nat)} {u : Option Nat} {b b' : Blk} (he : Blk.ren ρ q u b = some b') : b'.own = b.own := by
  cases b
  case cells e l md => simp only [Blk.ren, Option.some.injEq] at he; subst he; cases md <;> rfl
  case iter => simp only [Blk.ren, Option.some.injEq] at he; subst he; rfl
  case gone => simp only [Blk.ren, Option.some.injEq] at he; subst he; rfl
  case bld => simp only [Blk.ren, Option.some.injEq] at he; subst he; rfl
  all_goals
    simp only [Blk.ren, Option.map_eq_some_iff] at he
    obtain ⟨x, _, rfl⟩ := he
    rfl

theorem backA_get {ρ : List Nat} {q : List (Option Nat)} : ∀ (rs : List Nat) (bs : List Blk) (h h' : Hp), backA ρ q rs bs h = some h' → (∀ j k r : Nat, rs[j]? = some r → rs[k]? = some r → j = k) →
    h'.length = h.length ∧ bs.length = rs.length ∧ (∀ i, i ∉ rs → h'[i]? = h[i]?) ∧ ∀ (j r : Nat) (b : Blk), rs[j]? = some r → bs[j]? = some b → ∃ b0 b', h[r]? = some b0 ∧ Blk.ren ρ q b0.vers b = some b' ∧ h'[r]? = some b'
  | [], [], h, h', e, _ => by
    simp only [backA, Option.some.injEq] at e
    subst e
    exact ⟨rfl, rfl, fun _ _ => rfl, fun j r b hj => by simp at hj⟩
  | [], b :: bs, h, h', e, _ => by simp [backA] at e
  | r :: rs, [], h, h', e, _ => by simp [backA] at e
  | r :: rs, b :: bs, h, h', e, hinj => by
    simp only [backA] at e
    split at e
    · rename_i b0 hb0
      split at e
      · rename_i b1 hb1
        have hinj' : ∀ j k r : Nat, rs[j]? = some r → rs[k]? = some r → j = k := fun j k r' hj hk => by
          have := hinj (j + 1) (k + 1) r' (by simpa using hj) (by simpa using hk)
          omega
        obtain ⟨h1, h2, h3, h4⟩ := backA_get rs bs _ _ e hinj'
        have hnot : r ∉ rs := fun hr => by
          obtain ⟨k, hk⟩ := List.mem_iff_getElem?.1 hr
          have := hinj 0 (k + 1) r rfl (by simpa using hk)
          omega
        have hrl : r < h.length := (List.getElem?_eq_some_iff.1 hb0).1
        refine ⟨by rw [h1, List.length_set], by simp [h2], fun i hi => ?_, fun j r' b' hj hb' => ?_⟩
        · have h5 : i ≠ r := fun e => hi (by simp [e])
          rw [h3 i (fun q => hi (List.mem_cons_of_mem _ q)), List.getElem?_set, if_neg (fun e => h5 e.symm)]
        · cases j with
          | zero =>
            simp at hj hb'
            subst hj hb'
            exact ⟨b0, b1, hb0, hb1, by rw [h3 r hnot, List.getElem?_set, if_pos rfl, if_pos hrl]⟩
          | succ j =>
            obtain ⟨c0, c1, q1, q2, q3⟩ := h4 j r' b' (by simpa using hj) (by simpa using hb')
            have hne : r ≠ r' := fun e => hnot (by rw [e]; exact List.mem_of_getElem? (by simpa using hj))
            rw [List.getElem?_set, if_neg hne] at q1
            exact ⟨c0, c1, q1, q2, q3⟩
      · cases e
    · cases e

theorem backA_ok {ρ : List Nat} {q : List (Option Nat)} : ∀ (rs : List Nat) (bs : List Blk) (h : Hp), bs.length = rs.length → (∀ j k r : Nat, rs[j]? = some r → rs[k]? = some r → j = k) → (∀ (j r : Nat) (b : Blk), rs[j]? = some r → bs[j]? = some b → ∃ b0, h[r]? = some b0 ∧ (Blk.ren ρ q b0.vers b).isSome = true) →
    ∃ h', backA ρ q rs bs h = some h'
  | [], [], h, _, _, _ => ⟨h, rfl⟩
  | [], b :: bs, h, e, _, _ => by simp at e
  | r :: rs, [], h, e, _, _ => by simp at e
  | r :: rs, b :: bs, h, e, hinj, hk => by
    obtain ⟨b0, h1, h2⟩ := hk 0 r b rfl rfl
    obtain ⟨b1, h3⟩ := Option.isSome_iff_exists.1 h2
    simp only [backA, h1, h3]
    refine backA_ok rs bs _ (by simpa using e) (fun j k r' hj hk => ?_) fun j r' b' hj hb' => ?_
    · have := hinj (j + 1) (k + 1) r' (by simpa using hj) (by simpa using hk)
      omega
    · have hne : r ≠ r' := fun e => by
        have := hinj 0 (j + 1) r rfl (by rw [e]; simpa using hj)
        omega
      obtain ⟨c0, q1, q2⟩ := hk (j + 1) r' b' (by simpa using hj) (by simpa using hb')
      exact ⟨c0, by rw [List.getElem?_set, if_neg hne]; exact q1, q2⟩

theorem frame_back {G Gs G1 : Gh} {h hs h' : Hp} {w w' : World} {ρ : List Nat} {q : List (Option Nat)} (H : HRep G B h w) (hN : Named G G1 ρ q) (hqv : ∀ (j r : Nat) (b0 : Blk) (v : Nat), ρ[j]? = some r → h[r]? = some b0 → b0.vers = some v → G.ver r = v)
    (sn : Gs.n = ρ.length) (si : Gs.imm = G.imm) (sa : ∀ j r : Nat, ρ[j]? = some r → Gs.at_ j = G.at_ r) (sr : ∀ j r : Nat, ρ[j]? = some r → Gs.rv j = G.rv r) (sf : ∀ j r : Nat, ρ[j]? = some r → Gs.ft j = G.ft r) (sv : ∀ j, Gs.ver j = 0)
    (m : Mv B wB Gs w G1 w') (H1 : HRep G1 B hs w') (hback : backA ρ q ρ hs h = some h') : HRep (G.merge G1 ρ) B h' w' ∧ Mv B wB G w (G.merge G1 ρ) w' := by
  obtain ⟨b1, b2, b3, b4⟩ := backA_get ρ hs h h' hback hN.sub.inj
  have hρ : ∀ j, j < Gs.n → ∃ r, ρ[j]? = some r := fun j hj => ⟨_, List.getElem?_eq_getElem (by rw [← sn]; exact hj)⟩
  have inS : ∀ j, j < Gs.n → ∀ g ∈ Gs.ft j, ∃ r, ρ[j]? = some r ∧ r < G.n ∧ g ∈ G.ft r := fun j hj g hg => by
    obtain ⟨r, hr⟩ := hρ j hj
    exact ⟨r, hr, hN.sub.lt j r hr, by rw [← sf j r hr]; exact hg⟩
  have notS : ∀ i, i < G.n → posOf ρ i = none → ∀ g ∈ G.ft i, ∀ j, j < Gs.n → g ∉ Gs.ft j := fun i hi hp g hg j hj hgj => by
    obtain ⟨r, hr, hrn, hgr⟩ := inS j hj g hgj
    have hne : i ≠ r := fun e => posOf_none hp j (e ▸ hr)
    exact H.inj i r hi hrn hne g hg hgr
  have himm : ∀ i, i < G.n → posOf ρ i = none → ∀ g ∈ G.ft i, ∀ o, G1.imm g o → G.imm g o := fun i hi hp g hg o q => by
    rcases m.imm g o q with q | ⟨j, hj, q⟩ | q
    · rw [si] at q; exact q
    · exact absurd q (notS i hi hp g hg j hj)
    · have := H.lt i hi g hg; omega
  have hle : G.le w (G.merge G1 ρ) w' := by
    refine ⟨Nat.le_refl _, fun _ _ => rfl, fun b o q => m.le.imm b o (by rw [si]; exact q), fun b o q => m.le.cell b o (by rw [si]; exact q), fun i _ => ?_, fun i _ e => ?_, rfl⟩
    · simp only [Gh.merge]; split <;> omega
    · simp only [Gh.merge] at e ⊢
      split at e
      · rename_i j hp
        have hr := posOf_some hp
        have hj : j < Gs.n := by rw [sn]; exact (List.getElem?_eq_some_iff.1 hr).1
        rw [m.le.rv j hj (by rw [sv]; omega), sr j i hr]
      · rfl
  have e1n : G1.n = Gs.n := by rw [hN.n, sn]
  have ft' : ∀ i, i < G.n → ∀ g ∈ (G.merge G1 ρ).ft i, (∃ j, j < G.n ∧ g ∈ G.ft j) ∨ w.heap.size ≤ g := fun i hi g hg => by
    simp only [Gh.merge] at hg
    split at hg
    · rename_i j hp
      have hr := posOf_some hp
      have hj : j < G1.n := by rw [hN.n]; exact (List.getElem?_eq_some_iff.1 hr).1
      rcases m.ft j hj g hg with ⟨k, hk, q⟩ | q
      · obtain ⟨r, _, hrn, hgr⟩ := inS k hk g q
        exact .inl ⟨r, hrn, hgr⟩
      · exact .inr q
    · exact .inl ⟨i, hi, hg⟩
  have hcase : ∀ {i b}, h'[i]? = some b → i < G.n ∧ ((∃ j b0 c, ρ[j]? = some i ∧ posOf ρ i = some j ∧ hs[j]? = some c ∧ h[i]? = some b0 ∧ Blk.ren ρ q b0.vers c = some b) ∨ (posOf ρ i = none ∧ h[i]? = some b)) := fun {i b} hi => by
    have hin : i < G.n := by rw [← H.len, ← b1]; exact (List.getElem?_eq_some_iff.1 hi).1
    refine ⟨hin, ?_⟩
    cases hp : posOf ρ i with
    | none =>
      right
      refine ⟨rfl, ?_⟩
      rw [← b3 i fun hm => ?_]
      · exact hi
      · obtain ⟨j, hj⟩ := List.mem_iff_getElem?.1 hm
        exact posOf_none hp j hj
    | some j =>
      left
      have hr := posOf_some hp
      have hj : j < hs.length := by rw [b2]; exact (List.getElem?_eq_some_iff.1 hr).1
      obtain ⟨b0, b', q1, q2, q3⟩ := b4 j i _ hr (List.getElem?_eq_getElem hj)
      rw [hi] at q3; cases q3
      exact ⟨j, b0, _, hr, rfl, List.getElem?_eq_getElem hj, q1, q2⟩
  refine ⟨⟨by rw [b1]; exact H.len, fun i b hi => ?_, fun i b hi ho g hg => ?_, fun i j hi hj hij g hg hg' => ?_, fun i hi g hg => ?_, H1.imm⟩, ⟨hle, m.below, fun b x hb hx => ?_, m.size, fun g hg hn => m.keep g hg fun j hj hgj => ?_, ft', fun b x hx => ?_⟩⟩
  · obtain ⟨hin, ⟨j, b0, c, hr, hp, hc, hb0, he⟩ | ⟨hp, hb⟩⟩ := hcase hi
    · exact brep_ren hN hr (fun x hx => hqv j i b0 x hr hb0 hx) (H1.blk j c hc) he
    · refine (H.blk i b hb).mono hle rfl (by simp [Gh.merge, hp]) (by simp [Gh.merge, hp]) (by simp [Gh.merge, hp]) (fun g hg => m.keep g (H.lt i hin g hg) (notS i hin hp g hg)) fun _ g hg o q => himm i hin hp g hg o q
  · obtain ⟨hin, ⟨j, b0, c, hr, hp, hc, hb0, he⟩ | ⟨hp, hb⟩⟩ := hcase hi
    · simp only [Gh.merge, hp] at hg
      exact H1.own j c hc (by rw [← ren_own he]; exact ho) g hg
    · simp only [Gh.merge, hp] at hg
      obtain ⟨q1, q2⟩ := H.own i b hb ho g hg
      exact ⟨q1, fun o q => q2 o (himm i hin hp g hg o q)⟩
  · have hmix : ∀ i j k, i < G.n → posOf ρ i = none → posOf ρ j = some k → ∀ g ∈ G.ft i, g ∉ G1.ft k := fun i j k hi hp hp' g hg hgk => by
      have hk : k < G1.n := by rw [hN.n]; exact (List.getElem?_eq_some_iff.1 (posOf_some hp')).1
      rcases m.ft k hk g hgk with ⟨l, hl, q⟩ | q
      · exact notS i hi hp g hg l hl q
      · have := H.lt i hi g hg; omega
    simp only [Gh.merge] at hg hg'
    cases hp : posOf ρ i with
    | none =>
      rw [hp] at hg
      cases hp' : posOf ρ j with
      | none => rw [hp'] at hg'; exact H.inj i j hi hj hij g hg hg'
      | some k => rw [hp'] at hg'; exact hmix i j k hi hp hp' g hg hg'
    | some a =>
      rw [hp] at hg
      cases hp' : posOf ρ j with
      | none => rw [hp'] at hg'; exact hmix j i a hj hp' hp g hg' hg
      | some k =>
        rw [hp'] at hg'
        have hne : a ≠ k := fun e => hij (by
          have q1 := posOf_some hp
          have q2 := posOf_some hp'
          rw [e, q2] at q1; exact (Option.some.inj q1).symm)
        exact H1.inj a k (by rw [hN.n]; exact (List.getElem?_eq_some_iff.1 (posOf_some hp)).1) (by rw [hN.n]; exact (List.getElem?_eq_some_iff.1 (posOf_some hp')).1) hne g hg hg'
  · simp only [Gh.merge] at hg
    split at hg
    · rename_i j hp
      exact H1.lt j (by rw [hN.n]; exact (List.getElem?_eq_some_iff.1 (posOf_some hp)).1) g hg
    · exact Nat.lt_of_lt_of_le (H.lt i hi g hg) m.size
  · have := m.old b x hb hx
    rw [si] at this; exact this
  · obtain ⟨r, _, hrn, hgr⟩ := inS j hj g hgj
    exact hn r hrn hgr
  · rcases m.imm b x hx with q | ⟨j, hj, q⟩ | q
    · rw [si] at q; exact .inl q
    · obtain ⟨r, _, hrn, hgr⟩ := inS j hj b q
      exact .inr (.inl ⟨r, hrn, hgr⟩)
    · exact .inr (.inr q)

def Blk.kindT : Blk → TB → Bool
  | .cells .., .cells .. => true
  | .row .., .row .. => true
  | .bytes .., .bytes .. => true
  | .trow .., .trow .. => true
  | .bld .., .bld .. => true
  | .gone, _ => true
  | _, _ => false
theorem bldB_kind (t : TB) (d : List D) (hk : (match t with | .cells .. => true | .row .. => true | .bytes .. => true | .trow .. => true | .bld .. => true | _ => false) = true) : (bldB t d).1.kindT t = true := by
  cases t <;> simp only [bldB] <;> first | rfl | cases hk | skip
  all_goals (split <;> rfl)
theorem bldBs_kind : ∀ (ts : List TB) (d : List D) (j : Nat) (b : Blk) (t : TB), (bldBs ts d).1[j]? = some b → ts[j]? = some t → (match t with | .cells .. => true | .row .. => true | .bytes .. => true | .trow .. => true | .bld .. => true | _ => false) = true → b.kindT t = true
  | [], d, j, b, t, hb, ht, hk => by simp at ht
  | t0 :: ts, d, j, b, t, hb, ht, hk => by
    simp only [bldBs] at hb
    cases j with
    | zero => simp at hb ht; subst hb ht; exact bldB_kind _ _ hk
    | succ j => exact bldBs_kind ts _ j b t (by simpa using hb) (by simpa using ht) hk
theorem kindsM_get : ∀ {ss ts : List TB}, kindsM ss ts = true → ss.length = ts.length ∧ ∀ (j : Nat) (s t : TB), ss[j]? = some s → ts[j]? = some t →
    (match s, t with | .cells .., .cells .. => true | .row .., .row .. => true | .bytes .., .bytes .. => true | .trow .., .trow .. => true | .bld .., .bld .. => true | _, _ => false) = true
  | [], [], _ => ⟨rfl, fun j s t h => by simp at h⟩
  | [], _ :: _, h => by simp [kindsM] at h
  | _ :: _, [], h => by simp [kindsM] at h
  | s :: ss, t :: ts, h => by
    simp only [kindsM, Bool.and_eq_true] at h
    obtain ⟨h1, h2⟩ := kindsM_get h.2
    refine ⟨by simp [h1], fun j s' t' hs ht => ?_⟩
    cases j with
    | zero => simp at hs ht; subst hs ht; exact h.1
    | succ j => exact h2 j s' t' (by simpa using hs) (by simpa using ht)
theorem fitM_get {h : Hp} : ∀ {rs : List Nat} {ts : List TB}, fitM h rs ts = true → rs.length = ts.length ∧ ∀ (j r : Nat) (t : TB), rs[j]? = some r → ts[j]? = some t →
    ∃ b, h[r]? = some b ∧ (match b, t with | .cells .., .cells .. => true | .row .., .row .. => true | .bytes .., .bytes .. => true | .trow .., .trow .. => true | .bld .., .bld .. => true | _, _ => false) = true
  | [], [], _ => ⟨rfl, fun j r t h => by simp at h⟩
  | [], _ :: _, h => by simp [fitM] at h
  | _ :: _, [], h => by simp [fitM] at h
  | r :: rs, t :: ts, h => by
    simp only [fitM, Bool.and_eq_true] at h
    obtain ⟨h1, h2⟩ := fitM_get h.2
    refine ⟨by simp [h1], fun j r' t' hs ht => ?_⟩
    cases j with
    | zero =>
      simp at hs ht; subst hs ht
      have := h.1
      split at this
      all_goals first | (rename_i hb; exact ⟨_, hb, rfl⟩) | cases this
    | succ j => exact h2 j r' t' (by simpa using hs) (by simpa using ht)

theorem vers_is {G : Gh} {w : World} {i : Nat} {b : Blk} {v : Nat} (hb : BRep G B w i b) (hv : b.vers = some v) : G.ver i = v := by
  cases b <;> simp only [Blk.vers] at hv <;> cases hv
  · exact hb.1
  · exact hb.1
  · exact hb.1
  · exact hb.1

theorem noDup_map {ρ : List Nat} (h : noDup (ρ.map some) = true) : ∀ j k r : Nat, ρ[j]? = some r → ρ[k]? = some r → j = k := fun j k r hj hk =>
  noDup_inj (a := r) h (by simp [hj]) (by simp [hk])

theorem mem_back {G G' : Gh} {args : List AV} {h h1 : Hp} {w w' : World} {T TE : TS} {ρ : List Nat} {fr : Fr} {d : List D} (H : HRep G B h w) (hlen : (placeT T args h).length = T.h.length) (hnd : noDup (placeT T args h) = true) (hp : placeT T args h = ρ.map some) (hlt : ∀ j r : Nat, ρ[j]? = some r → r < G.n)
    (hk0 : T.keep = 0) (hv0 : T.h.all (fun t => t.ver == 0) = true) (hfit : fitM h ρ T.h = true) (m : Mv B wB (G.recast T (placeT T args h)) w G' w') (hke : TE.keep = T.h.length) (hae : TE.at_ = []) (hkinds : kindsM T.h TE.h = true)
    (H1 : HRep (G'.recast TE (placeT TE fr h1)) B (bldS TE d).2 w') (hl1 : (bldS TE d).2.length = TE.h.length) (hk2 : ∀ j, j < TE.keep → (placeT TE fr h1)[j]? = some (some j)) :
    ∃ h', backA ρ (ρ.map fun r => (h[r]?).bind Blk.vers) ρ (bldS TE d).2 h = some h' ∧ HRep (G.merge (G'.recast TE (placeT TE fr h1)) ρ) B h' w' ∧ Mv B wB G w (G.merge (G'.recast TE (placeT TE fr h1)) ρ) w' ∧
      ∀ (a : AV) (v : Value), a.flat1 = true → a.is (G'.recast TE (placeT TE fr h1)) w' v → a.is (G.merge (G'.recast TE (placeT TE fr h1)) ρ) w' v := by
  obtain ⟨k1, k2⟩ := kindsM_get hkinds
  obtain ⟨f1, f2⟩ := fitM_get hfit
  have sub : SubB G ρ := ⟨hlt, noDup_map (by rw [← hp]; exact hnd)⟩
  have eρ : ∀ j r : Nat, ρ[j]? = some r → (placeT T args h)[j]? = some (some r) := fun j r hj => by rw [hp]; simp [hj]
  have e1 : ∀ j, j < TE.keep → (G'.recast TE (placeT TE fr h1)).at_ j = G'.at_ j ∧ G'.ver j ≤ (G'.recast TE (placeT TE fr h1)).ver j ∧ (G'.recast TE (placeT TE fr h1)).rv j = G'.rv j := fun i hi => by simp [Gh.recast, hk2 i hi, hi, Nat.le_max_left]
  have hn0 : (G.recast T (placeT T args h)).n = T.h.length := rfl
  have hn1 : (G'.recast TE (placeT TE fr h1)).n = ρ.length := by
    show TE.h.length = _
    rw [← k1, f1]
  have jl : ∀ j r : Nat, ρ[j]? = some r → j < TE.keep := fun j r hj => by rw [hke, ← f1]; exact (List.getElem?_eq_some_iff.1 hj).1
  have sv : ∀ j, (G.recast T (placeT T args h)).ver j = 0 := fun j => by
    simp only [Gh.recast, hk0, Nat.not_lt_zero, if_false]
    rw [List.getD_eq_getElem?_getD, List.getElem?_map]
    cases ht : T.h[j]? with
    | none => rfl
    | some t => simpa using (List.all_eq_true.1 hv0) t (List.mem_of_getElem? ht)
  have m' : Mv B wB (G.recast T (placeT T args h)) w (G'.recast TE (placeT TE fr h1)) w' := by
    refine ⟨⟨by rw [hn0, hn1, f1]; exact Nat.le_refl _, fun i hi => by rw [(e1 i (by rw [hke]; exact hi)).1]; exact m.le.at_ i hi, m.le.imm, m.le.cell, fun i hi => Nat.le_trans (m.le.ver i hi) (e1 i (by rw [hke]; exact hi)).2.1,
      fun i hi e => by rw [(e1 i (by rw [hke]; exact hi)).2.2]; exact m.le.rv i hi (Nat.le_antisymm (by rw [← e]; exact (e1 i (by rw [hke]; exact hi)).2.1) (m.le.ver i hi)), m.le.lay⟩, m.below, m.old, m.size, m.keep, fun i hi g hg => ?_, m.imm⟩
    obtain ⟨r, _, hgr, hrn⟩ := recast_ft hg
    exact m.ft r hrn g hgr
  have hN : Named G (G'.recast TE (placeT TE fr h1)) ρ (ρ.map fun r => (h[r]?).bind Blk.vers) := by
    refine ⟨sub, hn1, fun j r hr => ?_, ?_, fun j r v hr hq => ?_⟩
    · rw [(e1 j (jl j r hr)).1, m.le.at_ j (by rw [hn0, ← hke]; exact jl j r hr)]
      simp [Gh.recast, eρ j r hr]
    · exact m.le.lay
    · simp only [List.getElem?_map, hr, Option.map_some, Option.some.injEq] at hq
      rw [Option.bind_eq_some_iff] at hq
      obtain ⟨b, hb, hv⟩ := hq
      exact vers_is (H.blk r b hb) hv
  obtain ⟨h', hback⟩ := backA_ok (ρ := ρ) (q := ρ.map fun r => (h[r]?).bind Blk.vers) ρ (bldS TE d).2 h (by rw [hl1, ← k1, f1]) sub.inj fun j r b hr hb => by
    have hjl : j < T.h.length := by rw [← f1]; exact (List.getElem?_eq_some_iff.1 hr).1
    obtain ⟨b0, hb0, hk⟩ := f2 j r _ hr (List.getElem?_eq_getElem hjl)
    have hjl2 : j < TE.h.length := by rw [← k1]; exact hjl
    have hkk := k2 j _ _ (List.getElem?_eq_getElem hjl) (List.getElem?_eq_getElem hjl2)
    refine ⟨b0, hb0, ?_⟩
    generalize hs : T.h[j] = s at hk hkk
    generalize ht : TE.h[j] = t at hkk
    have hb' := bldBs_kind TE.h _ j b t hb (by rw [List.getElem?_eq_getElem hjl2, ht]) (by cases s <;> cases t <;> first | rfl | cases hkk)
    cases s <;> cases t <;> first | (cases hkk; done) | (cases b0 <;> first | (cases hk; done) | (cases b <;> first | (cases hb'; done) | rfl))
  obtain ⟨q1, q2⟩ := frame_back (Gs := G.recast T (placeT T args h)) H hN (fun j r b0 v _ hb hv => vers_is (H.blk r b0 hb) hv) (by rw [hn0, f1]) rfl (fun j r hr => by simp [Gh.recast, eρ j r hr]) (fun j r hr => by simp [Gh.recast, eρ j r hr]) (fun j r hr => by simp [Gh.recast, eρ j r hr, hlt j r hr]) sv m' H1 hback
  exact ⟨h', hback, q1, q2, fun a v hf ha => flat1_is hf ha⟩

theorem mem_none {σ τ : Type} {T : TS} {X : List (Exit × TS)} {dσ : List D → Option σ} {eτ : τ → Nat × List D} {f : FuncId}
    {sel : List Nat → List (Option Nat) → Hp → (β : Type) → τ → (Res → Hp → Option β) → Option β} {ok : ∀ ρ q h β t k, sel ρ q h β t k = k (endM ρ q h (endA X eτ t).1 (endA X eτ t).2).1 (endM ρ q h (endA X eτ t).1 (endA X eτ t).2).2} {L : σ → Option τ} (hL : ∀ x, L x = none) :
    HandM P Λ B wB f (memA T X dσ eτ sel ok L) := by
  intro args h τ' x' out sel' ok' t hs hx
  unfold memA at hs
  split at hs
  · split at hs
    · split at hs
      · split at hs
        · cases hs; rw [hL] at hx; cases hx
        · cases hs
      · cases hs
    · cases hs
  · cases hs

theorem mem_mk {σ τ : Type} (hm : P.follows .mixedOrders = true) (hΓ : AllOk P GW Λ Γ) (stab : ∀ w', Bel B wB w' → GW w') {inl : Nat → List AV → Hp → (Res → Hp → Option τ) → Option τ} (hinl : InlOk P Λ B wB inl) {C : Cfg} {f : FuncId} {fn : Func} (hf : P.funcs[f]? = some fn)
    (hL : ∀ c, fn.body = some c → ∀ d ∈ loopsOf c, ∀ n s, C.LS.lookup (loopKey d) = some (n, s) → LSOk P Λ B wB [] n s d)
    {T : TS} {X : List (Exit × TS)} (hT : (T.keep == 0 && T.h.all (fun t => t.ver == 0)) = true) (hX : X.all (okM T.h) = true) {dσ : List D → Option σ} {eσ : σ → List D} (hσ : ∀ d x, dσ d = some x → eσ x = d) {dτ : Nat → List D → Option τ} {eτ : τ → Nat × List D} (hτ : ∀ i d t, dτ i d = some t → eτ t = (i, d))
    {L : σ → Option τ} (hS : ∀ x, bodyC P Λ Γ [] inl C fn (bldS T (eσ x)).1 (bldS T (eσ x)).2 (contM X dτ) = L x)
    {sel : List Nat → List (Option Nat) → Hp → (β : Type) → τ → (Res → Hp → Option β) → Option β} {ok : ∀ ρ q h β t k, sel ρ q h β t k = k (endM ρ q h (endA X eτ t).1 (endA X eτ t).2).1 (endM ρ q h (endA X eτ t).1 (endA X eτ t).2).2} :
    HandM P Λ B wB f (memA T X dσ eτ sel ok L) := by
  intro args h τ' x' out sel' ok' t hs hx G w vs H hΛ hb hl
  simp only [Bool.and_eq_true, beq_iff_eq] at hT
  unfold memA at hs
  split at hs
  · rename_i d hext
    split at hs
    · rename_i x hdx
      split at hs
      · rename_i ρ hall
        split at hs
        · rename_i hfit
          cases hs
          have hp := allSome_map hall
          obtain ⟨H0, hargs, hlen, hnd, _, _, _⟩ := recast_rep H hl hext
          have e1 := hσ _ _ hdx
          subst e1
          rw [← hS] at hx
          have hlt : ∀ j r : Nat, ρ[j]? = some r → r < G.n := fun j r hr => by
            obtain ⟨f1, f2⟩ := fitM_get hfit
            have hjl : j < T.h.length := by rw [← f1]; exact (List.getElem?_eq_some_iff.1 hr).1
            obtain ⟨b0, hb0, _⟩ := f2 j r _ hr (List.getElem?_eq_getElem hjl)
            rw [← H.len]; exact (List.getElem?_eq_some_iff.1 hb0).1
          refine (bodyC_path (B := B) (wB := wB) (gl := []) hm hΓ stab hinl hf hL hx (G.recast T (placeT T args h)) w vs H0 hΛ hb (fun g i q => by simp at q) hargs).mono ?_
          rintro e w' ⟨res, h1, G', hk, H', m, hE⟩
          have fin : ∀ (ex : Exit) (fr : Fr) (us : List Value), AV.isL G' w' fr us → (exitsA ex fr h1 0 X).bind (fun p => dτ p.1 p.2) = some t → ∃ TE d', endA X eτ t = (ex, bldS TE d') ∧ okM T.h (ex, TE) = true ∧
              ∃ h' G2, backA ρ (ρ.map fun r => (h[r]?).bind Blk.vers) ρ (bldS TE d').2 h = some h' ∧ HRep G2 B h' w' ∧ Mv B wB G w G2 w' ∧ ∃ G1, AV.isL G1 w' (bldS TE d').1 us ∧ ∀ (a : AV) (v : Value), a.flat1 = true → a.is G1 w' v → a.is G2 w' v := fun ex fr us hus hb => by
            rw [Option.bind_eq_some_iff] at hb
            obtain ⟨⟨j, d'⟩, hx, hd⟩ := hb
            obtain ⟨mm, TE, hj, hxm, hext'⟩ := exitsA_ok X 0 j d' hx
            have e1 := hτ _ _ _ hd
            simp only at e1
            have hok := List.all_eq_true.1 hX _ (List.mem_of_getElem? hxm)
            have hok' := hok
            simp only [okM, Bool.and_eq_true, beq_iff_eq, List.isEmpty_iff] at hok'
            obtain ⟨⟨⟨o1, o2⟩, o3⟩, o4⟩ := hok'
            obtain ⟨H1, hus1, hlen1, hnd1, hk21, hkl1, hbl1⟩ := recast_rep H' hus hext'
            obtain ⟨h', q1, q2, q3, q4⟩ := mem_back (TE := TE) H hlen hnd hp hlt hT.1 hT.2 hfit m o1 o2 o3 H1 hbl1 hk21
            refine ⟨TE, d', ?_, hok, h', _, q1, q2, q3, _, hus1, q4⟩
            unfold endA
            rw [e1]
            simp only [hj, Nat.zero_add, hxm]
          cases res with
          | ret v =>
            simp only [contM] at hk
            obtain ⟨u, rfl, hu⟩ := hE
            obtain ⟨TE, d', e1, hok, h', G2, q1, q2, q3, G1, q4, q5⟩ := fin .ret [v] [u] (by simp only [AV.isL]; exact ⟨u, [], rfl, hu, rfl⟩) hk
            refine ⟨G2, ?_, q3, ?_⟩
            · simp only [e1, endM, q1, Option.getD_some]; exact q2
            · simp only [e1, endM]
              refine ⟨u, rfl, ?_⟩
              simp only [okM, Bool.and_eq_true] at hok
              have hfr := hok.2
              have hb1 : (bldS TE d').1 = (bldTs TE.fr d').1 := rfl
              rw [hb1] at q4 ⊢
              split at hfr
              · rename_i hf2; rw [hf2]; trivial
              · rename_i k hf2
                rw [hf2] at q4 ⊢
                simp only [bldTs] at q4 ⊢
                simp only [AV.isL] at q4
                obtain ⟨v', r', e2, e3, e4⟩ := q4
                cases e2
                generalize hbt : (bldT (.int k) d').1 = a at e3 ⊢
                have : a = .junk ∨ a.flat1 = true := by
                  rw [← hbt]; simp only [bldT]; split <;> simp [AV.flat1]
                rcases this with rfl | hf3
                · trivial
                · exact q5 a _ hf3 e3
              · rename_i hf2
                rw [hf2] at q4 ⊢
                simp only [bldTs] at q4 ⊢
                simp only [AV.isL] at q4
                obtain ⟨v', r', e2, e3, e4⟩ := q4
                cases e2
                generalize hbt : (bldT .bool d').1 = a at e3 ⊢
                have : a = .junk ∨ a.flat1 = true := by
                  rw [← hbt]; simp only [bldT]; split <;> simp [AV.flat1]
                rcases this with rfl | hf3
                · trivial
                · exact q5 a _ hf3 e3
              · rename_i hf2
                rw [hf2] at q4 ⊢
                simp only [bldTs] at q4 ⊢
                simp only [AV.isL] at q4
                obtain ⟨v', r', e2, e3, e4⟩ := q4
                cases e2
                generalize hbt : (bldT .str d').1 = a at e3 ⊢
                have : a = .junk ∨ a.flat1 = true := by
                  rw [← hbt]; simp only [bldT]; split <;> simp [AV.flat1]
                rcases this with rfl | hf3
                · trivial
                · exact q5 a _ hf3 e3
              · cases hfr
          | pan v =>
            simp only [contM] at hk
            simp only [Res.isE] at hE
            obtain ⟨TE, d', e1, hok, h', G2, q1, q2, q3, G1, q4, q5⟩ := fin (.panic [⟨v, false, false⟩]) [] [] rfl hk
            refine ⟨G2, ?_, q3, ?_⟩
            · simp only [e1, endM, q1, Option.getD_some]; exact q2
            · simp only [e1, endM, Res.isE]; exact hE
        · cases hs
      · cases hs
    · cases hs
  · cases hs

end
end Go.Proofs.Qx
