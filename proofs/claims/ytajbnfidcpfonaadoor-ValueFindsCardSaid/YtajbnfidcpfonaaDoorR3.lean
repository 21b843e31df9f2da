/- The small machine does what the model does: regions in both orders, loops, functions. -/
import Derived.Test.YtajbnfidcpfonaaDoorR2
namespace Go.Proofs.Rx
open Go Go.RowKit
set_option linter.unusedVariables false
set_option linter.unusedSimpArgs false

/-- The frame and the memory of a call that began in world w0 (what was written no more then: I0) are told by fr and h. -/
structure St (w0 : World) (I0 : Nat → Nat → Prop) (gl : List (Nat × Nat)) (G : Gh) (fr : Fr) (h : Hp) (a : Act) (w : World) : Prop where
  size : a.tmps.size = fr.length
  slot : ∀ t, (fr.getD t .junk).is G w (a.tmps.getD t undef)
  heap : HRep G w0.heap.size h w
  below : Below w0.heap.size w0 w
  gl : ∀ g i, gl.lookup g = some i → i < G.n ∧ G.at_ i = g
  defs : a.defers = []
  imm : ∀ b o, I0 b o → G.imm b o
  old : ∀ b o, b < w0.heap.size → G.imm b o → I0 b o

section
variable {P : Program} {w0 : World} {I0 : Nat → Nat → Prop} {gl : List (Nat × Nat)} {G : Gh} {fr : Fr} {h : Hp} {a : Act} {w : World}

theorem St.ev (S : St w0 I0 gl G fr h a w) : ∀ x : Operand, (ev gl fr x).is G w (a.eval x)
  | .tmp t => S.slot t
  | .const v => ofV_is G w v
  | .global g => by
    simp only [Rx.ev, Act.eval]
    cases hg : gl.lookup g with
    | none => simp [AV.is]
    | some i => simp only [AV.is]; exact ⟨(S.gl g i hg).1, by rw [(S.gl g i hg).2]⟩
  | .func f => by simp only [Rx.ev, Act.eval, AV.is]; exact ⟨#[], #[], rfl, rfl, rfl⟩

theorem slot_put {G : Gh} {w : World} {a : Act} {fr : Fr} (hs : a.tmps.size = fr.length) (hslot : ∀ t, (fr.getD t .junk).is G w (a.tmps.getD t undef)) (dst : Option Tmp) {av : AV} {v : Value} (hv : av.is G w v) :
    (a.put dst v).tmps.size = (putA fr dst av).length ∧ ∀ t, ((putA fr dst av).getD t .junk).is G w ((a.put dst v).tmps.getD t undef) := by
  cases dst with
  | none => exact ⟨hs, hslot⟩
  | some d =>
    refine ⟨by simp [Act.put, putA, hs], fun t => ?_⟩
    simp only [Act.put, putA]
    have := hslot t
    rw [List.getD_eq_getElem?_getD, List.getElem?_set]
    rw [Array.getD_eq_getD_getElem?, Array.getElem?_setIfInBounds]
    by_cases e : d = t
    · subst e
      by_cases q : d < fr.length
      · simp [q, hs]; exact hv
      · simp [q, hs]; exact trivial
    · simp only [e, if_false]
      rw [List.getD_eq_getElem?_getD, Array.getD_eq_getD_getElem?] at this
      exact this

theorem St.put (S : St w0 I0 gl G fr h a w) (dst : Option Tmp) {av : AV} {v : Value} (hv : av.is G w v) : St w0 I0 gl G (putA fr dst av) h (a.put dst v) w := by
  obtain ⟨h1, h2⟩ := slot_put S.size S.slot dst hv
  exact ⟨h1, h2, S.heap, S.below, S.gl, by cases dst <;> exact S.defs, S.imm, S.old⟩

theorem St.move (S : St w0 I0 gl G fr h a w) {G' : Gh} {h' : Hp} {w' : World} (hle : G.le w G' w') (H : HRep G' w0.heap.size h' w') (hb : Below w0.heap.size w0 w')
    (hold : ∀ b o, b < w0.heap.size → G'.imm b o → G.imm b o) : St w0 I0 gl G' fr h' a w' :=
  ⟨S.size, fun t => AV.is_mono hle _ _ (S.slot t), H, hb, fun g i q => ⟨Nat.lt_of_lt_of_le (S.gl g i q).1 hle.n, by rw [hle.at_ i (S.gl g i q).1]; exact (S.gl g i q).2⟩, S.defs,
    fun b o q => hle.imm b o (S.imm b o q), fun b o hb q => S.old b o hb (hold b o hb q)⟩

theorem St.after (S : St w0 I0 gl G fr h a w) {G' : Gh} {w' : World} (ha : After G w G' w') (hle : G.le w G' w') (H : HRep G' w0.heap.size h w') : St w0 I0 gl G' fr h a w' :=
  S.move hle H (S.below.trans (ha.below.mono S.below.size)) fun b o hb q => ha.old b o (Nat.lt_of_lt_of_le hb S.below.size) q

theorem below_setRow {B : Nat} {a w : World} (hb : Below B a w) {g : Nat} (hg : B ≤ g) (c : Array Value) : Below B a (w.setRow g c) :=
  hb.trans ⟨rfl, rfl, rfl, by simp [World.setRow], fun k hk => by simp only [World.setRow, Array.getElem?_modify]; rw [if_neg (by omega)]⟩

theorem zeroA_run {t : TypeId} {z : List AV} (hz : zeroA P t = some z) (G : Gh) (w w' : World) : ∃ v, (zeroValue t).run P w' = .ok v w' ∧ AV.isL G w z v.cells.toList := by
  unfold zeroA at hz
  cases hi : P.info? t with
  | none => simp [hi] at hz
  | some i =>
    cases hq : i.zero with
    | none => simp [hi, hq] at hz
    | some v =>
      simp [hi, hq] at hz
      subst hz
      exact ⟨v, by simp [zeroValue, typeInfo, hi, hq], ofCs_is G w v.cells.toList⟩

section
variable {α : Type} {GW : World → Prop} {Γ : List (Nat × Tells)} {r : α}

theorem St.alloc (S : St w0 I0 gl G fr h a w) {t : TypeId} {l : List AV} {c : Array Value} (hl : AV.isL G w l c.toList) (dst : Option Tmp) :
    St w0 I0 gl (G.push w.heap.size) (putA fr dst (.ptr h.length 0)) (h ++ [⟨t, l, true⟩]) (a.put dst (.pointer (some ⟨w.heap.size, 0, none⟩))) (w.alloc (.cells c t)) := by
  have hle := Gh.le_push S.heap w.heap.size (.cells c t)
  have H := S.heap.alloc (t := t) S.below.size hl
  have S' := S.move hle H (S.below.alloc S.below.size _) fun _ _ _ q => q
  refine S'.put dst ?_
  simp only [AV.is, Gh.push, S.heap.len]
  exact ⟨Nat.lt_succ_self _, by simp⟩

theorem storeA_run {w0 : World} {G : Gh} {h : Hp} {w : World} (H : HRep G w0.heap.size h w) (hbel : Below w0.heap.size w0 w) {t : TypeId} {p v : AV} {b : Nat} {k : Blk} (hs : storeA P h t p v = some (b, k)) {pv vv : Value} (hp : p.is G w pv) (hv : v.is G w vv) :
    ∃ w', (Instr.storeAt t pv vv).run P w = .ok () w' ∧ HRep G w0.heap.size (h.set b ⟨k.elem, k.cells, true⟩) w' ∧ G.le w G w' ∧ Below w0.heap.size w0 w' := by
  unfold storeA at hs
  cases p <;> simp only at hs <;> try (cases hs; done)
  case ptr b' o =>
    simp only [AV.is] at hp
    obtain ⟨hb, rfl⟩ := hp
    cases hk : h[b']? with
    | none => simp [hk] at hs
    | some k0 =>
      cases hn : szT P t with
      | none => simp [hk, hn] at hs
      | some n =>
        simp only [hk, hn] at hs
        split at hs
        · rename_i hc
          simp only [Bool.and_eq_true, beq_iff_eq, decide_eq_true_eq] at hc
          obtain ⟨⟨⟨hown, hkn⟩, hlen⟩, hfit⟩ := hc
          simp only [Option.some.injEq, Prod.mk.injEq] at hs
          obtain ⟨rfl, rfl⟩ := hs
          obtain ⟨⟨c, hc, hcl⟩, hB⟩ := H.blk b' k0 hk
          obtain ⟨hvl, hv1⟩ := cells_is hkn hv
          have l1 := isL_len hcl
          have l2 := isL_len hvl
          have hrun := run_storeCells_at P (G.at_ b') o k0.elem vv.cells.toList 0 c w hc (by simp at l1 l2 ⊢; omega) hv1
          simp only [Nat.add_zero] at hrun
          have hl2 : vv.cells.toList.length = n := by omega
          rw [hl2] at hrun
          have hsz : vv.cells.size = n := by simpa using hl2
          obtain ⟨H', hle⟩ := H.store hk hown (l := k0.cells.take o ++ v.cells ++ k0.cells.drop (o + n)) (c := (c.toList.take o ++ vv.cells.toList ++ c.toList.drop (o + n)).toArray)
            (by simpa using isL_append (isL_append (isL_take hcl o) hvl) (isL_drop hcl (o + n)))
          refine ⟨w.setRow (G.at_ b') (c.toList.take o ++ vv.cells.toList ++ c.toList.drop (o + n)).toArray, ?_, H', hle, below_setRow hbel (hB hown).1 _⟩
          simp only [Instr.storeAt, Instr.sureAddr, storeVar, Sem.run_bind, Sem.run_pure, Result.andThen_ok, run_szT hn w, hsz, ne_eq, not_true_eq_false, if_false]
          exact hrun
        · cases hs

theorem St.store (S : St w0 I0 gl G fr h a w) {t : TypeId} {p v : AV} {b : Nat} {k : Blk} (hs : storeA P h t p v = some (b, k)) {pv vv : Value} (hp : p.is G w pv) (hv : v.is G w vv) :
    ∃ w', (Instr.storeAt t pv vv).run P w = .ok () w' ∧ St w0 I0 gl G fr (h.set b ⟨k.elem, k.cells, true⟩) a w' := by
  obtain ⟨w', h1, h2, h3, h4⟩ := storeA_run S.heap S.below hs hp hv
  exact ⟨w', h1, S.move h3 h2 h4 fun _ _ _ q => q⟩

theorem range_flat (zs : List Value) (hz : 0 < zs.length) : ∀ n, (List.range (n * zs.length)).map (fun i => zs[i % zs.length]!) = (List.replicate n zs).flatten
  | 0 => by simp
  | n + 1 => by
    rw [Nat.succ_mul, List.range_add, List.map_append, range_flat zs hz n, List.replicate_succ', List.flatten_append, List.flatten_singleton]
    congr 1
    rw [List.map_map]
    apply List.ext_getElem
    · simp
    · intro i h1 h2
      have hi : i < zs.length := by simpa using h2
      simp [Nat.mul_add_mod_self_right, Nat.mod_eq_of_lt hi, hi]

theorem flat_isL {G : Gh} {w : World} {l : List AV} {vs : List Value} (h : AV.isL G w l vs) : ∀ n, AV.isL G w (List.replicate n l).flatten (List.replicate n vs).flatten
  | 0 => by simp [AV.isL]
  | n + 1 => by simp only [List.replicate_succ, List.flatten_cons]; exact isL_append h (flat_isL h n)

theorem run_rowA {G : Gh} {w : World} {t : TypeId} {len : Nat} {parts : List (Nat × AV)} {el : TypeId} {l : List AV} (hr : rowA P t len parts = some (el, l)) {vparts : Array (Nat × Value)} (hi : vparts.toList.map (·.1) = parts.map (·.1))
    (hp : AV.isL G w (parts.map (·.2)) (vparts.toList.map (·.2))) (w' : World) : ∃ c : Array Value, (Instr.buildSlice t len vparts).run P w' = .ok (.slice (some ⟨w'.heap.size, 0, none⟩) len len) (w'.alloc (.cells c el)) ∧ AV.isL G w l c.toList := by
  unfold rowA at hr
  cases hu : P.underlying t with
  | none => simp [hu] at hr
  | some d =>
    rw [hu] at hr
    cases d <;> try (simp at hr; done)
    rename_i e
    simp only at hr
    cases hie : P.info? e with
    | none => simp [hie] at hr
    | some ie =>
      cases hz : ie.zero with
      | none => simp [hie, hz] at hr
      | some z =>
        simp only [hie, hz] at hr
        split at hr
        · rename_i hc
          obtain ⟨hsz, hpos, hbig⟩ := hc
          simp only [Option.map_eq_some_iff, Prod.mk.injEq] at hr
          obtain ⟨l', hf, rfl, rfl⟩ := hr
          have hzl : z.cells.toList.length = ie.size := by simp [hsz]
          have hbase : ∀ zero : Array Value, (0 < len → zero = z.cells) → ((Array.range (len * ie.size)).map (fun i => zero[i % zero.size]!)).toList = (List.replicate len z.cells.toList).flatten := fun zero hzero => by
            by_cases h0 : len = 0
            · subst h0; simp
            · rw [hzero (by omega), ← range_flat z.cells.toList (by omega) len]
              simp [hsz]
              intro a _
              rw [getElem!_def]
              cases z.cells[a % z.cells.size]? <;> rfl
          obtain ⟨rs, hrs, k⟩ := fill_is (G := G) (w := w) (place' := fun i => some (i * ie.size, ie.size)) (fun _ => rfl) parts vparts.toList _ ((List.replicate len z.cells.toList).flatten.toArray) l' hi hp (by simpa using flat_isL (ofCs_is G w z.cells.toList) len) hf
          refine ⟨rs, ?_, k⟩
          have hsize : (sizeOf e).run P w' = .ok ie.size w' := by simp [sizeOf, typeInfo, hie]
          by_cases h0 : len * ie.size = 0
          · have hl0 : len = 0 := by
              rcases Nat.eq_zero_or_pos len with q | q
              · exact q
              · exact absurd h0 (Nat.ne_of_gt (Nat.mul_pos q hpos))
            subst hl0
            have hrs' : Instr.fill (fun i => some (i * ie.size, ie.size)) #[] vparts.toList = some rs := by simpa using hrs
            simp [Instr.buildSlice, run_underlying hu, hsize, newRow]
            rw [show Array.map (fun _ => (default : Value)) (Array.range 0) = #[] from by apply Array.ext'; simp, hrs']
            simp
          · have hb := hbase z.cells (fun _ => rfl)
            have hb' : (Array.range (len * ie.size)).map (fun i => z.cells[i % z.cells.size]!) = (List.replicate len z.cells.toList).flatten.toArray := by apply Array.ext'; rw [hb]
            have hzero : (zeroValue e).run P w' = .ok z w' := by simp [zeroValue, typeInfo, hie, hz]
            simp only [Instr.buildSlice, Sem.run_bind, run_underlying hu, Result.andThen_ok, hsize, gt_iff_lt, Nat.not_lt.2 hbig, if_false, h0, hzero, Sem.run_pure, hb', hrs, newRow, run_newObj, World.alloc_eq]
        · cases hr

theorem doA_sound (hΓ : AllOk P GW Γ) (stab : ∀ w', Below w0.heap.size w0 w' → GW w') (S : St w0 I0 gl G fr h a w) {o : Oper} {k : Fr → Hp → Option α} (hr : doA P Γ gl fr h o k = some r) {next : Act → World → Prop} {Q : Exit → Act → World → Prop}
    (hk : ∀ fr' h' G' a' w', k fr' h' = some r → St w0 I0 gl G' fr' h' a' w' → next a' w') : o.wp P a w next Q := by
  unfold doA at hr
  split at hr
  · rename_i t ho
    split at hr
    · rename_i z hz
      rw [forceC_eq, forceL_eq, forceL_eq] at hr
      obtain ⟨v, hv, hl⟩ := zeroA_run hz G w w
      unfold Oper.wp
      have hrun : (execOp a.eval o).run P w = .ok (.value (.pointer (some ⟨w.heap.size, 0, none⟩))) (w.alloc (.cells v.cells t)) := by
        simp [execOp, ho, Instr.alloc, hv, newVar, newRow]
      rw [hrun]
      exact hk _ _ _ _ _ hr (S.alloc hl o.dst)
    · cases hr
  · rename_i t x ho
    split at hr
    · rename_i hkn
      rw [forceC_eq, forceL_eq, forceL_eq] at hr
      obtain ⟨hl, _⟩ := cells_is hkn (S.ev x)
      unfold Oper.wp
      have hrun : (execOp a.eval o).run P w = .ok (.value (.pointer (some ⟨w.heap.size, 0, none⟩))) (w.alloc (.cells (a.eval x).cells t)) := by
        simp [execOp, ho, Instr.box, newVar, newRow]
      rw [hrun]
      exact hk _ _ _ _ _ hr (S.alloc hl o.dst)
    · cases hr
  · rename_i t len parts ho
    split at hr
    · rename_i el l hrow
      rw [forceC_eq, forceL_eq, forceL_eq] at hr
      have hp : AV.isL G w ((parts.toList.map fun p => (p.1, ev gl fr p.2)).map (·.2)) ((parts.map fun (p : Nat × Operand) => (p.1, a.eval p.2)).toList.map (·.2)) := by
        have := evs_isL (e := ev gl fr) (G := G) (w := w) (ρ := a.eval) (parts.toList.map (·.2)) (fun x _ => S.ev x)
        simpa [List.map_map, Function.comp_def] using this
      obtain ⟨c, hrun, hl⟩ := run_rowA (P := P) hrow (vparts := parts.map fun (p : Nat × Operand) => (p.1, a.eval p.2)) (by simp [List.map_map, Function.comp_def]) hp w
      unfold Oper.wp
      have e1 : execOp a.eval o = (do pure (.value (← Instr.buildSlice t len (parts.map fun (p : Nat × Operand) => (p.1, a.eval p.2))))) := by simp only [execOp, ho]
      rw [e1, Sem.run_bind, hrun]
      have hle := Gh.le_push S.heap w.heap.size (.cells c el)
      have H := S.heap.alloc (t := el) S.below.size hl
      have S' := S.move hle H (S.below.alloc S.below.size _) fun _ _ _ q => q
      refine hk _ _ _ _ _ hr (S'.put o.dst (av := .sl h.length 0 len len) ?_)
      simp only [AV.is, Gh.push, S.heap.len]
      exact ⟨Nat.lt_succ_self _, by simp⟩
    · cases hr
  · rename_i t p x ho
    split at hr
    · rename_i b c hs
      rw [forceC_eq, forceL_eq, forceL_eq] at hr
      obtain ⟨w', hw, S'⟩ := S.store hs (S.ev p) (S.ev x)
      unfold Oper.wp
      have hrun : (execOp a.eval o).run P w = .ok .skip w' := by simp [execOp, ho, hw]
      rw [hrun]
      exact hk _ _ _ _ _ hr (S'.put o.dst trivial)
    · cases hr
  · rename_i op _ _ _ _
    obtain ⟨av, hkv, hq⟩ := quiet_sound (GW := GW) hΓ hr
    rw [headK_eq, forceL_eq] at hkv
    refine hq o rfl w0.heap.size G w a next Q h (fun _ => Compat.refl h) S.heap (stab w S.below) (fun x _ => S.ev x) fun G' v w' H hle ha hv => ?_
    exact hk _ _ _ _ _ hkv ((S.after ha hle H).put o.dst hv)

/-! ### guards -/
theorem set_same {fr : Fr} {t : Nat} {v : AV} (hv : v ≠ .junk) (h : fr.getD t .junk = v) : fr.set t v = fr := by
  apply List.ext_getElem?
  intro i
  rw [List.getElem?_set]
  by_cases e : t = i
  · subst e
    by_cases q : t < fr.length
    · rw [if_pos rfl, if_pos q]
      rw [List.getD_eq_getElem?_getD, List.getElem?_eq_getElem q] at h
      simp at h
      rw [List.getElem?_eq_getElem q, h]
    · rw [List.getD_eq_getElem?_getD, List.getElem?_eq_none (by omega)] at h
      exact absurd h.symm hv
  · rw [if_neg e]

/-- What a guard says, of a frame. -/
def Wants (ops : List Oper) (o : Oper) (fr : Fr) (b : Bool) : Prop :=
  (o.guard = none ∧ b = true) ∨ (∃ j want t c, o.guard = some (j, want) ∧ (ops[j]?).bind (·.dst) = some t ∧ fr.getD t .junk = .bool c ∧ b = (c == want)) ∨
    (∃ j want t l, o.guard = some (j, want) ∧ (ops[j]?).bind (·.dst) = some t ∧ fr.getD t .junk = .tup l ∧ b = false)

theorem guardA_sound {ops : List Oper} {o : Oper} {yes no : Fr → Option α} (hr : guardA ops fr o yes no = some r) :
    (Wants ops o fr true ∧ yes fr = some r) ∨ (Wants ops o fr false ∧ no fr = some r) := by
  unfold guardA at hr
  split at hr
  · rename_i hg; exact .inl ⟨.inl ⟨hg, rfl⟩, hr⟩
  · rename_i j want hg
    split at hr
    · cases hr
    · rename_i t ht
      split at hr
      · rename_i b hb
        cases b
        · simp only [forceL_eq] at hr
          rw [set_same (by simp) hb] at hr
          cases want
          · exact .inl ⟨.inr (.inl ⟨j, false, t, false, hg, ht, hb, rfl⟩), hr⟩
          · exact .inr ⟨.inr (.inl ⟨j, true, t, false, hg, ht, hb, rfl⟩), hr⟩
        · simp only [forceL_eq] at hr
          rw [set_same (by simp) hb] at hr
          cases want
          · exact .inr ⟨.inr (.inl ⟨j, false, t, true, hg, ht, hb, rfl⟩), hr⟩
          · exact .inl ⟨.inr (.inl ⟨j, true, t, true, hg, ht, hb, rfl⟩), hr⟩
      · rename_i l hb
        exact .inr ⟨.inr (.inr ⟨j, want, t, l, hg, ht, hb, rfl⟩), hr⟩
      · cases hr

theorem bool_slot {G : Gh} {w : World} {tmps : Array Value} {t : Nat} {b : Bool} (h : (AV.bool b).is G w (tmps.getD t undef)) : tmps[t]? = some (.bool b) := by
  simp only [AV.is] at h
  rw [Array.getD_eq_getD_getElem?] at h
  cases q : tmps[t]? with
  | none => rw [q] at h; simp [undef] at h
  | some v => rw [q] at h; simp at h; rw [h]

/-- .. and of the frame that it tells of, as far as the guard's place goes. -/
theorem wanted_of {ops : Array Oper} {o : Oper} {b : Bool} (hw : Wants ops.toList o fr b) {tmps : Array Value} (hs : ∀ j want t, o.guard = some (j, want) → (ops.toList[j]?).bind (·.dst) = some t → (fr.getD t .junk).is G w (tmps.getD t undef)) :
    Region.wanted o (yielded ops tmps) = b := by
  unfold Region.wanted
  rcases hw with ⟨hg, rfl⟩ | ⟨j, want, t, c, hg, ht, hc, rfl⟩ | ⟨j, want, t, l, hg, ht, hc, rfl⟩
  · rw [hg]
  · rw [hg]
    have := hs j want t hg ht
    rw [hc] at this
    have e := bool_slot this
    have ht' : (ops[j]?).bind (·.dst) = some t := by simpa using ht
    simp only [yielded, ht', Option.bind_some, e]
    cases c <;> cases want <;> rfl
  · rw [hg]
    have := hs j want t hg ht
    rw [hc] at this
    simp only [AV.is] at this
    obtain ⟨a, ha, _⟩ := this
    have ht' : (ops[j]?).bind (·.dst) = some t := by simpa using ht
    rw [Array.getD_eq_getD_getElem?] at ha
    simp only [yielded, ht', Option.bind_some]
    cases q : tmps[t]? with
    | none => rfl
    | some v =>
      rw [q] at ha
      simp only [Option.getD_some] at ha
      subst ha
      rfl

theorem opsA_sound (hΓ : AllOk P GW Γ) (stab : ∀ w', Below w0.heap.size w0 w' → GW w') {ops : Array Oper} {Q : Exit → Act → World → Prop} {k : Fr → Hp → Option α}
    (hk : ∀ fr' h' G' a' w', k fr' h' = some r → St w0 I0 gl G' fr' h' a' w' → Q .normal a' w') :
    ∀ (rest : List Oper) (i : Nat) (fr : Fr) (h : Hp) (G : Gh) (a : Act) (w : World), ops.toList.drop i = rest → opsA P Γ gl ops.toList rest fr h k = some r → St w0 I0 gl G fr h a w →
      wpOps P ops Q (List.range' i rest.length) a w
  | [], i, fr, h, G, a, w, hd, hr, S => by
    simp only [opsA] at hr
    simp only [List.length_nil, List.range'_zero, wpOps]
    exact hk _ _ _ _ _ hr S
  | o :: rest, i, fr, h, G, a, w, hd, hr, S => by
    have hi : ops[i]? = some o := by
      have : (ops.toList.drop i)[0]? = some o := by rw [hd]; rfl
      rw [List.getElem?_drop] at this
      simpa using this
    have hd' : ops.toList.drop (i + 1) = rest := by
      have e := congrArg (List.drop 1) hd
      rwa [List.drop_drop, List.drop_one, List.tail_cons] at e
    simp only [List.length_cons, List.range'_succ, wpOps, hi]
    simp only [opsA] at hr
    rcases guardA_sound hr with ⟨hw, hr⟩ | ⟨hw, hr⟩
    · rw [wanted_of hw fun j want t _ _ => S.slot t, if_pos rfl]
      refine .inl (doA_sound hΓ stab S hr fun fr' h' G' a' w' hk' S' => ?_)
      exact opsA_sound hΓ stab hk rest (i + 1) fr' h' G' a' w' hd' hk' S'
    · rw [wanted_of hw fun j want t _ _ => S.slot t, if_neg (by simp)]
      rw [forceL_eq] at hr
      exact opsA_sound hΓ stab hk rest (i + 1) _ h G _ w hd' hr (S.put o.dst (by simp only [AV.is]; exact ⟨#[], rfl, rfl⟩))

/-! ### a region whose order is open -/
/-- It acts: from that memory to the next. -/
def AOk (P : Program) (w0 : World) (o : Oper) (e : Operand → AV) (h h' : Hp) (av : AV) : Prop :=
  ∀ (G : Gh) (w : World) (a : Act) (next : Act → World → Prop) (Q : Exit → Act → World → Prop), HRep G w0.heap.size h w → Below w0.heap.size w0 w → (∀ x ∈ o.op.operands, (e x).is G w (a.eval x)) →
    (∀ (G' : Gh) (v : Value) (w' : World), HRep G' w0.heap.size h' w' → G.le w G' w' → Below w0.heap.size w0 w' → (∀ b x, b < w0.heap.size → G'.imm b x → G.imm b x) → av.is G' w' v → next (a.put o.dst v) w') → o.wp P a w next Q

/-- One operation of it, from a frame and a memory to the next. -/
def Goes (P : Program) (GW : World → Prop) (w0 : World) (gl : List (Nat × Nat)) (ops : List Oper) (o : Oper) (f : Fr) (h : Hp) (f' : Fr) (h' : Hp) : Prop :=
  ∃ av, f' = putA f o.dst av ∧
    ((Wants ops o f true ∧ acts o.op = false ∧ h' = h ∧ QOk P GW h o (ev gl f) av) ∨ (Wants ops o f false ∧ h' = h ∧ av = .tup []) ∨
     (Wants ops o f true ∧ acts o.op = true ∧ h.length ≤ h'.length ∧ (writes o.op = false → Compat h h') ∧ AOk P w0 o (ev gl f) h h' av))

theorem compat_push (h : Hp) (b : Blk) : Compat h (h ++ [b]) := fun i _ hi => by rw [List.getElem?_append_left hi]

theorem acts_sound {fr : Fr} {h : Hp} {o : Oper} {k : Fr → Hp → Option α} (hm : acts o.op = true) (hr : doA P Γ gl fr h o k = some r) :
    ∃ h' av, k (putA fr o.dst av) h' = some r ∧ h.length ≤ h'.length ∧ (writes o.op = false → Compat h h') ∧ AOk P w0 o (ev gl fr) h h' av := by
  unfold doA at hr
  split at hr
  · rename_i t ho
    split at hr
    · rename_i z hz
      rw [forceC_eq, forceL_eq, forceL_eq] at hr
      refine ⟨_, _, hr, by simp, fun _ => compat_push _ _, fun G w a next Q H hb hop hk => ?_⟩
      obtain ⟨v, hv, hl⟩ := zeroA_run hz G w w
      unfold Oper.wp
      have hrun : (execOp a.eval o).run P w = .ok (.value (.pointer (some ⟨w.heap.size, 0, none⟩))) (w.alloc (.cells v.cells t)) := by
        simp [execOp, ho, Instr.alloc, hv, newVar, newRow]
      rw [hrun]
      exact hk _ _ _ (H.alloc (t := t) hb.size hl) (Gh.le_push H w.heap.size _) (hb.alloc hb.size _) (fun _ _ _ q => q) (by simp only [AV.is, Gh.push, H.len]; exact ⟨Nat.lt_succ_self _, by simp⟩)
    · cases hr
  · rename_i t x ho
    split at hr
    · rename_i hkn
      rw [forceC_eq, forceL_eq, forceL_eq] at hr
      refine ⟨_, _, hr, by simp, fun _ => compat_push _ _, fun G w a next Q H hb hop hk => ?_⟩
      obtain ⟨hl, _⟩ := cells_is hkn (hop x (by simp [ho, Op.operands]))
      unfold Oper.wp
      have hrun : (execOp a.eval o).run P w = .ok (.value (.pointer (some ⟨w.heap.size, 0, none⟩))) (w.alloc (.cells (a.eval x).cells t)) := by
        simp [execOp, ho, Instr.box, newVar, newRow]
      rw [hrun]
      exact hk _ _ _ (H.alloc (t := t) hb.size hl) (Gh.le_push H w.heap.size _) (hb.alloc hb.size _) (fun _ _ _ q => q) (by simp only [AV.is, Gh.push, H.len]; exact ⟨Nat.lt_succ_self _, by simp⟩)
    · cases hr
  · rename_i t len parts ho
    split at hr
    · rename_i el l hrow
      rw [forceC_eq, forceL_eq, forceL_eq] at hr
      refine ⟨_, _, hr, by simp, fun _ => compat_push _ _, fun G w a next Q H hb hop hk => ?_⟩
      have hp : AV.isL G w ((parts.toList.map fun p => (p.1, ev gl fr p.2)).map (·.2)) ((parts.map fun (p : Nat × Operand) => (p.1, a.eval p.2)).toList.map (·.2)) := by
        have := evs_isL (e := ev gl fr) (G := G) (w := w) (ρ := a.eval) (parts.toList.map (·.2)) (fun x hx => hop x (by simpa [ho, Op.operands] using hx))
        simpa [List.map_map, Function.comp_def] using this
      obtain ⟨c, hrun, hl⟩ := run_rowA (P := P) hrow (vparts := parts.map fun (p : Nat × Operand) => (p.1, a.eval p.2)) (by simp [List.map_map, Function.comp_def]) hp w
      unfold Oper.wp
      have e1 : execOp a.eval o = (do pure (.value (← Instr.buildSlice t len (parts.map fun (p : Nat × Operand) => (p.1, a.eval p.2))))) := by simp only [execOp, ho]
      rw [e1, Sem.run_bind, hrun]
      exact hk _ _ _ (H.alloc (t := el) hb.size hl) (Gh.le_push H w.heap.size _) (hb.alloc hb.size _) (fun _ _ _ q => q) (by simp only [AV.is, Gh.push, H.len]; exact ⟨Nat.lt_succ_self _, by simp⟩)
    · cases hr
  · rename_i t p x ho
    split at hr
    · rename_i b c hs
      rw [forceC_eq, forceL_eq, forceL_eq] at hr
      refine ⟨_, _, hr, by simp, (fun hw => by rw [ho] at hw; cases hw), fun G w a next Q H hb hop hk => ?_⟩
      obtain ⟨w', hw, H', hle, hb'⟩ := storeA_run H hb hs (hop p (by simp [ho, Op.operands])) (hop x (by simp [ho, Op.operands]))
      unfold Oper.wp
      have hrun : (execOp a.eval o).run P w = .ok .skip w' := by simp [execOp, ho, hw]
      rw [hrun]
      exact hk _ _ _ H' hle hb' (fun _ _ _ q => q) trivial
    · cases hr
  · rename_i op h1 h2 h3 h4
    unfold acts at hm
    split at hm
    · rename_i t ht; exact absurd ht (by intro e; exact h1 t e)
    · rename_i t x ht; exact absurd ht (by intro e; exact h2 t x e)
    · rename_i t n ps ht; exact absurd ht (by intro e; exact h3 t n ps e)
    · rename_i t p x ht; exact absurd ht (by intro e; exact h4 t p x e)
    · cases hm

theorem opsQ_chain (hΓ : AllOk P GW Γ) {ops : List Oper} {k : Fr → Hp → Option α} : ∀ (rest : List Oper) (i : Nat) (fr : Fr) (h : Hp), ops.drop i = rest → opsQ P Γ gl ops rest fr h k = some r →
    ∃ (F : Nat → Fr) (H : Nat → Hp), F i = fr ∧ H i = h ∧ k (F (i + rest.length)) (H (i + rest.length)) = some r ∧ ∀ j o, i ≤ j → ops[j]? = some o → Goes P GW w0 gl ops o (F j) (H j) (F (j + 1)) (H (j + 1))
  | [], i, fr, h, hd, hr => by
    simp only [opsQ] at hr
    refine ⟨fun _ => fr, fun _ => h, rfl, rfl, hr, fun j o hj ho => ?_⟩
    have : ops.length ≤ i := by simpa using hd
    rw [List.getElem?_eq_none (by omega)] at ho; cases ho
  | o :: rest, i, fr, h, hd, hr => by
    have hi : ops[i]? = some o := by
      have : (ops.drop i)[0]? = some o := by rw [hd]; rfl
      rw [List.getElem?_drop] at this
      simpa using this
    have hd' : ops.drop (i + 1) = rest := by
      have e := congrArg (List.drop 1) hd
      rwa [List.drop_drop, List.drop_one, List.tail_cons] at e
    have step : ∀ (f' : Fr) (h' : Hp), Goes P GW w0 gl ops o fr h f' h' → opsQ P Γ gl ops rest f' h' k = some r →
        ∃ (F : Nat → Fr) (H : Nat → Hp), F i = fr ∧ H i = h ∧ k (F (i + (o :: rest).length)) (H (i + (o :: rest).length)) = some r ∧
          ∀ j o, i ≤ j → ops[j]? = some o → Goes P GW w0 gl ops o (F j) (H j) (F (j + 1)) (H (j + 1)) := fun f' h' hgo hr' => by
      obtain ⟨F, H, h1, h1', h2, h3⟩ := opsQ_chain hΓ rest (i + 1) f' h' hd' hr'
      refine ⟨fun j => if j = i then fr else F j, fun j => if j = i then h else H j, by simp, by simp, ?_, fun j o' hj ho => ?_⟩
      · simp only [List.length_cons]
        rw [if_neg (by omega), if_neg (by omega), show i + (rest.length + 1) = i + 1 + rest.length by omega]
        exact h2
      · by_cases e : j = i
        · subst e
          rw [hi] at ho; cases ho
          simp only [if_true]
          rw [if_neg (by omega), if_neg (by omega), h1, h1']
          exact hgo
        · simp only [if_neg e]
          rw [if_neg (by omega), if_neg (by omega)]
          exact h3 j o' (by omega) ho
    simp only [opsQ] at hr
    rcases guardA_sound hr with ⟨hw, hr⟩ | ⟨hw, hr⟩
    · cases hmk : acts o.op with
      | true =>
        rw [hmk] at hr
        obtain ⟨h', av, hkv, hlen, hcp, hA⟩ := acts_sound (w0 := w0) hmk hr
        exact step _ _ ⟨av, rfl, .inr (.inr ⟨hw, hmk, hlen, hcp, hA⟩)⟩ hkv
      | false =>
        rw [hmk] at hr
        obtain ⟨av, hkv, hq⟩ := quiet_sound (GW := GW) hΓ hr
        rw [headK_eq, forceL_eq] at hkv
        exact step _ _ ⟨av, rfl, .inl ⟨hw, hmk, rfl, hq o rfl⟩⟩ hkv
    · rw [forceL_eq] at hr
      exact step _ _ ⟨.tup [], rfl, .inr (.inl ⟨hw, rfl, rfl⟩)⟩ hr

end
end
end Go.Proofs.Rx
