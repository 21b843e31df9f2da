/- The small machine does what the model does: loops, code, functions. -/
import Derived.Test.YtajbnfidcpfonaaDoorR4
namespace Go.Proofs.Rx
open Go Go.RowKit
set_option linter.unusedVariables false
set_option linter.unusedSimpArgs false

section
variable {P : Program} {w0 : World} {I0 : Nat → Nat → Prop} {gl : List (Nat × Nat)}
variable {α : Type} {GW : World → Prop} {Γ : List (Nat × Tells)} {r : α}

def Gh.cut (G : Gh) (m : Nat) : Gh := ⟨G.at_, m, G.imm⟩

theorem scrub1_is {G : Gh} {w : World} (m : Nat) {a : AV} {v : Value} (h : a.is G w v) : (scrub1 m a).is (G.cut m) w v := by
  cases a <;> simp only [scrub1]
  case ptr b o =>
    split
    · rename_i hb; simp only [AV.is] at h ⊢; exact ⟨hb, h.2⟩
    · trivial
  case sl b o n c =>
    split
    · rename_i hb; simp only [AV.is] at h ⊢; exact ⟨hb, h.2⟩
    · trivial
  case junk => trivial
  case agg => trivial
  case tup => trivial
  case fn => trivial
  all_goals (simp only [AV.is] at h ⊢; exact h)

theorem scrubL_is {G : Gh} {w : World} (m : Nat) : ∀ {l : List AV} {vs : List Value}, AV.isL G w l vs → AV.isL (G.cut m) w (l.map (scrub1 m)) vs
  | [], vs, h => by simpa [AV.isL] using h
  | a :: l, vs, h => by
    simp only [AV.isL, List.map_cons] at h ⊢
    obtain ⟨v, r, rfl, ha, hl⟩ := h
    exact ⟨v, r, rfl, scrub1_is m ha, scrubL_is m hl⟩

theorem scrub_is {G : Gh} {w : World} (m : Nat) {a : AV} {v : Value} (h : a.is G w v) : (scrub m a).is (G.cut m) w v := by
  cases a <;> simp only [scrub]
  case ptr b o =>
    split
    · rename_i hb; simp only [AV.is] at h ⊢; exact ⟨hb, h.2⟩
    · trivial
  case sl b o n c =>
    split
    · rename_i hb; simp only [AV.is] at h ⊢; exact ⟨hb, h.2⟩
    · trivial
  case junk => trivial
  case agg l =>
    simp only [AV.is] at h ⊢
    obtain ⟨c, rfl, hl⟩ := h
    exact ⟨c, rfl, scrubL_is m hl⟩
  case tup => trivial
  case fn => trivial
  all_goals (simp only [AV.is] at h ⊢; exact h)

theorem scrubs_is {G : Gh} {w : World} (m : Nat) : ∀ {l : List AV} {vs : List Value}, AV.isL G w l vs → AV.isL (G.cut m) w (l.map (scrub m)) vs
  | [], vs, h => by simpa [AV.isL] using h
  | a :: l, vs, h => by
    simp only [AV.isL, List.map_cons] at h ⊢
    obtain ⟨v, r, rfl, ha, hl⟩ := h
    exact ⟨v, r, rfl, scrub_is m ha, scrubs_is m hl⟩

theorem scrubFr_len (m : Nat) : ∀ (l0 l : Fr), (scrubFr m l0 l).length = l.length
  | _, [] => by cases ‹Fr› <;> rfl
  | [], b :: l => by simp only [scrubFr, List.length_cons]; rw [scrubFr_len m [] l]
  | a :: l0, b :: l => by simp only [scrubFr, List.length_cons]; rw [scrubFr_len m l0 l]

theorem scrubFr_get (m : Nat) : ∀ (l0 l : Fr) (t : Nat), (scrubFr m l0 l).getD t .junk = .junk ∨ (scrubFr m l0 l).getD t .junk = scrub m (l.getD t .junk)
  | l0, [], t => by cases l0 <;> exact .inl rfl
  | [], b :: l, 0 => .inl rfl
  | [], b :: l, t + 1 => by simpa [scrubFr] using scrubFr_get m [] l t
  | a :: l0, b :: l, 0 => by cases a <;> first | exact .inl rfl | exact .inr rfl
  | a :: l0, b :: l, t + 1 => by simpa [scrubFr] using scrubFr_get m l0 l t

theorem St.cut {G : Gh} {fr : Fr} {h : Hp} {a : Act} {w : World} (S : St w0 I0 gl G fr h a w) {m : Nat} (hm : m ≤ h.length) (hgl : ∀ g i, gl.lookup g = some i → i < m) (fr0 : Fr) :
    St w0 I0 gl (G.cut m) (scrubFr m fr0 fr) (scrubHp m h) a w := by
  refine ⟨by rw [scrubFr_len]; exact S.size, fun t => ?_, ⟨by simp [scrubHp, Gh.cut, hm], fun i b hi => ?_, fun i j hi hj e => ?_, S.heap.imm⟩, S.below, fun g i q => ⟨hgl g i q, (S.gl g i q).2⟩, S.defs, S.imm, S.old⟩
  · rcases scrubFr_get m fr0 fr t with q | q
    · rw [q]; trivial
    · rw [q]; exact scrub_is m (S.slot t)
  · unfold scrubHp at hi
    rw [List.getElem?_map, List.getElem?_take] at hi
    split at hi
    · rename_i him
      cases hb : h[i]? with
      | none => simp [hb] at hi
      | some b0 =>
        simp [hb] at hi
        subst hi
        obtain ⟨⟨c, hc, hl⟩, ho⟩ := S.heap.blk i b0 hb
        exact ⟨⟨c, hc, scrubs_is m hl⟩, ho⟩
    · simp at hi
  · have : m ≤ G.n := by rw [← S.heap.len]; exact hm
    exact S.heap.inj i j (Nat.lt_of_lt_of_le hi this) (Nat.lt_of_lt_of_le hj this) e

theorem St.drops {G : Gh} {h : Hp} {a : Act} {w : World} : ∀ (l : List Nat) (fr : Fr), St w0 I0 gl G fr h a w → St w0 I0 gl G (drops fr l) h a w
  | [], fr, S => S
  | t :: l, fr, S => by
    refine St.drops l _ ⟨by simpa using S.size, fun t' => ?_, S.heap, S.below, S.gl, S.defs, S.imm, S.old⟩
    rw [List.getD_eq_getElem?_getD, List.getElem?_set]
    by_cases e : t = t'
    · rw [if_pos e]; split <;> exact trivial
    · rw [if_neg e, ← List.getD_eq_getElem?_getD]; exact S.slot t'

theorem St.dropsR {G : Gh} {fr : Fr} {h : Hp} {a : Act} {w : World} (J : List (Nat × List Nat)) (id : Nat) (S : St w0 I0 gl G fr h a w) : St w0 I0 gl G (dropsR J id fr) h a w := by
  unfold Rx.dropsR
  split
  · exact S.drops _ _
  · exact S

theorem St.fixB {G : Gh} {fr : Fr} {h : Hp} {a : Act} {w : World} (J : List (Nat × List Nat)) {c : Operand} {b : Bool} (S : St w0 I0 gl G fr h a w) (hb : Rx.ev gl fr c = .bool b) : St w0 I0 gl G (fixB J fr c b) h a w := by
  unfold Rx.fixB
  split
  · split
    · exact S.drops _ _
    · rw [set_same (by simp) hb]; exact S
  · exact S

theorem loopA_sound {m : Nat} {fr0 : Fr} {c : Code} {step : Fr → Hp → (Exit → Fr → Hp → Option α) → Option α} (hgl : ∀ g i, gl.lookup g = some i → i < m)
    (hstep : ∀ (fr : Fr) (h : Hp) (K : Exit → Fr → Hp → Option α) (G : Gh) (a : Act) (w : World) (Q : Exit → Act → World → Prop), step fr h K = some r → St w0 I0 gl G fr h a w →
      (∀ e fr' h' G' a' w', K e fr' h' = some r → St w0 I0 gl G' fr' h' a' w' → Q e a' w') → c.wp P Q a w)
    {Q : Exit → Act → World → Prop} {K : Exit → Fr → Hp → Option α} (hk : ∀ e fr' h' G' a' w', K e fr' h' = some r → St w0 I0 gl G' fr' h' a' w' → Q e a' w') :
    ∀ (n : Nat) (fr : Fr) (h : Hp) (G : Gh) (a : Act) (w : World), loopA m fr0 step n fr h K = some r → St w0 I0 gl G fr h a w → Code.rounds P c Q n a w
  | 0, fr, h, G, a, w, hr, S => by simp [loopA] at hr
  | n + 1, fr, h, G, a, w, hr, S => by
    rw [rounds_succ]
    simp only [loopA] at hr
    refine hstep fr h _ G a w _ hr S fun e fr' h' G' a' w' he S' => ?_
    cases e with
    | normal =>
      simp only at he
      split at he
      · cases he
      · rename_i hm
        rw [forceL_eq, forceL_eq] at he
        exact loopA_sound hgl hstep hk n _ _ _ a' w' he (S'.cut (by omega) hgl fr0)
    | exit i => exact hk (.exit i) fr' h' G' a' w' he S'
    | goto i => exact hk (.goto i) fr' h' G' a' w' he S'
    | ret => exact hk .ret fr' h' G' a' w' he S'
    | panic c => exact hk (.panic c) fr' h' G' a' w' he S'
    | outgrown => exact hk .outgrown fr' h' G' a' w' he S'

theorem execA_sound (hm : P.follows .mixedOrders = true) (hΓ : AllOk P GW Γ) (stab : ∀ w', Below w0.heap.size w0 w' → GW w') (J : List (Nat × List Nat)) (n : Nat) :
    ∀ (c : Code) (fr : Fr) (h : Hp) (K : Exit → Fr → Hp → Option α) (G : Gh) (a : Act) (w : World) (Q : Exit → Act → World → Prop), execA P Γ gl J n c fr h K = some r → St w0 I0 gl G fr h a w →
      (∀ e fr' h' G' a' w', K e fr' h' = some r → St w0 I0 gl G' fr' h' a' w' → Q e a' w') → c.wp P Q a w := by
  intro c
  induction c with
  | skip =>
    intro fr h K G a w Q hr S hk
    exact wp_skip (hk _ _ _ _ _ _ hr S)
  | region id ops draw =>
    intro fr h K G a w Q hr S hk
    cases draw with
    | false =>
      refine wp_region ?_
      have := opsA_sound (Q := Q) hΓ stab (fun fr' h' G' a' w' q S' => by rw [forceL_eq] at q; exact hk .normal _ h' G' a' w' q (S'.dropsR J id)) ops.toList 0 fr h G a w rfl hr S
      rwa [Array.length_toList, ← List.range_eq_range'] at this
    | true =>
      simp only [execA] at hr
      split at hr
      · rename_i hord
        refine wp_region_any hm ?_
        obtain ⟨F, Hs, h0, h0', h1, h2⟩ := opsQ_chain (GW := GW) hΓ ops.toList 0 fr h rfl hr
        rw [Nat.zero_add, Array.length_toList, forceL_eq] at h1
        have hF : ∀ j o, ops.toList[j]? = some o → Goes P GW w0 gl ops.toList o (F j) (Hs j) (F (j + 1)) (Hs (j + 1)) := fun j o hj => h2 j o (Nat.zero_le _) hj
        have hb : Below w.heap.size w { w with drawn := w.drawn + 1 } := (Below.refl _ _).drew
        obtain ⟨H', hle⟩ := S.heap.below hb
        refine open_sound (I0 := I0) (w0 := w0) (gl := gl) stab hord hF (fun G a w S' => hk .normal _ _ G a w h1 (S'.dropsR J id)) ops.size (Array.replicate ops.size false) 0 G a _
          ⟨by rw [h0]; exact S.size, fun j o t hj ht hl => ?_, fun t _ => ?_, by rw [h0']; exact H', Nat.zero_le _, fun j o hj _ => ?_, fun j o hj hl => ?_, S.below.drew, S.gl, S.defs, S.imm, S.old, by simp⟩ ?_
        · rw [Array.getD_eq_getD_getElem?] at hl
          have : j < ops.size := by simpa using (List.getElem?_eq_some_iff.1 hj).1
          simp [this] at hl
        · rw [h0]; exact AV.is_mono hle _ _ (S.slot t)
        · have : j < ops.size := by simpa using (List.getElem?_eq_some_iff.1 hj).1
          rw [Array.getD_eq_getD_getElem?]
          simp [this]
        · rw [Array.getD_eq_getD_getElem?] at hl
          have : j < ops.size := by simpa using (List.getElem?_eq_some_iff.1 hj).1
          simp [this] at hl
        · simp [List.count_replicate]
      · cases hr
  | seq x y ihx ihy =>
    intro fr h K G a w Q hr S hk
    refine wp_seq (ihx fr h _ G a w _ hr S fun e fr' h' G' a' w' he S' => ?_)
    cases e with
    | normal => exact ihy fr' h' K G' a' w' Q he S' hk
    | exit i => exact hk (.exit i) fr' h' G' a' w' he S'
    | goto i => exact hk (.goto i) fr' h' G' a' w' he S'
    | ret => exact hk .ret fr' h' G' a' w' he S'
    | panic c => exact hk (.panic c) fr' h' G' a' w' he S'
    | outgrown => exact hk .outgrown fr' h' G' a' w' he S'
  | cond c x y ihx ihy =>
    intro fr h K G a w Q hr S hk
    simp only [execA] at hr
    split at hr
    · rename_i t hc
      have he := S.ev c
      rw [hc] at he
      simp only [AV.is] at he
      cases t with
      | true =>
        simp only [forceL_eq] at hr
        exact wp_cond_true he (ihx _ h K G a w Q hr (S.fixB J hc) hk)
      | false =>
        simp only [forceL_eq] at hr
        exact wp_cond_false he (ihy _ h K G a w Q hr (S.fixB J hc) hk)
    · cases hr
  | block id c ih =>
    intro fr h K G a w Q hr S hk
    refine wp_block (ih fr h _ G a w _ hr S fun e fr' h' G' a' w' he S' => ?_)
    cases e with
    | normal => exact hk .normal fr' h' G' a' w' he S'
    | exit i =>
      simp only at he
      simp only [Exit.inBlock]
      split at he
      · rename_i hi; rw [if_pos hi]; exact hk .normal fr' h' G' a' w' he S'
      · rename_i hi; rw [if_neg hi]; exact hk (.exit i) fr' h' G' a' w' he S'
    | goto i => exact hk (.goto i) fr' h' G' a' w' he S'
    | ret => exact hk .ret fr' h' G' a' w' he S'
    | panic c => exact hk (.panic c) fr' h' G' a' w' he S'
    | outgrown => exact hk .outgrown fr' h' G' a' w' he S'
  | loop c ih =>
    intro fr h K G a w Q hr S hk
    simp only [execA] at hr
    exact wp_loop_rounds n (loopA_sound (fun g i q => by rw [S.heap.len]; exact (S.gl g i q).1) (fun fr h K G a w Q q S' hk' => ih fr h K G a w Q q S' hk') hk n fr h G a w hr S)
  | exit i =>
    intro fr h K G a w Q hr S hk
    exact wp_exit (hk _ _ _ _ _ _ hr S)
  | label l =>
    intro fr h K G a w Q hr S hk
    exact wp_label (hk _ _ _ _ _ _ hr S)
  | ret =>
    intro fr h K G a w Q hr S hk
    exact wp_ret (hk _ _ _ _ _ _ hr S)
  | rangeFunc => intro fr h K G a w Q hr S hk; simp [execA] at hr
  | scope => intro fr h K G a w Q hr S hk; simp [execA] at hr
  | goto => intro fr h K G a w Q hr S hk; simp [execA] at hr
  | refuse => intro fr h K G a w Q hr S hk; simp [execA] at hr

def resV (tmps : Array Value) : ResultVar → Sem Value
  | .tmp t => pure (tmps.getD t undef)
  | .cell p t => do loadVar t (← asAddr (tmps.getD p undef))

theorem results_resV (fn : Func) (tmps : Array Value) : results fn tmps = (do let vs ← fn.results.mapM (resV tmps); pure (if h : vs.size = 1 then vs[0] else .tuple vs)) := by
  unfold results
  have : (fun (x : ResultVar) => (match x with | .tmp t => pure (tmps.getD t undef) | .cell a t => do loadVar t (← asAddr (tmps.getD a undef)) : Sem Value)) = resV tmps := by
    funext x; cases x <;> rfl
  rw [← this]
  rfl

theorem resA_sound {G : Gh} {fr : Fr} {h : Hp} {a : Act} {w : World} (S : St w0 I0 gl G fr h a w) : ∀ (rs : List ResultVar) (l : List AV), resA P fr h rs = some l →
    ∃ vs : List Value, (rs.mapM (resV a.tmps)).run P w = .ok vs w ∧ AV.isL G w l vs
  | [], l, hr => by simp only [resA] at hr; cases hr; exact ⟨[], by simp, by simp [AV.isL]⟩
  | .tmp t :: rs, l, hr => by
    simp only [resA, Option.map_eq_some_iff] at hr
    obtain ⟨l', hr, rfl⟩ := hr
    obtain ⟨vs, hvs, hl⟩ := resA_sound S rs l' hr
    exact ⟨a.tmps.getD t undef :: vs, by simp only [List.mapM_cons, resV, Sem.run_bind, Sem.run_pure, Result.andThen_ok, hvs], by simp only [AV.isL]; exact ⟨_, _, rfl, S.slot t, hl⟩⟩
  | .cell p t :: rs, l, hr => by
    simp only [resA] at hr
    split at hr
    · rename_i v l' hv hr'
      cases hr
      obtain ⟨vs, hvs, hl⟩ := resA_sound S rs l' hr'
      obtain ⟨u, hu, hk⟩ := run_loadA S.heap hv (S.slot p)
      refine ⟨u :: vs, ?_, by simp only [AV.isL]; exact ⟨_, _, rfl, hk, hl⟩⟩
      have hload' : (resV a.tmps (.cell p t)).run P w = .ok u w := by
        have hp := S.slot p
        unfold loadA at hv
        cases hq : fr.getD p .junk <;> rw [hq] at hv <;> simp only at hv <;> try (cases hv; done)
        rename_i b o
        rw [hq] at hp
        simp only [AV.is] at hp
        rw [hp.2] at hu
        simp only [resV, hp.2, asAddr, Sem.run_bind, Sem.run_pure, Result.andThen_ok]
        simpa [Instr.loadAt, Instr.sureAddr] using hu
      simp only [List.mapM_cons]
      rw [Sem.run_bind, hload']
      simp only [Result.andThen_ok, Sem.run_bind, hvs, Sem.run_pure]
    · cases hr

/-- What a function answers by the small machine it answers by the model. -/
theorem runA_sound (hm : P.follows .mixedOrders = true) (hΓ : AllOk P GW Γ) {f : FuncId} {fn : Func} (hf : P.funcs[f]? = some fn) {J : List (Nat × List Nat)} {n : Nat} {args : List AV} {h : Hp} {r : AV}
    (hr : runA P Γ gl J n fn args h = some r) {G : Gh} {w : World} {vs : Array Value} (stab : ∀ w', Below w.heap.size w w' → GW w') (H : HRep G w.heap.size h w)
    (hgl : ∀ g i, gl.lookup g = some i → i < G.n ∧ G.at_ i = g) (hargs : AV.isL G w args vs.toList) :
    Calls P f vs w fun e w' => ∃ G' v, e = .returned v ∧ r.is G' w' v ∧ Below w.heap.size w w' ∧ (∀ b o, G.imm b o → G'.imm b o) ∧ (∀ b o, b < w.heap.size → G'.imm b o → G.imm b o) ∧ (∀ b o, G'.imm b o → b < w'.heap.size) := by
  unfold runA at hr
  cases hb : fn.body with
  | none => simp [hb] at hr
  | some c =>
    simp only [hb, forceL_eq] at hr
    refine calls_of_wp hf hb ?_
    have hlen : vs.size = args.length := by have := isL_len hargs; simpa using this
    have S : St w G.imm gl G (args ++ List.replicate (fn.ntmps - args.length) .junk) h { tmps := vs ++ Array.replicate (fn.ntmps - vs.size) undef, defers := [] } w := by
      refine ⟨by simp [hlen], fun t => ?_, H, Below.refl _ _, hgl, rfl, fun _ _ q => q, fun _ _ _ q => q⟩
      show AV.is G w _ ((vs ++ Array.replicate (fn.ntmps - vs.size) undef).getD t undef)
      rw [List.getD_eq_getElem?_getD, Array.getD_eq_getD_getElem?, List.getElem?_append, Array.getElem?_append]
      by_cases q : t < args.length
      · rw [if_pos q, if_pos (by omega)]
        obtain ⟨v, hv, k⟩ := isL_get hargs t args[t] (List.getElem?_eq_getElem q)
        have hv' : vs[t]? = some v := by simpa using hv
        rw [List.getElem?_eq_getElem q, hv']; exact k
      · rw [if_neg q, if_neg (by omega)]
        have : ((List.replicate (fn.ntmps - args.length) AV.junk)[t - args.length]?).getD .junk = .junk := by
          rw [List.getElem?_replicate]; split <;> rfl
        rw [this]; trivial
    have stop : ∀ (fr' : Fr) (h' : Hp) (G' : Gh) (a' : Act) (w' : World), (resA P fr' h' fn.results.toList).map oneA = some r → St w G.imm gl G' fr' h' a' w' →
        a'.defers = [] ∧ ∃ v, (results fn a'.tmps).run P w' = .ok v w' ∧ ∃ G' u, Ending.returned v = .returned u ∧ r.is G' w' u ∧ Below w.heap.size w w' ∧ (∀ b o, G.imm b o → G'.imm b o) ∧ (∀ b o, b < w.heap.size → G'.imm b o → G.imm b o) ∧ (∀ b o, G'.imm b o → b < w'.heap.size) := by
      intro fr' h' G' a' w' hres S'
      refine ⟨S'.defs, ?_⟩
      rw [Option.map_eq_some_iff] at hres
      obtain ⟨l, hl, rfl⟩ := hres
      obtain ⟨us, hus, hisl⟩ := resA_sound S' _ l hl
      have hrun : (results fn a'.tmps).run P w' = .ok (if h : us.toArray.size = 1 then us.toArray[0] else .tuple us.toArray) w' := by
        rw [results_resV, Sem.run_bind]
        rw [← Array.toArray_toList (xs := fn.results), List.mapM_toArray, Sem.run_map, hus]
        rfl
      refine ⟨_, hrun, G', _, rfl, ?_, S'.below, S'.imm, S'.old, S'.heap.imm⟩
      have hlen := isL_len hisl
      match l, us, hlen, hisl with
      | [], [], _, _ => simp only [oneA, List.size_toArray, List.length_nil]; rw [dif_neg (by simp)]; simp only [AV.is]; exact ⟨_, rfl, by simp [AV.isL]⟩
      | [x], [u], _, hisl => 
        simp only [AV.isL] at hisl
        obtain ⟨v, r', e, hx, hr'⟩ := hisl
        cases e
        simpa [oneA] using hx
      | x :: y :: l, u :: u' :: us, _, hisl =>
        simp only [oneA]
        rw [dif_neg (by simp)]
        simp only [AV.is]
        exact ⟨_, rfl, hisl⟩
    refine execA_sound hm hΓ stab J n c _ h _ G _ w _ hr S fun e fr' h' G' a' w' he S' => ?_
    cases e with
    | normal => exact stop fr' h' G' a' w' he S'
    | ret => exact stop fr' h' G' a' w' he S'
    | exit i => cases he
    | goto i => cases he
    | panic c => cases he
    | outgrown => cases he

end
end Go.Proofs.Rx
