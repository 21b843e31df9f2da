/- The small machine does what the model does: a region whose order is open. -/
import Derived.Test.YtajbnfidcpfonaaDoorR3
namespace Go.Proofs.Rx
open Go Go.RowKit
set_option linter.unusedVariables false
set_option linter.unusedSimpArgs false

section
variable {P : Program} {w0 : World} {I0 : Nat → Nat → Prop} {gl : List (Nat × Nat)} {G : Gh} {fr : Fr} {h : Hp} {a : Act} {w : World}
variable {α : Type} {GW : World → Prop} {Γ : List (Nat × Tells)} {r : α}

/-- What 'orderly' says. -/
theorem orderly_edge {ops : List Oper} (ho : orderly ops = true) {i : Nat} {o : Oper} (hi : ops[i]? = some o) {e : Edge} (he : e ∈ o.after.toList) (hb : Region.binds .any e = true) : e.on < i := by
  unfold orderly at ho
  rw [List.all_eq_true] at ho
  have hm : (o, i) ∈ ops.zipIdx := by
    rw [List.mem_iff_getElem?]; exact ⟨i, by simp [List.getElem?_zipIdx, hi]⟩
  have := ho _ hm
  simp only [Bool.and_eq_true, List.all_eq_true] at this
  have := this.1.1 e he
  simpa [hb] using this

theorem orderly_acts {ops : List Oper} (ho : orderly ops = true) {i j : Nat} {o p : Oper} (hi : ops[i]? = some o) (hj : ops[j]? = some p)
    (h : (acts o.op = true ∧ acts p.op = true) ∨ (readsM o.op = true ∧ writes p.op = true) ∨ (writes o.op = true ∧ readsM p.op = true)) (hlt : j < i) :
    ∃ e ∈ o.after.toList, e.on = j ∧ Region.binds .any e = true := by
  unfold orderly at ho
  rw [List.all_eq_true] at ho
  have hm : (o, i) ∈ ops.zipIdx := by
    rw [List.mem_iff_getElem?]; exact ⟨i, by simp [List.getElem?_zipIdx, hi]⟩
  have hm2 : (p, j) ∈ ops.zipIdx := by
    rw [List.mem_iff_getElem?]; exact ⟨j, by simp [List.getElem?_zipIdx, hj]⟩
  have := ho _ hm
  simp only [Bool.and_eq_true, List.all_eq_true] at this
  have := this.1.2 _ hm2
  have hcond : (acts o.op && acts p.op || readsM o.op && writes p.op || writes o.op && readsM p.op) = true := by
    rcases h with ⟨a, b⟩ | ⟨a, b⟩ | ⟨a, b⟩ <;> simp [a, b]
  simp only [hcond, Bool.not_true, Bool.false_or, Bool.or_eq_true, decide_eq_true_eq, List.any_eq_true, Bool.and_eq_true, beq_iff_eq] at this
  rcases this with q | q
  · omega
  · exact q

theorem orderly_dst {ops : List Oper} (ho : orderly ops = true) {i j : Nat} {o p : Oper} (hi : ops[i]? = some o) (hj : ops[j]? = some p) {t : Tmp} (ht : p.dst = some t) :
    (i = j ∨ o.dst ≠ some t) ∧ (t ∈ looks ops o → j < i ∧ ∃ e ∈ o.after.toList, e.on = j ∧ Region.binds .any e = true) := by
  unfold orderly at ho
  rw [List.all_eq_true] at ho
  have hm : (o, i) ∈ ops.zipIdx := by
    rw [List.mem_iff_getElem?]; exact ⟨i, by simp [List.getElem?_zipIdx, hi]⟩
  have hm2 : (p, j) ∈ ops.zipIdx := by
    rw [List.mem_iff_getElem?]; exact ⟨j, by simp [List.getElem?_zipIdx, hj]⟩
  have := ho _ hm
  simp only [Bool.and_eq_true, List.all_eq_true] at this
  have := this.2 _ hm2
  simp only [ht, Bool.and_eq_true, Bool.or_eq_true, beq_iff_eq, bne_iff_ne, ne_eq, Bool.not_eq_true', decide_eq_true_eq, List.any_eq_true] at this
  obtain ⟨h1, h2⟩ := this
  refine ⟨h1, fun hl => ?_⟩
  rcases h2 with h2 | h2
  · rw [List.contains_eq_any_beq] at h2
    rw [List.any_eq_false] at h2
    exact absurd (BEq.rfl (a := t)) (h2 t hl)
  · exact h2

theorem putA_len (f : Fr) (d : Option Tmp) (v : AV) : (putA f d v).length = f.length := by cases d <;> simp [putA]
theorem putA_other (f : Fr) (d : Option Tmp) (v : AV) (t : Nat) (h : d ≠ some t) : (putA f d v).getD t .junk = f.getD t .junk := by
  cases d with
  | none => rfl
  | some d =>
    simp only [putA]
    rw [List.getD_eq_getElem?_getD, List.getD_eq_getElem?_getD, List.getElem?_set, if_neg (fun e => h (by rw [e]))]

section chain
variable {ops : List Oper} {F : Nat → Fr} {H : Nat → Hp} (hF : ∀ j o, ops[j]? = some o → Goes P GW w0 gl ops o (F j) (H j) (F (j + 1)) (H (j + 1)))

theorem chain_len (hF : ∀ j o, ops[j]? = some o → Goes P GW w0 gl ops o (F j) (H j) (F (j + 1)) (H (j + 1))) : ∀ i, i ≤ ops.length → (F i).length = (F 0).length
  | 0, _ => rfl
  | i + 1, hi => by
    obtain ⟨av, e, _⟩ := hF i ops[i] (List.getElem?_eq_getElem (by omega))
    rw [e, putA_len]; exact chain_len hF i (by omega)

/-- A place that none of the operations from i to i' writes. -/
theorem chain_still (hF : ∀ j o, ops[j]? = some o → Goes P GW w0 gl ops o (F j) (H j) (F (j + 1)) (H (j + 1))) (t : Nat) (i : Nat) : ∀ n, i + n ≤ ops.length → (∀ j o, i ≤ j → j < i + n → ops[j]? = some o → o.dst ≠ some t) →
    (F (i + n)).getD t .junk = (F i).getD t .junk
  | 0, _, _ => rfl
  | n + 1, hn, hno => by
    have hj : ops[i + n]? = some ops[i + n] := List.getElem?_eq_getElem (by omega)
    obtain ⟨av, e, _⟩ := hF (i + n) ops[i + n] hj
    rw [show i + (n + 1) = i + n + 1 by omega, e, putA_other _ _ _ _ (hno (i + n) _ (by omega) (by omega) hj)]
    exact chain_still hF t i n (by omega) fun j o h1 h2 => hno j o h1 (by omega)
theorem chain_mem (hF : ∀ j o, ops[j]? = some o → Goes P GW w0 gl ops o (F j) (H j) (F (j + 1)) (H (j + 1))) (i : Nat) : ∀ n, i + n ≤ ops.length → (H i).length ≤ (H (i + n)).length ∧
    ((∀ j o, i ≤ j → j < i + n → ops[j]? = some o → writes o.op = false) → Compat (H i) (H (i + n)))
  | 0, _ => ⟨Nat.le_refl _, fun _ => Compat.refl _⟩
  | n + 1, hn => by
    obtain ⟨hl, hc⟩ := chain_mem hF i n (by omega)
    have hj : ops[i + n]? = some ops[i + n] := List.getElem?_eq_getElem (by omega)
    rw [show i + (n + 1) = i + n + 1 by omega]
    obtain ⟨av, _, ⟨_, _, eh, _⟩ | ⟨_, eh, _⟩ | ⟨_, _, hlen, hcp, _⟩⟩ := hF (i + n) ops[i + n] hj
    · rw [eh]; exact ⟨hl, fun hno => hc fun j o h1 h2 => hno j o h1 (by omega)⟩
    · rw [eh]; exact ⟨hl, fun hno => hc fun j o h1 h2 => hno j o h1 (by omega)⟩
    · refine ⟨by omega, fun hno b hb1 hb2 => ?_⟩
      have h1 := hc fun j o h1 h2 => hno j o h1 (by omega)
      have h2 := hcp (hno (i + n) _ (by omega) (by omega) hj)
      rw [h2 b hb1 (by omega), h1 b (by omega) hb2]

theorem chain_same (hF : ∀ j o, ops[j]? = some o → Goes P GW w0 gl ops o (F j) (H j) (F (j + 1)) (H (j + 1))) (i : Nat) : ∀ n, i + n ≤ ops.length → (∀ j o, i ≤ j → j < i + n → ops[j]? = some o → acts o.op = false) → H (i + n) = H i
  | 0, _, _ => rfl
  | n + 1, hn, hno => by
    have hj : ops[i + n]? = some ops[i + n] := List.getElem?_eq_getElem (by omega)
    have ih := chain_same hF i n (by omega) fun j o h1 h2 => hno j o h1 (by omega)
    obtain ⟨av, _, ⟨_, _, eh, _⟩ | ⟨_, eh, _⟩ | ⟨_, hm, _⟩⟩ := hF (i + n) ops[i + n] hj
    · rw [show i + (n + 1) = i + n + 1 by omega, eh, ih]
    · rw [show i + (n + 1) = i + n + 1 by omega, eh, ih]
    · rw [hno (i + n) _ (by omega) (by omega) hj] at hm; cases hm

theorem chain_compat (hF : ∀ j o, ops[j]? = some o → Goes P GW w0 gl ops o (F j) (H j) (F (j + 1)) (H (j + 1))) {i p : Nat} (hi : i ≤ ops.length) (hp : p ≤ ops.length)
    (hno : ∀ j o, (i ≤ j ∧ j < p) ∨ (p ≤ j ∧ j < i) → ops[j]? = some o → writes o.op = false) : Compat (H i) (H p) := by
  rcases Nat.le_total i p with q | q
  · have := (chain_mem hF i (p - i) (by omega)).2 fun j o h1 h2 => hno j o (.inl ⟨h1, by omega⟩)
    rwa [show i + (p - i) = p by omega] at this
  · have := (chain_mem hF p (i - p) (by omega)).2 fun j o h1 h2 => hno j o (.inr ⟨h1, by omega⟩)
    rw [show p + (i - p) = i by omega] at this
    exact fun b h1 h2 => (this b h2 h1).symm
end chain

/-- What is known of a place when these operations have run. -/
structure Mid (ops : List Oper) (F : Nat → Fr) (H : Nat → Hp) (p : Nat) (w0 : World) (I0 : Nat → Nat → Prop) (gl : List (Nat × Nat)) (listed : Array Bool) (G : Gh) (a : Act) (w : World) : Prop where
  size : a.tmps.size = (F 0).length
  done : ∀ j o t, ops[j]? = some o → o.dst = some t → listed.getD j true = true → ((F ops.length).getD t .junk).is G w (a.tmps.getD t undef)
  open_ : ∀ t, (∀ j o, ops[j]? = some o → o.dst = some t → listed.getD j true = false) → ((F 0).getD t .junk).is G w (a.tmps.getD t undef)
  heap : HRep G w0.heap.size (H p) w
  ple : p ≤ ops.length
  mks : ∀ j o, ops[j]? = some o → acts o.op = true → (j < p ↔ listed.getD j true = true)
  closed : ∀ j o, ops[j]? = some o → listed.getD j true = true → ∀ e ∈ o.after.toList, Region.binds .any e = true → listed.getD e.on false = true
  below : Below w0.heap.size w0 w
  gl : ∀ g i, gl.lookup g = some i → i < G.n ∧ G.at_ i = g
  defs : a.defers = []
  imm : ∀ b o, I0 b o → G.imm b o
  old : ∀ b o, b < w0.heap.size → G.imm b o → I0 b o
  lsize : listed.size = ops.length

theorem ready_of {ops : Array Oper} {listed : Array Bool} {i : Nat} : i ∈ Region.ready .any ops listed ↔ i < ops.size ∧ listed.getD i true = false ∧ ∃ o, ops[i]? = some o ∧ ∀ e ∈ o.after.toList, Region.binds .any e = true → listed.getD e.on false = true := by
  unfold Region.ready
  simp only [List.mem_filter, List.mem_range, Bool.and_eq_true, Bool.not_eq_true']
  constructor
  · rintro ⟨h1, h2, h3⟩
    refine ⟨h1, h2, ops[i], by simp [h1], fun e he hb => ?_⟩
    have hg : ops[i]? = some ops[i] := by simp [h1]
    rw [hg] at h3
    simp only [Option.map_some, Option.getD_some, Array.all_eq_true_iff_forall_mem] at h3
    have := h3 e (by simpa using he)
    simpa [hb] using this
  · rintro ⟨h1, h2, o, ho, h3⟩
    refine ⟨h1, h2, ?_⟩
    rw [ho]
    simp only [Option.map_some, Option.getD_some, Array.all_eq_true_iff_forall_mem]
    intro e he
    by_cases hb : Region.binds .any e = true
    · simp [h3 e (by simpa using he) hb]
    · simp [hb]

theorem getD_set {l : Array Bool} {i j : Nat} {d : Bool} (hi : i < l.size) : (l.setIfInBounds i true).getD j d = if i = j then true else l.getD j d := by
  rw [Array.getD_eq_getD_getElem?, Array.getD_eq_getD_getElem?, Array.getElem?_setIfInBounds]
  by_cases e : i = j
  · subst e; simp [hi]
  · simp [e]

theorem open_sound (stab : ∀ w', Below w0.heap.size w0 w' → GW w') {ops : Array Oper} {F : Nat → Fr} {H : Nat → Hp} (hord : orderly ops.toList = true)
    (hF : ∀ j o, ops.toList[j]? = some o → Goes P GW w0 gl ops.toList o (F j) (H j) (F (j + 1)) (H (j + 1))) {Q : Exit → Act → World → Prop}
    (hQ : ∀ G a w, St w0 I0 gl G (F ops.size) (H ops.size) a w → Q .normal a w) :
    ∀ (fuel : Nat) (listed : Array Bool) (p : Nat) (G : Gh) (a : Act) (w : World), Mid ops.toList F H p w0 I0 gl listed G a w → listed.toList.count false ≤ fuel → wpAny P .any ops Q fuel listed a w := by
  have hlen : ops.toList.length = ops.size := Array.length_toList
  -- the end
  have fin : ∀ (listed : Array Bool) (p : Nat) (G : Gh) (a : Act) (w : World), Mid ops.toList F H p w0 I0 gl listed G a w → (∀ i, i < ops.size → listed.getD i true = true) → Q .normal a w := by
    intro listed p G a w M hall
    have hp : H ops.size = H p := by
      have hple := M.ple
      have e := chain_same hF p (ops.size - p) (by omega) fun j o h1 h2 hj => by
        cases q : acts o.op with
        | false => rfl
        | true =>
          have := (M.mks j o hj q).2 (hall j (by omega))
          omega
      rwa [show p + (ops.size - p) = ops.size by omega] at e
    refine hQ G a w ⟨?_, fun t => ?_, by rw [hp]; exact M.heap, M.below, M.gl, M.defs, M.imm, M.old⟩
    · rw [M.size, ← chain_len hF ops.size (by omega)]
    · by_cases q : ∃ (j : Nat) (o : Oper), ops.toList[j]? = some o ∧ o.dst = some t
      · obtain ⟨j, o, hj, ht⟩ := q
        have hlt : j < ops.toList.length := (List.getElem?_eq_some_iff.1 hj).1
        have := M.done j o t hj ht (hall j (by omega))
        rwa [hlen] at this
      · have e := chain_still hF t 0 ops.size (by omega) fun j o _ _ hj ht => q ⟨j, o, hj, ht⟩
        rw [Nat.zero_add] at e
        rw [e]
        exact M.open_ t fun j o hj ht => absurd ⟨j, o, hj, ht⟩ q
  have noready : ∀ (listed : Array Bool), listed.size = ops.size → Region.ready .any ops listed = [] → ∀ i, i < ops.size → listed.getD i true = true := by
    intro listed hs hr i
    induction i using Nat.strongRecOn with
    | _ i ih =>
      intro hi
      cases hq : listed.getD i true with
      | true => rfl
      | false =>
        exfalso
        have hoi : ops.toList[i]? = some ops[i] := by simp [hi]
        have : i ∈ Region.ready .any ops listed := ready_of.2 ⟨hi, hq, ops[i], by simp [hi], fun e he hb => by
          have hlt := orderly_edge hord hoi he hb
          have := ih e.on hlt (by omega)
          rw [Array.getD_eq_getD_getElem?] at this ⊢
          rw [Array.getElem?_eq_getElem (by omega)] at this ⊢
          simpa using this⟩
        rw [hr] at this; cases this
  intro fuel
  induction fuel with
  | zero =>
    intro listed p G a w M hc
    have hall : ∀ i, i < ops.size → listed.getD i true = true := fun i hi => by
      have hz : listed.toList.count false = 0 := by omega
      rw [List.count_eq_zero] at hz
      rw [Array.getD_eq_getD_getElem?]
      cases hg : listed[i]? with
      | none => rfl
      | some b =>
        cases b with
        | true => rfl
        | false => exact absurd (List.mem_iff_getElem?.2 ⟨i, by simpa using hg⟩) hz
    refine ⟨?_, fin listed p G a w M hall⟩
    cases hr : Region.ready .any ops listed with
    | nil => rfl
    | cons i l =>
      have : i ∈ Region.ready .any ops listed := by rw [hr]; simp
      obtain ⟨h1, h2, _⟩ := ready_of.1 this
      rw [hall i h1] at h2; cases h2
  | succ fuel ih =>
    intro listed p G a w M hc
    have hple := M.ple
    have hls : listed.size = ops.size := by rw [M.lsize, hlen]
    refine ⟨fun hr => fin listed p G a w M (noready listed hls hr), fun i hi => ?_⟩
    obtain ⟨hlt, hun, o, ho, hedge⟩ := ready_of.1 hi
    have hol : ops.toList[i]? = some o := by simpa using ho
    have hil : i < listed.size := by omega
    have hcount : (listed.setIfInBounds i true).toList.count false ≤ fuel := by
      have hgi : listed.toList[i]'(by simpa using hil) = false := by
        rw [Array.getD_eq_getD_getElem?, Array.getElem?_eq_getElem hil] at hun
        simpa using hun
      rw [Array.toList_setIfInBounds, List.count_set (h := by simpa using hil)]
      simp only [hgi]
      have hpos : 0 < listed.toList.count false := List.count_pos_iff.2 (List.mem_iff_getElem.2 ⟨i, by simpa using hil, hgi⟩)
      rw [if_pos (by decide), if_neg (by decide)]
      omega
    -- the places it looks at read as the frame ahead of it says
    have look : ∀ t ∈ looks ops.toList o, ((F i).getD t .junk).is G w (a.tmps.getD t undef) := by
      intro t ht
      by_cases q : ∃ (j : Nat) (p : Oper), ops.toList[j]? = some p ∧ p.dst = some t
      · obtain ⟨j, p, hj, hp⟩ := q
        obtain ⟨hji, e, he, heo, heb⟩ := (orderly_dst hord hol hj hp).2 ht
        have hlj : listed.getD j true = true := by
          have := hedge e he heb
          rw [heo] at this
          rw [Array.getD_eq_getD_getElem?] at this ⊢
          rw [Array.getElem?_eq_getElem (by omega)] at this ⊢
          simpa using this
        have := M.done j p t hj hp hlj
        rw [hlen] at this
        -- between j + 1 and i, and to the end, nobody else writes it
        have only : ∀ j' p', ops.toList[j']? = some p' → j' ≠ j → p'.dst ≠ some t := fun j' p' hj' hne => by
          rcases (orderly_dst hord hj' hj hp).1 with q | q
          · exact absurd q hne
          · exact q
        have e1 := chain_still hF t (j + 1) (i - (j + 1)) (by omega) fun j' p' h1 h2 hj' => only j' p' hj' (by omega)
        have e2 := chain_still hF t (j + 1) (ops.size - (j + 1)) (by omega) fun j' p' h1 h2 hj' => only j' p' hj' (by omega)
        rw [show j + 1 + (i - (j + 1)) = i by omega] at e1
        rw [show j + 1 + (ops.size - (j + 1)) = ops.size by omega] at e2
        rw [e1, ← e2]; exact this
      · have e := chain_still hF t 0 i (by omega) fun j p _ _ hj hp => q ⟨j, p, hj, hp⟩
        rw [Nat.zero_add] at e
        rw [e]
        exact M.open_ t fun j p hj hp => absurd ⟨j, p, hj, hp⟩ q
    -- what is listed behind an operation lists what that one hangs on
    have getset : ∀ (k : Nat), (listed.setIfInBounds i true).getD k false = true ↔ (k = i ∨ listed.getD k false = true) := fun k => by
      rw [getD_set hil]
      by_cases e : i = k
      · simp [e]
      · simp only [e, if_false]; constructor
        · exact .inr
        · rintro (q | q)
          · exact absurd q.symm e
          · exact q
    have closed' : ∀ j o', ops.toList[j]? = some o' → (listed.setIfInBounds i true).getD j true = true → ∀ e ∈ o'.after.toList, Region.binds .any e = true → (listed.setIfInBounds i true).getD e.on false = true := by
      intro j o' hj hl e he hb
      rw [getset]
      by_cases ej : i = j
      · subst ej
        rw [hol] at hj; cases hj
        exact .inr (hedge e he hb)
      · rw [getD_set hil, if_neg ej] at hl
        exact .inr (M.closed j o' hj hl e he hb)
    -- behind it
    have next : ∀ (p' : Nat) (av : AV) (v : Value) (G' : Gh) (w' : World), F (i + 1) = putA (F i) o.dst av → G.le w G' w' → HRep G' w0.heap.size (H p') w' → p' ≤ ops.toList.length →
        (∀ j o', ops.toList[j]? = some o' → acts o'.op = true → (j < p' ↔ (listed.setIfInBounds i true).getD j true = true)) → Below w0.heap.size w0 w' → (∀ b x, b < w0.heap.size → G'.imm b x → G.imm b x) → av.is G' w' v →
        wpAny P .any ops Q fuel (listed.setIfInBounds i true) (a.put o.dst v) w' := by
      intro p' av v G' w' hFi hle Hr hp' hmk' hbel hold hv
      have mono : ∀ x u, AV.is G w x u → AV.is G' w' x u := fun x u => AV.is_mono hle x u
      -- the value of the written place at the end
      have written : ∀ t, o.dst = some t → t < a.tmps.size → (F ops.size).getD t .junk = av := fun t ht hlt' => by
        have only : ∀ j' p', ops.toList[j']? = some p' → j' ≠ i → p'.dst ≠ some t := fun j' p' hj' hne => by
          rcases (orderly_dst hord hj' hol ht).1 with q | q
          · exact absurd q hne
          · exact q
        have e2 := chain_still hF t (i + 1) (ops.size - (i + 1)) (by omega) fun j' p' h1 h2 hj' => only j' p' hj' (by omega)
        rw [show i + 1 + (ops.size - (i + 1)) = ops.size by omega] at e2
        rw [e2, hFi, ht]
        have hl : t < (F i).length := by rw [chain_len hF i (by omega), ← M.size]; exact hlt'
        simp only [putA]
        rw [List.getD_eq_getElem?_getD, List.getElem?_set, if_pos rfl, if_pos hl]; rfl
      have putget : ∀ t, (a.put o.dst v).tmps.getD t undef = if o.dst = some t ∧ t < a.tmps.size then v else a.tmps.getD t undef := fun t => by
        cases hd : o.dst with
        | none => simp [Act.put]
        | some d =>
          simp only [Act.put, Option.some.injEq]
          rw [Array.getD_eq_getD_getElem?, Array.getD_eq_getD_getElem?, Array.getElem?_setIfInBounds]
          by_cases e : d = t
          · subst e
            by_cases q : d < a.tmps.size
            · simp [q]
            · simp [q]
          · simp [e]
      refine ih _ p' G' _ w' ⟨?_, ?_, ?_, Hr, hp', hmk', closed', hbel, fun g j q => ?_, ?_, ?_, ?_, by simpa using M.lsize⟩ hcount
      · rw [← M.size]; cases o.dst <;> simp [Act.put]
      · intro j p t hj hp hl
        rw [putget]
        by_cases e : o.dst = some t ∧ t < a.tmps.size
        · rw [if_pos e, hlen, written t e.1 e.2]; exact hv
        · rw [if_neg e]
          by_cases ej : i = j
          · subst ej
            rw [hol] at hj; cases hj
            have hge : ¬ t < a.tmps.size := fun q => e ⟨hp, q⟩
            have : (F ops.toList.length).getD t .junk = .junk := by
              rw [List.getD_eq_getElem?_getD, List.getElem?_eq_none (by rw [chain_len hF _ (Nat.le_refl _), ← M.size]; omega)]; rfl
            rw [this]; exact trivial
          · rw [getD_set hil, if_neg ej] at hl
            exact mono _ _ (M.done j p t hj hp hl)
      · intro t hno
        rw [putget]
        have hne : ¬ (o.dst = some t ∧ t < a.tmps.size) := fun q => by
          have := hno i o hol q.1
          rw [getD_set hil, if_pos rfl] at this; cases this
        rw [if_neg hne]
        refine mono _ _ (M.open_ t fun j p hj hp => ?_)
        have := hno j p hj hp
        rw [getD_set hil] at this
        split at this
        · cases this
        · exact this
      · obtain ⟨q1, q2⟩ := M.gl g j q
        exact ⟨Nat.lt_of_lt_of_le q1 hle.n, by rw [hle.at_ j q1]; exact q2⟩
      · cases o.dst <;> exact M.defs
      · exact fun b x q => hle.imm b x (M.imm b x q)
      · exact fun b x hb q => M.old b x hb (hold b x hb q)
    unfold wpOp
    rw [ho]
    show if Region.wanted o (yielded ops a.tmps) then _ else _
    have hw : ∀ b, Wants ops.toList o (F i) b → Region.wanted o (yielded ops a.tmps) = b := fun b hb => wanted_of hb fun j want t hg ht => look t (by
      unfold looks
      rw [hg]
      simp only [ht, Option.toList_some, List.mem_append, List.mem_singleton]
      exact .inr trivial)
    have operand : ∀ x ∈ o.op.operands, (ev gl (F i) x).is G w (a.eval x) := fun x hx => by
      cases x with
      | tmp t => exact look t (by unfold looks; simp only [List.mem_append, List.mem_filterMap]; exact .inl ⟨.tmp t, by simpa using hx, rfl⟩)
      | const v => exact ofV_is G w v
      | global g =>
        simp only [Rx.ev, Act.eval]
        cases hg : gl.lookup g with
        | none => simp [AV.is]
        | some i => simp only [AV.is]; exact ⟨(M.gl g i hg).1, by rw [(M.gl g i hg).2]⟩
      | func f => simp only [Rx.ev, Act.eval, AV.is]; exact ⟨#[], #[], rfl, rfl, rfl⟩
    -- of the operations that make blocks none turns its place in the order
    have mkset : acts o.op = false → ∀ j o', ops.toList[j]? = some o' → acts o'.op = true → (j < p ↔ (listed.setIfInBounds i true).getD j true = true) := fun hm j o' hj hm' => by
      have hne : i ≠ j := fun e => by
        subst e
        rw [hol] at hj; cases hj
        rw [hm] at hm'; cases hm'
      rw [getD_set hil, if_neg hne]
      exact M.mks j o' hj hm'
    -- when one that acts a block runs, the memory is the one that it was told of
    have listedBefore : acts o.op = true → ∀ j o', ops.toList[j]? = some o' → acts o'.op = true → (j < i ↔ listed.getD j true = true) := fun hm j o' hj hm' => by
      constructor
      · intro hji
        obtain ⟨e, he, heo, heb⟩ := orderly_acts hord hol hj (.inl ⟨hm, hm'⟩) hji
        have := hedge e he heb
        rw [heo, Array.getD_eq_getD_getElem?] at this
        rw [Array.getD_eq_getD_getElem?]
        cases q : listed[j]? with
        | none => rfl
        | some b => rw [q] at this; simpa using this
      · intro hl
        rcases Nat.lt_trichotomy j i with q | q | q
        · exact q
        · subst q; rw [hun] at hl; cases hl
        · obtain ⟨e, he, heo, heb⟩ := orderly_acts hord hj hol (.inl ⟨hm', hm⟩) q
          have := M.closed j o' hj hl e he heb
          rw [heo, Array.getD_eq_getD_getElem?] at this
          rw [Array.getD_eq_getD_getElem?] at hun
          cases q' : listed[i]? with
          | none => rw [q'] at this; simp at this
          | some b => rw [q'] at this hun; simp at this hun; rw [this] at hun; cases hun
    have sameMem : acts o.op = true → H i = H p := fun hm => by
      rcases Nat.le_total p i with q | q
      · have e := chain_same hF p (i - p) (by omega) fun j o' h1 h2 hj => by
          cases hm' : acts o'.op with
          | false => rfl
          | true =>
            have h3 := (listedBefore hm j o' hj hm').1 (by omega)
            have := (M.mks j o' hj hm').2 h3
            omega
        rwa [show p + (i - p) = i by omega] at e
      · by_cases e : i = p
        · rw [e]
        · have := (M.mks i o hol hm).1 (by omega)
          rw [hun] at this; cases this
        -- nothing is written between what a reading one was told of and what it finds
    have readMem : readsM o.op = true → Compat (H i) (H p) := fun hrd => chain_compat hF (by omega) (by omega) fun j o' hbt hj => by
      cases hw' : writes o'.op with
      | false => rfl
      | true =>
        exfalso
        have hact : acts o'.op = true := by
          cases q : o'.op <;> rw [q] at hw' <;> first | rfl | cases hw'
        have hio : acts o.op = false := by
          cases q : o.op <;> rw [q] at hrd <;> first | rfl | cases hrd
        rcases hbt with ⟨h1, h2⟩ | ⟨h1, h2⟩
        · have hl := (M.mks j o' hj hact).1 h2
          have hne : i ≠ j := fun e => by
            subst e
            rw [hol] at hj; cases hj
            rw [hio] at hact; cases hact
          obtain ⟨e, he, heo, heb⟩ := orderly_acts hord hj hol (.inr (.inr ⟨hw', hrd⟩)) (by omega)
          have := M.closed j o' hj hl e he heb
          rw [heo, Array.getD_eq_getD_getElem?] at this
          rw [Array.getD_eq_getD_getElem?] at hun
          cases q' : listed[i]? with
          | none => rw [q'] at this; simp at this
          | some b => rw [q'] at this hun; simp at this hun; rw [this] at hun; cases hun
        · obtain ⟨e, he, heo, heb⟩ := orderly_acts hord hol hj (.inr (.inl ⟨hrd, hw'⟩)) h2
          have hl := hedge e he heb
          rw [heo, Array.getD_eq_getD_getElem?] at hl
          have hl' : listed.getD j true = true := by
            rw [Array.getD_eq_getD_getElem?]
            cases q' : listed[j]? with
            | none => rfl
            | some b => rw [q'] at hl; simpa using hl
          have := (M.mks j o' hj hact).2 hl'
          omega
    obtain ⟨av, hFi, ⟨hwant, hm, hH, hq⟩ | ⟨hwant, hH, rfl⟩ | ⟨hwant, hm, hlen, hcp, hA⟩⟩ := hF i o hol
    · rw [hw _ hwant, if_pos rfl]
      refine .inl (hq w0.heap.size G w a _ Q (H p) readMem M.heap (stab w M.below) operand fun G' v w' Hr hle hA hv => ?_)
      exact next p av v G' w' hFi hle Hr M.ple (mkset hm) (M.below.trans (hA.below.mono M.below.size)) (fun b x hb q => hA.old b x (Nat.lt_of_lt_of_le hb M.below.size) q) hv
    · rw [hw _ hwant, if_neg (by simp)]
      by_cases hm : acts o.op = true
      · have e := sameMem hm
        have Hr : HRep G w0.heap.size (H (i + 1)) w := by rw [hH, e]; exact M.heap
        refine next (i + 1) (.tup []) undef G w hFi (Gh.le.refl G w) Hr (by omega) (fun j o' hj hm' => ?_) M.below (fun _ _ _ q => q) (by simp only [AV.is]; exact ⟨#[], rfl, rfl⟩)
        have hb := listedBefore hm j o' hj hm'
        rw [getD_set hil]
        by_cases ej : i = j
        · simp [ej]
        · rw [if_neg ej, ← hb]; omega
      · exact next p (.tup []) undef G w hFi (Gh.le.refl G w) M.heap M.ple (mkset (by simpa using hm)) M.below (fun _ _ _ q => q) (by simp only [AV.is]; exact ⟨#[], rfl, rfl⟩)
    · rw [hw _ hwant, if_pos rfl]
      have e := sameMem hm
      have Hi : HRep G w0.heap.size (H i) w := by rw [e]; exact M.heap
      refine .inl (hA G w a _ Q Hi M.below operand fun G' v w' Hr hle hbel hold hv => ?_)
      refine next (i + 1) av v _ _ hFi hle Hr (by omega) (fun j o' hj hm' => ?_) hbel hold hv
      have hb := listedBefore hm j o' hj hm'
      rw [getD_set hil]
      by_cases ej : i = j
      · simp [ej]
      · rw [if_neg ej, ← hb]; omega

end
end Go.Proofs.Rx
