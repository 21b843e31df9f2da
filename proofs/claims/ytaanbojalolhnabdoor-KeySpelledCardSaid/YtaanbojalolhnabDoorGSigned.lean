/- key.signed, at a right key: the alteration of the first of the seven places that has the step; 0, if none has. -/
import Derived.Test.YtaanbojalolhnabDoorGLine
import Derived.Lib.Hide
namespace Go.Proofs.YtaanbojalolhnabDoor.M
open Go.RowKit Go.Shelf
attribute [local go_sem] Oper.semAt_some

/-- the first place of a list that has the step -/
def firstSpot (step : Int) (l : List Int) : Option Int := l.find? fun p => (spot p).1 == step
def key_signed.f (a0_0 : Int) (_a0_1 : Bool) (a1 : Int) : Option Int :=
  if -7 ≤ a0_0 ∧ a0_0 ≤ 7 then some (match firstSpot a1 (places (a0_0 - 1) 7) with | some p => (spot p).2 | none => 0) else none

theorem firstSpot_none {step : Int} {l : List Int} (h : ∀ p ∈ l, (spot p).1 ≠ step) : firstSpot step l = none := by
  unfold firstSpot
  rw [List.find?_eq_none]
  intro x hx
  simpa using h x hx
theorem firstSpot_hit {step : Int} {l : List Int} {x : Int} (h : ∀ p ∈ l, (spot p).1 ≠ step) (hx : (spot x).1 = step) (r : List Int) : firstSpot step (l ++ [x] ++ r) = some x := by
  unfold firstSpot
  rw [List.append_assoc, List.find?_append, List.find?_eq_none.2 (fun p hp => by simpa using h p hp)]
  simp [hx]

theorem cells_own {β : Type} (B : Nat) (cs : Array Value) (t : TypeId) : Own (fun (_ : β) W => W.heap[B]? = some (.cells cs t (0, 0))) := fun s X Y row hs hg hrow =>
  (hg.block B (Array.getElem?_eq_some_iff.1 hs).1 (fun e => by obtain ⟨o, ho, hc⟩ := hrow B e.symm; rw [show X.heap[B]? = _ from hs] at ho; cases ho; cases hc)).trans hs

/-- a result that lies in a box -/
def SignedPost (k : Int) (step : Int) (w : World) (e : Ending) (w' : World) : Prop :=
  e = .returned (.int .i64 (match firstSpot step (places (k - 1) 7) with | some p => (spot p).2 | none => 0)) ∧ Below w.heap.size w w'

set_option maxRecDepth 100000 in
set_option maxHeartbeats 4000000 in
theorem signed_in (k : Int) (m : Bool) (step : Int) (w : World) (h0 : -7 ≤ k) (h7 : k ≤ 7) :
    CallsIn Fence.wide 9 Tryd.prog 18 #[.agg #[.int .i64 k, .bool m], .int .i64 step] w (SignedPost k step w) := by
  refine callsIn_of_wp_marks Tryd.func18 rfl trivial ?_ rfl
  simp only [Tryd.ntmps18, List.size_toArray, List.length_cons, List.length_nil, Nat.reduceAdd, Nat.reduceSub, Array.replicate_succ, Array.replicate_zero, List.push_toArray, List.append_toArray, List.nil_append, List.cons_append]
  gi_wp2_with (refine ⟨trivial, ?_⟩; gi_at_call 13; refine (line_in _ _ _ _).mono ?_; rintro e w' ⟨rfl, rfl⟩)
  have hB0 : Below w.heap.size w (((((w.alloc (.cells #[.int .i64 k, .bool m] 23)).alloc (.cells #[.int .i64 step] 3)).alloc (.cells #[.int .i64 0] 3)).alloc (.cells #[.int .i64 (k - 1)] 3)).alloc (.cells #[.int .i64 (k + 5)] 3)) :=
    (((((Below.refl _ w).alloc (Nat.le_refl _) _).alloc (by simp) _).alloc (by simp; omega) _).alloc (by simp; omega) _).alloc (by simp; omega) _
  have bS := (((Boxed.new (w.alloc (.cells #[.int .i64 k, .bool m] 23)) 3 (.int .i64 step)).alloc (.cells #[.int .i64 0] 3)).alloc (.cells #[.int .i64 (k - 1)] 3)).alloc (.cells #[.int .i64 (k + 5)] 3)
  have bR := ((Boxed.new ((w.alloc (.cells #[.int .i64 k, .bool m] 23)).alloc (.cells #[.int .i64 step] 3)) 3 (.int .i64 0)).alloc (.cells #[.int .i64 (k - 1)] 3)).alloc (.cells #[.int .i64 (k + 5)] 3)
  have bF := (Boxed.new (((w.alloc (.cells #[.int .i64 k, .bool m] 23)).alloc (.cells #[.int .i64 step] 3)).alloc (.cells #[.int .i64 0] 3)) 3 (.int .i64 (k - 1))).alloc (.cells #[.int .i64 (k + 5)] 3)
  have bT := Boxed.new ((((w.alloc (.cells #[.int .i64 k, .bool m] 23)).alloc (.cells #[.int .i64 step] 3)).alloc (.cells #[.int .i64 0] 3)).alloc (.cells #[.int .i64 (k - 1)] 3)) 3 (.int .i64 (k + 5))
  simp only [World.size_alloc] at bS bR bF bT
  have hsz : (((((w.alloc (.cells #[.int .i64 k, .bool m] 23)).alloc (.cells #[.int .i64 step] 3)).alloc (.cells #[.int .i64 0] 3)).alloc (.cells #[.int .i64 (k - 1)] 3)).alloc (.cells #[.int .i64 (k + 5)] 3)).heap.size = w.heap.size + 5 := by simp
  obtain ⟨W0, hW0⟩ : ∃ W0, (((((w.alloc (.cells #[.int .i64 k, .bool m] 23)).alloc (.cells #[.int .i64 step] 3)).alloc (.cells #[.int .i64 0] 3)).alloc (.cells #[.int .i64 (k - 1)] 3)).alloc (.cells #[.int .i64 (k + 5)] 3)) = W0 := ⟨_, rfl⟩
  rw [hW0] at bS bR bF bT hB0 hsz ⊢
  clear hW0
  refine wpIn_rangeFunc_ownH rfl (by omega) (gf := 20) (lb := #[.pointer (some ⟨w.heap.size + 1 + 1 + 1, 0, none⟩), .pointer (some ⟨w.heap.size + 1 + 1 + 1 + 1, 0, none⟩)]) rfl trivial (enters_of Tryd.func20 (by kernel_rfl) rfl)
    (line_stops 8 (by omega) (w.heap.size + 1 + 1 + 1) (w.heap.size + 1 + 1 + 1 + 1) (w.heap.size + 5) (k - 1) 7 (by omega) (by omega) (by omega) (by omega) W0 (by omega) bF.cell (by rw [bT.cell, show k + 5 = k - 1 + ((7 : Nat) : Int) - 1 from by omega])) belowK_t (belowK_b (by omega)) (Below.refl _ _) (fun _ => rfl)
    (fun pre W => ((Boxed W (w.heap.size + 1) 3 (.int .i64 step) ∧ Boxed W (w.heap.size + 1 + 1) 3 (.int .i64 0)) ∧ (∀ p ∈ pre, (spot p).1 ≠ step)) ∧ Below (w.heap.size + 5) W0 W)
    (fun c pre W => c = .ret ∧ ∃ q x, pre = q ++ [x] ∧ (∀ p ∈ q, (spot p).1 ≠ step) ∧ (spot x).1 = step ∧ Boxed W (w.heap.size + 1 + 1) 3 (.int .i64 (spot x).2) ∧ Below w.heap.size w W)
    (OwnFrom.and (OwnFrom.and (OwnFrom.and (Own.from (boxed_own _ _ (fun _ => _)) _) (Own.from (boxed_own _ _ (fun _ => _)) _)) (ownFrom_pure _ (fun pre => ∀ p ∈ pre, (spot p).1 ≠ step))) (ownFrom_below (by omega) (by omega)))
    ?hIx
    ⟨⟨⟨bS, bR⟩, by simp⟩, Below.refl _ _⟩
    (fun x a' W => ∃ Bx, w.heap.size + 4 < Bx ∧ W.heap[Bx]? = some (.cells #[.int .i64 (spot x).1, .int .i64 (spot x).2] 49 (0, 0)) ∧ a' = { tmps := #[.agg #[.int .i64 k, .bool m], .int .i64 step, .pointer (some ⟨w.heap.size, 0, none⟩), .pointer (some ⟨w.heap.size + 1, 0, none⟩), .pointer (some ⟨w.heap.size + 1 + 1, 0, none⟩), .pointer (some ⟨Bx, 0, none⟩), .pointer (some ⟨w.heap.size, 0, none⟩), .int .i64 k, .int .i64 (k - 1), .pointer (some ⟨w.heap.size, 0, none⟩), .int .i64 k, .int .i64 (k + 5), .func (.func 20) #[] #[.pointer (some ⟨w.heap.size + 1 + 1 + 1, 0, none⟩), .pointer (some ⟨w.heap.size + 1 + 1 + 1 + 1, 0, none⟩)], .agg #[.int .i64 (spot x).1, .int .i64 (spot x).2], undef, undef, undef, undef, undef, undef], defers := [] })
    ?hAx ?assign ?body ?done ?stop
  case hIx =>
    rintro c s X Y row ⟨hc, q, x, h1, h2, h3, h4, h5⟩ hg hr
    exact ⟨hc, q, x, h1, h2, h3, boxed_own _ 3 (fun (_ : Unit) => Value.int .i64 (spot x).2) () X Y row h4 hg (fun r e => (hr r e).2), h5.grown hg h5.size (fun r e => by have := (hr r e).1; omega)⟩
  case hAx =>
    rintro x a' _ X Y row ⟨Bx, h1, h2, h3⟩ hg hr
    exact ⟨Bx, h1, cells_own Bx _ 49 () X Y row h2 hg (fun r e => (hr r e).2), h3⟩
  case assign =>
    rintro l pre x W K ⟨⟨⟨bS1, bR1⟩, hp⟩, hB1⟩ hK
    gi_wp2
    have hs1 := hB1.size
    exact hK _ _ ((KeepsOthers.alloc _ _).from _) ((Below.refl _ W).alloc (by omega) _) ⟨⟨⟨bS1.alloc _, bR1.alloc _⟩, hp⟩, hB1.alloc (by omega) _⟩ ⟨W.heap.size, by omega, World.alloc_heap_new W _, rfl⟩
  case body =>
    rintro l pre x a' W hl ⟨r, hr⟩ ⟨⟨⟨bS1, bR1⟩, hp⟩, hB1⟩ ⟨Bx, hBx, bX, rfl⟩ hlt
    have cS := bS1.cell
    have cR := bR1.cell
    have fR := bR1.frozen
    have c0 : W.cell? ⟨Bx, 0, none⟩ = some (.int .i64 (spot x).1) := by simp [World.cell?, bX]
    have c1 : W.cell? ⟨Bx, 1, none⟩ = some (.int .i64 (spot x).2) := by simp [World.cell?, bX]
    by_cases hx : (spot x).1 = step
    · have hxb : ((spot x).1 == step) = true := beq_iff_eq.2 hx
      have hB2 : Below w.heap.size w (W.setCell ⟨w.heap.size + 1 + 1, 0, none⟩ (.int .i64 (spot x).2)) := (hB0.trans (hB1.mono (by omega))).setCell (p := ⟨w.heap.size + 1 + 1, 0, none⟩) (by simp; omega) _
      have HX := Lib.hid hx
      clear hx
      gi_wp2
      exact ⟨(KeepsOthers.setCell _ _ _).from _, rfl, pre, x, rfl, hp, HX.out, bR1.set _, hB2⟩
    · have hxb : ((spot x).1 == step) = false := beq_eq_false_iff_ne.2 hx
      gi_wp2
      refine ⟨(KeepsOthers.refl _).from _, Below.refl _ _, ⟨⟨bS1, bR1⟩, ?_⟩, hB1⟩
      intro p hpm
      rcases List.mem_append.1 hpm with h | h
      · exact hp p h
      · rw [List.mem_singleton.1 h]; exact hx
  case done =>
    rintro D xs W hD rfl ⟨⟨⟨bS1, bR1⟩, hp⟩, hB1⟩ hK
    have cR := bR1.cell
    have fR := bR1.frozen
    have hn := firstSpot_none hp
    have HN := Lib.hid hn
    clear hn
    gi_wp2
    have hK' := (KeepsOthers.setCell W ⟨w.heap.size + 1 + 1, 0, none⟩ (.int .i64 0)).same D _ hK rfl
    refine ⟨by simp, .inl ⟨_, _, rfl, run_takeDeferred hK', ?_⟩⟩
    have hc5 := cell_kept (World.cell?_setCell_same' W ⟨w.heap.size + 1 + 1, 0, none⟩ (.int .i64 0) (by rw [cR]; rfl)) (grownBy_putObj' _ D (.deferred none)) (fun r e => by cases e; exact ⟨_, hK', rfl⟩)
    have hB2 : Below w.heap.size w (W.setCell ⟨w.heap.size + 1 + 1, 0, none⟩ (.int .i64 0)) := (hB0.trans (hB1.mono (by omega))).setCell (p := ⟨w.heap.size + 1 + 1, 0, none⟩) (by simp; omega) _
    refine ⟨.int .i64 0, ?_, by rw [HN.out], ?_⟩
    · simp [results, Tryd.f18, go_sem, hc5]
    · exact hB2.trans (belowK_b (w := w) (Nat.le_refl _) _ D _ _ (by omega) hK' rfl rfl)
  case stop =>
    rintro D c pre W hD ⟨j, hj, hpre⟩ ⟨rfl, q, x, rfl, hqn, hx, bX, hB1⟩ hK
    have cR := bX.cell
    have hf : firstSpot step (places (k - 1) 7) = some x := by
      obtain ⟨r, hr⟩ := places_prefix (k - 1) hj
      rw [← hr, ← hpre]
      exact firstSpot_hit hqn hx r
    have HF := Lib.hid hf
    have HX := Lib.hid hx
    have HP := Lib.hid hpre
    clear hf hx hpre
    gi_wp2
    refine ⟨by simp, .inl ⟨_, _, rfl, run_takeDeferred hK, ?_⟩⟩
    have hc5 := cell_kept cR (grownBy_putObj' _ D (.deferred none)) (fun r e => by cases e; exact ⟨_, hK, rfl⟩)
    refine ⟨.int .i64 (spot x).2, ?_, by rw [HF.out], ?_⟩
    · simp [results, Tryd.f18, go_sem, hc5]
    · exact hB1.trans (belowK_b (w := w) (Nat.le_refl _) _ D _ _ (by omega) hK rfl rfl)

theorem key_signed.calls (a0_0 : Int) (a0_1 : Bool) (a1 : Int) (r : Int) (w : World) (h : key_signed.f a0_0 a0_1 a1 = some r) :
    Calls Tryd.prog 18 #[.agg #[.int .i64 a0_0, .bool a0_1], .int .i64 a1] w fun e w' => e = .returned (.int .i64 r) ∧ Below w.heap.size w w' := by
  unfold key_signed.f at h
  split at h
  · rename_i hc
    obtain rfl := Option.some.inj h
    exact callsIn_wide.1 (signed_in a0_0 a0_1 a1 w hc.1 hc.2)
  · cases h
end Go.Proofs.YtaanbojalolhnabDoor.M
