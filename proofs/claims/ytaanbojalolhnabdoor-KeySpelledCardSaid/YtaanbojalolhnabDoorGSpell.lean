/- key.Spell: the first of the twelve places at which the number's pitch is right. -/
import Derived.Lib.Hide
import Derived.Test.YtaanbojalolhnabDoorGLine
import Derived.Test.YtaanbojalolhnabDoorGHalves
import Derived.Test.YtaanbojalolhnabDoorM9
import Derived.Test.YtaanbojalolhnabDoorM2
set_option linter.unusedSimpArgs false
set_option linter.unusedVariables false
namespace Go.Proofs.YtaanbojalolhnabDoor.M
open Go.RowKit Go.Shelf Go.Proofs.YtaanbojalolhnabDoorW.PrintWords
attribute [local go_sem] Oper.semAt_some

theorem spot_step (p : Int) : 0 ≤ (spot p).1 ∧ (spot p).1 < 7 := by
  have h := at_spot p
  unfold key_at.f key_down.f at h
  rw [if_neg (by decide)] at h
  have e : (spot p).1 = Int.tmod (wrap64 (Int.tmod (wrap64 (4 * p)) 7 + 7)) 7 := by
    split at h <;> (simp only [Option.bind_some, Option.some.injEq, Prod.mk.injEq] at h; exact h.1.symm)
  rw [e]
  generalize wrap64 (4 * p) = x
  have h1 := Int.tmod_lt_of_pos x (show (0 : Int) < 7 by decide)
  have h2 := Int.lt_tmod_of_pos x (show (0 : Int) < 7 by decide)
  have e2 : wrap64 (Int.tmod x 7 + 7) = Int.tmod x 7 + 7 := by unfold wrap64; omega
  rw [e2]
  have h3 := Int.tmod_lt_of_pos (Int.tmod x 7 + 7) (show (0 : Int) < 7 by decide)
  have h4 := Int.tmod_nonneg 7 (show 0 ≤ Int.tmod x 7 + 7 by omega)
  exact ⟨h4, h3⟩
def halfOf (p : Int) : Int := halfTab.getD (spot p).1.toNat 0
theorem halves_at (p : Int) : key_halves.f (spot p).1 = some (halfOf p) := by unfold key_halves.f halfOf; rw [if_pos (spot_step p)]
def spellN (number p : Int) : Int := IntKind.i64.wrap (IntKind.i64.wrap (number - halfOf p) - (spot p).2)
def spellO (number p : Int) : Int := wrap64 (wrap64 (Int.tdiv (spellN number p) 12) - 1)
def rightAt (number p : Int) : Bool := (pitch_Right.f (spot p).1 (spot p).2 (spellO number p)).getD false
theorem right_total (s a o : Int) : ∃ b, pitch_Right.f s a o = some b := by
  unfold pitch_Right.f pitch_number.f
  repeat' (first | exact ⟨_, rfl⟩ | split | simp only [Option.bind_some] | omega)
theorem right_at (number p : Int) : pitch_Right.f (spot p).1 (spot p).2 (spellO number p) = some (rightAt number p) := by
  obtain ⟨b, hb⟩ := right_total (spot p).1 (spot p).2 (spellO number p)
  unfold rightAt
  rw [hb]; rfl
def spellHit (number p : Int) : Bool := Int.tmod (spellN number p) 12 == 0 && rightAt number p
def key_Spell.f (a0_0 : Int) (a0_1 : Bool) (a1 : Int) : Option (Int × Int × Int × Int) :=
  if -7 ≤ a0_0 ∧ a0_0 ≤ 7 then (if 0 ≤ a1 ∧ a1 ≤ 127 then some (match (places (a0_0 - 5) 12).find? (spellHit a1) with | some p => ((spot p).1, (spot p).2, spellO a1 p, 0) | none => (0, 0, 0, 20)) else some (0, 0, 0, 2)) else some (0, 0, 0, 30)

theorem cells_own' {β : Type} (B : Nat) (cs : Array Value) (t : TypeId) : Own (fun (_ : β) W => W.heap[B]? = some (.cells cs t (0, 0))) := fun s X Y row hs hg hrow =>
  (hg.block B (Array.getElem?_eq_some_iff.1 hs).1 (fun e => by obtain ⟨o, ho, hc⟩ := hrow B e.symm; rw [show X.heap[B]? = _ from hs] at ho; cases ho; cases hc)).trans hs

def SpellPost (k : Int) (m : Bool) (number : Int) (w : World) (e : Ending) (w' : World) : Prop :=
  (∃ x : Int × Int × Int × Int, key_Spell.f k m number = some x ∧ e = .returned (.tuple #[.agg #[.int .i64 x.1, .int .i64 x.2.1, .int .i64 x.2.2.1], .int .i64 x.2.2.2])) ∧ Below w.heap.size w w'

theorem right_no {k : Int} {m : Bool} (h : ¬ (-7 ≤ k ∧ k ≤ 7)) : key_Right.f k m = some false := by
  unfold key_Right.f
  by_cases h1 : k ≥ -7
  · rw [if_pos h1, decide_eq_false (by omega)]
  · rw [if_neg h1]
theorem right_yes {k : Int} {m : Bool} (h : -7 ≤ k ∧ k ≤ 7) : key_Right.f k m = some true := by
  unfold key_Right.f
  rw [if_pos (by omega), decide_eq_true (by omega)]

set_option maxRecDepth 100000 in
set_option maxHeartbeats 8000000 in
theorem spell_in (k : Int) (m : Bool) (number : Int) (w : World) (hG_ : GW w) (hk : -7 ≤ k ∧ k ≤ 7) (hn : 0 ≤ number ∧ number ≤ 127) : CallsIn Fence.wide 9 Tryd.prog 6 #[.agg #[.int .i64 k, .bool m], .int .i64 number] w (SpellPost k m number w) := by
  have HG := Lib.hid hG_
  have HR := Lib.hid (right_yes (m := m) hk)
  obtain ⟨hk1, hk2⟩ := hk
  obtain ⟨hn1, hn2⟩ := hn
  clear hG_
  refine callsIn_of_wp_marks Tryd.func6 rfl trivial ?_ rfl
  simp only [Tryd.ntmps6, List.size_toArray, List.length_cons, List.length_nil, Nat.reduceAdd, Nat.reduceSub, Array.replicate_succ, Array.replicate_zero, List.push_toArray, List.append_toArray, List.nil_append, List.cons_append]
  have hb1 : decide (number < 0) = false := decide_eq_false (by omega)
  have hb2 : decide (127 < number) = false := decide_eq_false (by omega)
  have hB4 : Below w.heap.size w ((((w.alloc (.cells #[.int .i64 k, .bool m] 23)).alloc (.cells #[.int .i64 number] 3)).alloc (.cells #[.int .i64 0, .int .i64 0, .int .i64 0] 27)).alloc (.cells #[.int .i64 0] 28)) := ((((Below.refl _ w).alloc (Nat.le_refl _) _).alloc (by simp) _).alloc (by simp; omega) _).alloc (by simp; omega) _
  have b0 : ((((w.alloc (.cells #[.int .i64 k, .bool m] 23)).alloc (.cells #[.int .i64 number] 3)).alloc (.cells #[.int .i64 0, .int .i64 0, .int .i64 0] 27)).alloc (.cells #[.int .i64 0] 28)).heap[w.heap.size]? = some (.cells #[.int .i64 k, .bool m] 23 (0, 0)) := blk_alloc (blk_alloc (blk_alloc (blk_new _ _) _) _) _
  have b1 : ((((w.alloc (.cells #[.int .i64 k, .bool m] 23)).alloc (.cells #[.int .i64 number] 3)).alloc (.cells #[.int .i64 0, .int .i64 0, .int .i64 0] 27)).alloc (.cells #[.int .i64 0] 28)).heap[w.heap.size + 1]? = some (.cells #[.int .i64 number] 3 (0, 0)) := by
    have h1 := blk_new (w.alloc (.cells #[.int .i64 k, .bool m] 23)) (.cells #[.int .i64 number] 3)
    rw [World.size_alloc] at h1
    exact blk_alloc (blk_alloc h1 _) _
  have b2 : ((((w.alloc (.cells #[.int .i64 k, .bool m] 23)).alloc (.cells #[.int .i64 number] 3)).alloc (.cells #[.int .i64 0, .int .i64 0, .int .i64 0] 27)).alloc (.cells #[.int .i64 0] 28)).heap[w.heap.size + 1 + 1]? = some (.cells #[.int .i64 0, .int .i64 0, .int .i64 0] 27 (0, 0)) := by
    have h1 := blk_new ((w.alloc (.cells #[.int .i64 k, .bool m] 23)).alloc (.cells #[.int .i64 number] 3)) (.cells #[.int .i64 0, .int .i64 0, .int .i64 0] 27)
    rw [World.size_alloc, World.size_alloc] at h1
    exact blk_alloc h1 _
  have b3 : ((((w.alloc (.cells #[.int .i64 k, .bool m] 23)).alloc (.cells #[.int .i64 number] 3)).alloc (.cells #[.int .i64 0, .int .i64 0, .int .i64 0] 27)).alloc (.cells #[.int .i64 0] 28)).heap[w.heap.size + 1 + 1 + 1]? = some (.cells #[.int .i64 0] 28 (0, 0)) := by
    have h1 := blk_new (((w.alloc (.cells #[.int .i64 k, .bool m] 23)).alloc (.cells #[.int .i64 number] 3)).alloc (.cells #[.int .i64 0, .int .i64 0, .int .i64 0] 27)) (.cells #[.int .i64 0] 28)
    rw [World.size_alloc, World.size_alloc, World.size_alloc] at h1
    exact h1
  have hsz : ((((w.alloc (.cells #[.int .i64 k, .bool m] 23)).alloc (.cells #[.int .i64 number] 3)).alloc (.cells #[.int .i64 0, .int .i64 0, .int .i64 0] 27)).alloc (.cells #[.int .i64 0] 28)).heap.size = w.heap.size + 4 := by simp
  have HB4 := Lib.hid (And.intro b0 (And.intro b1 (And.intro b2 (And.intro b3 (And.intro hB4 hsz)))))
  clear b0 b1 b2 b3 hB4 hsz
  gi_wp2_with fail
  refine ⟨trivial, ?_⟩
  refine (callsIn_wide.2 (key_Right.calls _ _ true _ HR.out)).mono ?_
  rintro e w1 ⟨rfl, hb⟩
  obtain ⟨b0, b1, b2, b3, hB4, hsz⟩ := HB4.out
  have d0 := blk_below b0 hb
  have d1 := blk_below b1 hb
  have d2 := blk_below b2 hb
  have d3 := blk_below b3 hb
  have hB1 : Below w.heap.size w w1 := hB4.trans (hb.mono (by omega))
  have hsz1 : w.heap.size + 4 ≤ w1.heap.size := hsz ▸ hb.size
  clear b0 b1 b2 b3 hB4 hsz HB4 hb
  have ck0 : w1.cell? ⟨w.heap.size, 0, none⟩ = some (.int .i64 k) := (blk_cell d0 0).trans rfl
  have cn0 : w1.cell? ⟨w.heap.size + 1, 0, none⟩ = some (.int .i64 number) := (blk_cell d1 0).trans rfl
  have HD := Lib.hid (And.intro d0 (And.intro d1 (And.intro d2 (And.intro d3 hB1))))
  clear d0 d1 d2 d3 hB1
  gi_wp2_with (refine ⟨trivial, ?_⟩; gi_at_call 13; refine (line_in _ _ _ _).mono ?_; rintro e w' ⟨rfl, rfl⟩)
  obtain ⟨d0, d1, d2, d3, hB1⟩ := HD.out
  have bN := blk_alloc (blk_alloc d1 (.cells #[.int .i64 (k - 5)] 3)) (.cells #[.int .i64 (k + 6)] 3)
  have bP := blk_alloc (blk_alloc d2 (.cells #[.int .i64 (k - 5)] 3)) (.cells #[.int .i64 (k + 6)] 3)
  have bE := blk_alloc (blk_alloc d3 (.cells #[.int .i64 (k - 5)] 3)) (.cells #[.int .i64 (k + 6)] 3)
  have bF := blk_alloc (blk_new w1 (.cells #[.int .i64 (k - 5)] 3)) (.cells #[.int .i64 (k + 6)] 3)
  have bT := blk_new (w1.alloc (.cells #[.int .i64 (k - 5)] 3)) (.cells #[.int .i64 (k + 6)] 3)
  rw [World.size_alloc] at bT
  have hB0 : Below w.heap.size w ((w1.alloc (.cells #[.int .i64 (k - 5)] 3)).alloc (.cells #[.int .i64 (k + 6)] 3)) := hB1.trans ((((Below.refl _ w1).alloc (by omega) _).alloc (by simp; omega) _))
  have hszW : ((w1.alloc (.cells #[.int .i64 (k - 5)] 3)).alloc (.cells #[.int .i64 (k + 6)] 3)).heap.size = w1.heap.size + 2 := by simp
  obtain ⟨W0, hW0⟩ : ∃ W0, ((w1.alloc (.cells #[.int .i64 (k - 5)] 3)).alloc (.cells #[.int .i64 (k + 6)] 3)) = W0 := ⟨_, rfl⟩
  rw [hW0] at bN bP bE bF bT hB0 hszW ⊢
  clear hW0 d0 d1 d2 d3 hB1 HD ck0 cn0
  have hmx : Tryd.prog.follows .mixedOrders = true := by kernel_rfl
  refine wpIn_rangeFunc_ownH rfl (by omega) (gf := 20) (lb := #[.pointer (some ⟨w1.heap.size, 0, none⟩), .pointer (some ⟨w1.heap.size + 1, 0, none⟩)]) rfl trivial (enters_of Tryd.func20 (by kernel_rfl) rfl)
    (line_stops 8 (by omega) w1.heap.size (w1.heap.size + 1) W0.heap.size (k - 5) 12 (by omega) (by omega) (by omega) (by omega) W0 (Nat.le_refl _) ((blk_cell bF 0).trans rfl) (by rw [show k - 5 + ((12 : Nat) : Int) - 1 = k + 6 from by omega]; exact (blk_cell bT 0).trans rfl)) belowK_t (belowK_b (Nat.le_refl _)) (Below.refl _ _) (fun _ => rfl)
    (fun pre W => ((W.heap[w.heap.size + 1]? = some (.cells #[.int .i64 number] 3 (0, 0)) ∧ W.heap[w.heap.size + 1 + 1]? = some (.cells #[.int .i64 0, .int .i64 0, .int .i64 0] 27 (0, 0)) ∧ W.heap[w.heap.size + 1 + 1 + 1]? = some (.cells #[.int .i64 0] 28 (0, 0))) ∧ (∀ p ∈ pre, ¬ spellHit number p = true)) ∧ Below W0.heap.size W0 W)
    (fun c pre W => c = .ret ∧ ∃ q x, pre = q ++ [x] ∧ (∀ p ∈ q, ¬ spellHit number p = true) ∧ spellHit number x = true ∧ (W.heap[w.heap.size + 1 + 1]? = some (.cells #[.int .i64 (spot x).1, .int .i64 (spot x).2, .int .i64 (spellO number x)] 27 (0, 0)) ∧ W.heap[w.heap.size + 1 + 1 + 1]? = some (.cells #[.int .i64 0] 28 (0, 0))) ∧ Below w.heap.size w W)
    (OwnFrom.and (OwnFrom.and (OwnFrom.and (Own.from (cells_own' _ _ _) _) (OwnFrom.and (Own.from (cells_own' _ _ _) _) (Own.from (cells_own' _ _ _) _))) (ownFrom_pure _ (fun pre => ∀ p ∈ pre, ¬ spellHit number p = true))) (ownFrom_below (Nat.le_refl _) (Nat.le_refl _)))
    ?hIx
    ⟨⟨⟨bN, bP, bE⟩, by simp⟩, Below.refl _ _⟩
    (fun x a' W => ∃ Bx, W0.heap.size ≤ Bx ∧ W.heap[Bx]? = some (.cells #[.int .i64 (spot x).1, .int .i64 (spot x).2] 49 (0, 0)) ∧ a' = { tmps := #[.agg #[.int .i64 k, .bool m], .int .i64 number, .pointer (some ⟨w.heap.size, 0, none⟩), .pointer (some ⟨w.heap.size + 1, 0, none⟩), .pointer (some ⟨w.heap.size + 1 + 1, 0, none⟩), .pointer (some ⟨w.heap.size + 1 + 1 + 1, 0, none⟩), .pointer (some ⟨Bx, 0, none⟩), undef, undef, .agg #[.int .i64 k, .bool m], .bool true, .bool false, undef, .int .i64 number, .bool false, .bool false, .int .i64 number, .bool false, .bool false, undef, .pointer (some ⟨w.heap.size, 0, none⟩), .int .i64 k, .int .i64 (k - 5), .pointer (some ⟨w.heap.size, 0, none⟩), .int .i64 k, .int .i64 (k + 6), .func (.func 20) #[] #[.pointer (some ⟨w1.heap.size, 0, none⟩), .pointer (some ⟨w1.heap.size + 1, 0, none⟩)], .agg #[.int .i64 (spot x).1, .int .i64 (spot x).2], undef, undef, undef, undef, undef, undef, undef, undef, undef, undef, undef, undef, undef, undef, undef, undef, undef, undef, undef, undef, undef, undef, undef], defers := [] })
    ?hAx ?assign ?body ?done ?stop
  case hIx =>
    rintro c t X Y row ⟨hc, q, x, h1, h2, h3, ⟨h4, h4'⟩, h5⟩ hg hr
    exact ⟨hc, q, x, h1, h2, h3, ⟨cells_own' _ _ 27 () X Y row h4 hg (fun r e => (hr r e).2), cells_own' _ _ 28 () X Y row h4' hg (fun r e => (hr r e).2)⟩, h5.grown hg h5.size (fun r e => by have := (hr r e).1; omega)⟩
  case hAx =>
    rintro x a' _ X Y row ⟨Bx, h1, h2, h3⟩ hg hr
    exact ⟨Bx, h1, cells_own' Bx _ 49 () X Y row h2 hg (fun r e => (hr r e).2), h3⟩
  case assign =>
    rintro l pre x W K ⟨⟨⟨bN1, bP1, bE1⟩, hp⟩, hB1⟩ hK
    gi_wp2
    have hs1 := hB1.size
    exact hK _ _ ((KeepsOthers.alloc _ _).from _) ((Below.refl _ W).alloc hs1 _) ⟨⟨⟨blk_alloc bN1 _, blk_alloc bP1 _, blk_alloc bE1 _⟩, hp⟩, hB1.alloc hs1 _⟩ ⟨W.heap.size, hs1, World.alloc_heap_new W _, rfl⟩
  case body =>
    rintro l pre x a' W hl ⟨r, hr⟩ ⟨⟨⟨bN1, bP1, bE1⟩, hp⟩, hB1⟩ ⟨Bx, hBx, bX, rfl⟩ hlt
    have cN := (blk_cell bN1 0).trans rfl
    have c0 : W.cell? ⟨Bx, 0, none⟩ = some (.int .i64 (spot x).1) := (blk_cell bX 0).trans rfl
    have c1 : W.cell? ⟨Bx, 1, none⟩ = some (.int .i64 (spot x).2) := (blk_cell bX 1).trans rfl
    have HH := Lib.hid (halves_at x)
    have h20 : Fence.wide.fn 14 := trivial
    have hs1 := hB1.size
    have hBx2 := (Array.getElem?_eq_some_iff.1 bX).1
    gi_wp2
    rename_i Q1 K1 hK1
    have fin : ∀ w2, Below W.heap.size W w2 → Exit.then K1 (Exit.inBlock 1 Q1) Exit.normal { tmps := #[.agg #[.int .i64 k, .bool m], .int .i64 number, .pointer (some ⟨w.heap.size, 0, none⟩), .pointer (some ⟨w.heap.size + 1, 0, none⟩), .pointer (some ⟨w.heap.size + 1 + 1, 0, none⟩), .pointer (some ⟨w.heap.size + 1 + 1 + 1, 0, none⟩), .pointer (some ⟨Bx, 0, none⟩), .int .i64 (IntKind.i64.wrap (IntKind.i64.wrap (number - halfOf x) - (spot x).2)), undef, .agg #[.int .i64 k, .bool m], .bool true, .bool false, undef, .int .i64 number, .bool false, .bool false, .int .i64 number, .bool false, .bool false, undef, .pointer (some ⟨w.heap.size, 0, none⟩), .int .i64 k, .int .i64 (k - 5), .pointer (some ⟨w.heap.size, 0, none⟩), .int .i64 k, .int .i64 (k + 6), .func (.func 20) #[] #[.pointer (some ⟨w1.heap.size, 0, none⟩), .pointer (some ⟨w1.heap.size + 1, 0, none⟩)], .agg #[.int .i64 (spot x).1, .int .i64 (spot x).2], .int .i64 number, .pointer (some ⟨Bx, 0, none⟩), .int .i64 (spot x).1, .int .i64 (halfOf x), .int .i64 (IntKind.i64.wrap (number - halfOf x)), .pointer (some ⟨Bx, 1, none⟩), .int .i64 (spot x).2, .int .i64 (IntKind.i64.wrap (IntKind.i64.wrap (number - halfOf x) - (spot x).2)), undef, undef, undef, undef, undef, undef, undef, undef, undef, undef, undef, undef, undef, undef, undef], defers := [] } w2 := by
      intro w2 hb2
      have eN : (IntKind.i64.wrap (IntKind.i64.wrap (number - halfOf x) - (spot x).2)) = spellN number x := rfl
      rw [eN]
      have hBw2 : Below w.heap.size w w2 := (hB0.trans (hB1.mono (by omega))).trans (hb2.mono (by omega))
      obtain ⟨nn, hnn⟩ : ∃ nn, spellN number x = nn := ⟨_, rfl⟩
      rw [hnn]
      have HNN := Lib.hid hnn
      have HHH := Lib.hid (And.intro HH.out (And.intro cN c0))
      generalize halfOf x = hf at *
      clear hnn eN HH cN c0 c1
      have bX2 := blk_below bX hb2
      have bN2 := blk_below bN1 hb2
      have bP2 := blk_below bP1 hb2
      have bE2 := blk_below bE1 hb2
      have c0 : w2.cell? ⟨Bx, 0, none⟩ = some (.int .i64 (spot x).1) := (blk_cell bX2 0).trans rfl
      have c1 : w2.cell? ⟨Bx, 1, none⟩ = some (.int .i64 (spot x).2) := (blk_cell bX2 1).trans rfl
      have hlt2 := blk_lt bX2
      have HD2 := Lib.hid (And.intro bX2 (And.intro bN2 (And.intro bP2 bE2)))
      clear bX2 bN2 bP2 bE2
      by_cases ht : Int.tmod nn 12 = 0
      · have t1 : (Int.tmod nn 12 == 0) = true := beq_iff_eq.2 ht
        have t2 : (Int.tmod nn 12 != 0) = false := bne_eq_false_iff_eq.2 ht
        have HT := Lib.hid ht
        clear ht
        have hO : spellO number x = (wrap64 (wrap64 (nn.tdiv 12) - 1)) := by unfold spellO; rw [HNN.out]
        have hRt : pitch_Right.f (spot x).1 (spot x).2 (wrap64 (wrap64 (nn.tdiv 12) - 1)) = some (rightAt number x) := by have := right_at number x; rwa [hO] at this
        have HRT := Lib.hid (And.intro hO hRt)
        clear hO hRt
        gi_wp2_with fail
        refine ⟨trivial, ?_⟩
        have hBw3 := hBw2.alloc hBw2.size (.cells #[.int .i64 (spot x).1, .int .i64 (spot x).2, .int .i64 (wrap64 (wrap64 (nn.tdiv 12) - 1))] 27)
        refine (CallsIn.inRound l (callsIn_wide.2 (pitch_Right.calls _ _ _ _ _ (GW.step HG.out hBw3) HRT.out.2))).mono ?_
        rintro e w3 ⟨rfl, hb3⟩
        obtain ⟨bX2, bN2, bP2, bE2⟩ := HD2.out
        have p3 := blk_below (blk_new w2 (.cells #[.int .i64 (spot x).1, .int .i64 (spot x).2, .int .i64 (wrap64 (wrap64 (nn.tdiv 12) - 1))] 27)) hb3
        have bN3 := blk_below (blk_alloc bN2 (.cells #[.int .i64 (spot x).1, .int .i64 (spot x).2, .int .i64 (wrap64 (wrap64 (nn.tdiv 12) - 1))] 27)) hb3
        have bP3 := blk_below (blk_alloc bP2 (.cells #[.int .i64 (spot x).1, .int .i64 (spot x).2, .int .i64 (wrap64 (wrap64 (nn.tdiv 12) - 1))] 27)) hb3
        have bE3 := blk_below (blk_alloc bE2 (.cells #[.int .i64 (spot x).1, .int .i64 (spot x).2, .int .i64 (wrap64 (wrap64 (nn.tdiv 12) - 1))] 27)) hb3
        have hBw4 : Below w.heap.size w w3 := hBw3.trans (hb3.mono (by have := hBw2.size; simp; omega))
        have hkf : KeepsFrom W0.heap.size W w3 := ((KeepsOthers.of_grownBy (row := none) (grown_below hb2 none) (fun j o e => by cases e)).trans ((KeepsOthers.alloc w2 _).trans (KeepsOthers.of_grownBy (row := none) (grown_below hb3 none) (fun j o e => by cases e)))).from _
        have hn0 : Below W0.heap.size W w3 := ((hb2.mono hs1).alloc (Nat.le_trans hs1 hb2.size) _).trans (hb3.mono (by have := hb2.size; simp; omega))
        have q0 : w3.cell? ⟨w2.heap.size, 0, none⟩ = some (.int .i64 (spot x).1) := (blk_cell p3 0).trans rfl
        have q1 : w3.cell? ⟨w2.heap.size, 1, none⟩ = some (.int .i64 (spot x).2) := (blk_cell p3 1).trans rfl
        have q2 : w3.cell? ⟨w2.heap.size, 2, none⟩ = some (.int .i64 (wrap64 (wrap64 (nn.tdiv 12) - 1))) := (blk_cell p3 2).trans rfl
        have r0 : w3.cell? ⟨w.heap.size + 1 + 1, 0, none⟩ = some (.int .i64 0) := (blk_cell bP3 0).trans rfl
        have r1 : w3.cell? ⟨w.heap.size + 1 + 1, 1, none⟩ = some (.int .i64 0) := (blk_cell bP3 1).trans rfl
        have r2 : w3.cell? ⟨w.heap.size + 1 + 1, 2, none⟩ = some (.int .i64 0) := (blk_cell bP3 2).trans rfl
        have rf0 := blk_frozen bP3 0
        have rf1 := blk_frozen bP3 1
        have rf2 := blk_frozen bP3 2
        have e0 : w3.cell? ⟨w.heap.size + 1 + 1 + 1, 0, none⟩ = some (.int .i64 0) := (blk_cell bE3 0).trans rfl
        have ef0 := blk_frozen bE3 0
        have hHit : spellHit number x = rightAt number x := by unfold spellHit; rw [HNN.out, t1, Bool.true_and]
        have HALL := Lib.hid (And.intro bN3 (And.intro bP3 (And.intro bE3 (And.intro hBw4 (And.intro hkf (And.intro hn0 hHit))))))
        clear bX2 bN2 bP2 bE2 p3 bN3 bP3 bE3 hBw4 hkf hn0 hHit hb2 hb3 hBw3 HD2
        obtain ⟨b, hb⟩ : ∃ b, rightAt number x = b := ⟨_, rfl⟩
        rw [hb]
        have HB := Lib.hid hb
        clear hb
        cases b with
        | true =>
          gi_wp2
          obtain ⟨bN3, bP3, bE3, hBw4, hkf, hn0, hHit⟩ := HALL.out
          refine ⟨?_, rfl, pre, x, rfl, hp, by rw [hHit, HB.out], ⟨?_, ?_⟩, ?_⟩
          · exact ((((hkf.trans ((KeepsOthers.setCell _ _ _).from _)).trans ((KeepsOthers.setCell _ _ _).from _)).trans ((KeepsOthers.setCell _ _ _).from _)).trans ((KeepsOthers.setCell _ _ _).from _))
          · rw [HRT.out.1]
            exact blk_far (blk_put (cs := #[.int .i64 (spot x).1, .int .i64 (spot x).2, .int .i64 0]) (blk_put (cs := #[.int .i64 (spot x).1, .int .i64 0, .int .i64 0]) (blk_put (cs := #[.int .i64 0, .int .i64 0, .int .i64 0]) bP3 0 _ rfl) 1 _ rfl) 2 _ rfl) (by simp) _
          · exact blk_put (cs := #[.int .i64 0]) (blk_far (blk_far (blk_far bE3 (by simp) _) (by simp) _) (by simp) _) 0 _ rfl
          · exact (((hBw4.setCell (p := ⟨w.heap.size + 1 + 1, 0, none⟩) (by simp; omega) _).setCell (p := ⟨w.heap.size + 1 + 1, 1, none⟩) (by simp; omega) _).setCell (p := ⟨w.heap.size + 1 + 1, 2, none⟩) (by simp; omega) _).setCell (p := ⟨w.heap.size + 1 + 1 + 1, 0, none⟩) (by simp; omega) _
        | false =>
          gi_wp2
          obtain ⟨bN3, bP3, bE3, hBw4, hkf, hn0, hHit⟩ := HALL.out
          refine ⟨hkf, hn0, ⟨⟨bN3, bP3, bE3⟩, ?_⟩, hB1.trans hn0⟩
          intro p hpm
          rcases List.mem_append.1 hpm with h | h
          · exact hp p h
          · rw [List.mem_singleton.1 h, hHit, HB.out]; simp
      · have t1 : (Int.tmod nn 12 == 0) = false := beq_eq_false_iff_ne.2 ht
        have t2 : (Int.tmod nn 12 != 0) = true := bne_iff_ne.2 ht
        have hHit : spellHit number x = false := by unfold spellHit; rw [HNN.out, t1, Bool.false_and]
        have HHIT := Lib.hid hHit
        clear hHit ht
        gi_wp2
        obtain ⟨bX2, bN2, bP2, bE2⟩ := HD2.out
        refine ⟨(KeepsOthers.of_grownBy (row := none) (grown_below hb2 none) (fun j o e => by cases e)).from _, hb2.mono hs1, ⟨⟨bN2, bP2, bE2⟩, ?_⟩, hB1.trans (hb2.mono hs1)⟩
        intro p hpm
        rcases List.mem_append.1 hpm with h | h
        · exact hp p h
        · rw [List.mem_singleton.1 h, HHIT.out]; simp
    gi_region_with_o (gi_at_call 14; refine (CallsIn.inRound l (callsIn_wide.2 (key_halves.calls _ _ _ HH.out))).mono ?_; rintro e w2 ⟨rfl, hb2⟩; have cN2 : w2.cell? ⟨w.heap.size + 1, 0, none⟩ = some (.int .i64 number) := (hb2.cell (p := ⟨w.heap.size + 1, 0, none⟩) (by simp; omega)).trans cN; have c02 : w2.cell? ⟨Bx, 0, none⟩ = some (.int .i64 (spot x).1) := (hb2.cell (p := ⟨Bx, 0, none⟩) (by simp; omega)).trans c0; have c12 : w2.cell? ⟨Bx, 1, none⟩ = some (.int .i64 (spot x).2) := (hb2.cell (p := ⟨Bx, 1, none⟩) (by simp; omega)).trans c1)
    all_goals exact fin _ ⟨hb2.os, hb2.tape, hb2.output, hb2.size, hb2.block⟩
  case done =>
    rintro D xs W hD rfl ⟨⟨⟨bN1, bP1, bE1⟩, hp⟩, hB1⟩ hK
    have r0 : W.cell? ⟨w.heap.size + 1 + 1, 0, none⟩ = some (.int .i64 0) := (blk_cell bP1 0).trans rfl
    have r1 : W.cell? ⟨w.heap.size + 1 + 1, 1, none⟩ = some (.int .i64 0) := (blk_cell bP1 1).trans rfl
    have r2 : W.cell? ⟨w.heap.size + 1 + 1, 2, none⟩ = some (.int .i64 0) := (blk_cell bP1 2).trans rfl
    have rf0 := blk_frozen bP1 0
    have rf1 := blk_frozen bP1 1
    have rf2 := blk_frozen bP1 2
    have e0 : W.cell? ⟨w.heap.size + 1 + 1 + 1, 0, none⟩ = some (.int .i64 0) := (blk_cell bE1 0).trans rfl
    have ef0 := blk_frozen bE1 0
    have HN : Hid ((places (k - 5) 12).find? (spellHit number) = none) := by
      refine Lib.hid ?_
      rw [List.find?_eq_none]
      exact fun x hx => hp x hx
    have HBS := Lib.hid (And.intro bP1 bE1)
    have HGW := HG
    clear bP1 bE1 hp
    gi_wp2
    obtain ⟨bP1, bE1⟩ := HBS.out
    have hk := blk_far (blk_put (cs := #[.int .i64 0, .int .i64 0, .int .i64 0]) (blk_put (cs := #[.int .i64 0, .int .i64 0, .int .i64 0]) (blk_put (cs := #[.int .i64 0, .int .i64 0, .int .i64 0]) bP1 0 (.int .i64 0) rfl) 1 (.int .i64 0) rfl) 2 (.int .i64 0) rfl) (p := ⟨w.heap.size + 1 + 1 + 1, 0, none⟩) (by simp) (.int .i64 20)
    have he := blk_put (cs := #[.int .i64 0]) (blk_far (blk_far (blk_far bE1 (p := ⟨w.heap.size + 1 + 1, 0, none⟩) (by simp) (.int .i64 0)) (p := ⟨w.heap.size + 1 + 1, 1, none⟩) (by simp) (.int .i64 0)) (p := ⟨w.heap.size + 1 + 1, 2, none⟩) (by simp) (.int .i64 0)) 0 (.int .i64 20) rfl
    have hB2 := ((((hB0.trans (hB1.mono (by omega))).setCell (p := ⟨w.heap.size + 1 + 1, 0, none⟩) (by simp; omega) (.int .i64 0)).setCell (p := ⟨w.heap.size + 1 + 1, 1, none⟩) (by simp; omega) (.int .i64 0)).setCell (p := ⟨w.heap.size + 1 + 1, 2, none⟩) (by simp; omega) (.int .i64 0)).setCell (p := ⟨w.heap.size + 1 + 1 + 1, 0, none⟩) (by simp; omega) (.int .i64 20)
    have hK' := ((((KeepsOthers.setCell W ⟨w.heap.size + 1 + 1, 0, none⟩ (.int .i64 0)).trans (KeepsOthers.setCell _ ⟨w.heap.size + 1 + 1, 1, none⟩ (.int .i64 0))).trans (KeepsOthers.setCell _ ⟨w.heap.size + 1 + 1, 2, none⟩ (.int .i64 0))).trans (KeepsOthers.setCell _ ⟨w.heap.size + 1 + 1 + 1, 0, none⟩ (.int .i64 20))).same D _ hK rfl
    generalize ((((W.setCell ⟨w.heap.size + 1 + 1, 0, none⟩ (.int .i64 0)).setCell ⟨w.heap.size + 1 + 1, 1, none⟩ (.int .i64 0)).setCell ⟨w.heap.size + 1 + 1, 2, none⟩ (.int .i64 0)).setCell ⟨w.heap.size + 1 + 1 + 1, 0, none⟩ (.int .i64 20)) = W3 at hB2 hK' hk he ⊢
    refine ⟨by simp, .inl ⟨_, _, rfl, run_takeDeferred hK', ?_⟩⟩
    have hc0 := cell_kept ((blk_cell hk 0).trans rfl) (grownBy_putObj' _ D (.deferred none)) (fun r e => by cases e; exact ⟨_, hK', rfl⟩)
    have hc1 := cell_kept ((blk_cell hk 1).trans rfl) (grownBy_putObj' _ D (.deferred none)) (fun r e => by cases e; exact ⟨_, hK', rfl⟩)
    have hc2 := cell_kept ((blk_cell hk 2).trans rfl) (grownBy_putObj' _ D (.deferred none)) (fun r e => by cases e; exact ⟨_, hK', rfl⟩)
    have hc3 := cell_kept ((blk_cell he 0).trans rfl) (grownBy_putObj' _ D (.deferred none)) (fun r e => by cases e; exact ⟨_, hK', rfl⟩)
    refine ⟨.tuple #[.agg #[.int .i64 0, .int .i64 0, .int .i64 0], .int .i64 20], ?_, ⟨(0, 0, 0, 20), ?_, rfl⟩, ?_⟩
    · simp [results, Tryd.f6, go_sem, hc0, hc1, hc2, hc3, Tryd.underlying27]
    · unfold key_Spell.f; rw [if_pos ⟨hk1, hk2⟩, if_pos ⟨hn1, hn2⟩, HN.out]
    · exact hB2.trans (belowK_b (w := w) (Nat.le_refl _) _ D _ _ (by omega) hK' rfl rfl)
  case stop =>
    rintro D c pre W hD ⟨j, hj, hpre⟩ ⟨rfl, q, x, rfl, hqn, hx, ⟨bP1, bE1⟩, hB1⟩ hK
    have HF : Hid ((places (k - 5) 12).find? (spellHit number) = some x) := by
      refine Lib.hid ?_
      obtain ⟨r, hr⟩ := places_prefix (k - 5) hj
      rw [← hr, ← hpre, List.append_assoc, List.find?_append, List.find?_eq_none.2 hqn]
      simp [hx]
    have HX := Lib.hid hx
    have HP := Lib.hid hpre
    clear hx hpre hqn
    gi_wp2
    refine ⟨by simp, .inl ⟨_, _, rfl, run_takeDeferred hK, ?_⟩⟩
    have hc0 := cell_kept ((blk_cell bP1 0).trans rfl) (grownBy_putObj' _ D (.deferred none)) (fun r e => by cases e; exact ⟨_, hK, rfl⟩)
    have hc1 := cell_kept ((blk_cell bP1 1).trans rfl) (grownBy_putObj' _ D (.deferred none)) (fun r e => by cases e; exact ⟨_, hK, rfl⟩)
    have hc2 := cell_kept ((blk_cell bP1 2).trans rfl) (grownBy_putObj' _ D (.deferred none)) (fun r e => by cases e; exact ⟨_, hK, rfl⟩)
    have hc3 := cell_kept ((blk_cell bE1 0).trans rfl) (grownBy_putObj' _ D (.deferred none)) (fun r e => by cases e; exact ⟨_, hK, rfl⟩)
    refine ⟨.tuple #[.agg #[.int .i64 (spot x).1, .int .i64 (spot x).2, .int .i64 (spellO number x)], .int .i64 0], ?_, ⟨((spot x).1, (spot x).2, spellO number x, 0), ?_, rfl⟩, ?_⟩
    · simp [results, Tryd.f6, go_sem, hc0, hc1, hc2, hc3, Tryd.underlying27]
    · unfold key_Spell.f; rw [if_pos ⟨hk1, hk2⟩, if_pos ⟨hn1, hn2⟩, HF.out]
    · exact hB1.trans (belowK_b (w := w) (Nat.le_refl _) _ D _ _ (by omega) hK rfl rfl)
set_option maxRecDepth 100000 in
set_option maxHeartbeats 8000000 in
theorem spell_early (k : Int) (m : Bool) (number : Int) (w : World) (hc : ¬ (-7 ≤ k ∧ k ≤ 7) ∨ ((-7 ≤ k ∧ k ≤ 7) ∧ ¬ (0 ≤ number ∧ number ≤ 127))) : CallsIn Fence.wide 9 Tryd.prog 6 #[.agg #[.int .i64 k, .bool m], .int .i64 number] w (SpellPost k m number w) := by
  refine callsIn_of_wp_marks Tryd.func6 rfl trivial ?_ rfl
  simp only [Tryd.ntmps6, List.size_toArray, List.length_cons, List.length_nil, Nat.reduceAdd, Nat.reduceSub, Array.replicate_succ, Array.replicate_zero, List.push_toArray, List.append_toArray, List.nil_append, List.cons_append]
  have hB4 : Below w.heap.size w ((((w.alloc (.cells #[.int .i64 k, .bool m] 23)).alloc (.cells #[.int .i64 number] 3)).alloc (.cells #[.int .i64 0, .int .i64 0, .int .i64 0] 27)).alloc (.cells #[.int .i64 0] 28)) := ((((Below.refl _ w).alloc (Nat.le_refl _) _).alloc (by simp) _).alloc (by simp; omega) _).alloc (by simp; omega) _
  have b0 : ((((w.alloc (.cells #[.int .i64 k, .bool m] 23)).alloc (.cells #[.int .i64 number] 3)).alloc (.cells #[.int .i64 0, .int .i64 0, .int .i64 0] 27)).alloc (.cells #[.int .i64 0] 28)).heap[w.heap.size]? = some (.cells #[.int .i64 k, .bool m] 23 (0, 0)) := blk_alloc (blk_alloc (blk_alloc (blk_new _ _) _) _) _
  have b1 : ((((w.alloc (.cells #[.int .i64 k, .bool m] 23)).alloc (.cells #[.int .i64 number] 3)).alloc (.cells #[.int .i64 0, .int .i64 0, .int .i64 0] 27)).alloc (.cells #[.int .i64 0] 28)).heap[w.heap.size + 1]? = some (.cells #[.int .i64 number] 3 (0, 0)) := by
    have h1 := blk_new (w.alloc (.cells #[.int .i64 k, .bool m] 23)) (.cells #[.int .i64 number] 3)
    rw [World.size_alloc] at h1
    exact blk_alloc (blk_alloc h1 _) _
  have b2 : ((((w.alloc (.cells #[.int .i64 k, .bool m] 23)).alloc (.cells #[.int .i64 number] 3)).alloc (.cells #[.int .i64 0, .int .i64 0, .int .i64 0] 27)).alloc (.cells #[.int .i64 0] 28)).heap[w.heap.size + 1 + 1]? = some (.cells #[.int .i64 0, .int .i64 0, .int .i64 0] 27 (0, 0)) := by
    have h1 := blk_new ((w.alloc (.cells #[.int .i64 k, .bool m] 23)).alloc (.cells #[.int .i64 number] 3)) (.cells #[.int .i64 0, .int .i64 0, .int .i64 0] 27)
    rw [World.size_alloc, World.size_alloc] at h1
    exact blk_alloc h1 _
  have b3 : ((((w.alloc (.cells #[.int .i64 k, .bool m] 23)).alloc (.cells #[.int .i64 number] 3)).alloc (.cells #[.int .i64 0, .int .i64 0, .int .i64 0] 27)).alloc (.cells #[.int .i64 0] 28)).heap[w.heap.size + 1 + 1 + 1]? = some (.cells #[.int .i64 0] 28 (0, 0)) := by
    have h1 := blk_new (((w.alloc (.cells #[.int .i64 k, .bool m] 23)).alloc (.cells #[.int .i64 number] 3)).alloc (.cells #[.int .i64 0, .int .i64 0, .int .i64 0] 27)) (.cells #[.int .i64 0] 28)
    rw [World.size_alloc, World.size_alloc, World.size_alloc] at h1
    exact h1
  have hsz : ((((w.alloc (.cells #[.int .i64 k, .bool m] 23)).alloc (.cells #[.int .i64 number] 3)).alloc (.cells #[.int .i64 0, .int .i64 0, .int .i64 0] 27)).alloc (.cells #[.int .i64 0] 28)).heap.size = w.heap.size + 4 := by simp
  have HB4 := Lib.hid (And.intro b0 (And.intro b1 (And.intro b2 (And.intro b3 (And.intro hB4 hsz)))))
  clear b0 b1 b2 b3 hB4 hsz
  gi_wp2_with fail
  refine ⟨trivial, ?_⟩
  obtain ⟨b, hR, hbc⟩ : ∃ b, key_Right.f k m = some b ∧ ((b = false ∧ ¬ (-7 ≤ k ∧ k ≤ 7)) ∨ (b = true ∧ (-7 ≤ k ∧ k ≤ 7) ∧ ¬ (0 ≤ number ∧ number ≤ 127))) := by
    rcases hc with h | ⟨h, h2⟩
    · exact ⟨false, right_no h, .inl ⟨rfl, h⟩⟩
    · exact ⟨true, right_yes h, .inr ⟨rfl, h, h2⟩⟩
  refine (callsIn_wide.2 (key_Right.calls _ _ b _ hR)).mono ?_
  clear hR hc
  rintro e w1 ⟨rfl, hb⟩
  obtain ⟨b0, b1, b2, b3, hB4, hsz⟩ := HB4.out
  have d0 := blk_below b0 hb
  have d1 := blk_below b1 hb
  have d2 := blk_below b2 hb
  have d3 := blk_below b3 hb
  have hB1 : Below w.heap.size w w1 := hB4.trans (hb.mono (by omega))
  clear b0 b1 b2 b3 hB4 HB4 hb
  have cn0 : w1.cell? ⟨w.heap.size + 1, 0, none⟩ = some (.int .i64 number) := (blk_cell d1 0).trans rfl
  have r0 : w1.cell? ⟨w.heap.size + 1 + 1, 0, none⟩ = some (.int .i64 0) := (blk_cell d2 0).trans rfl
  have r1 : w1.cell? ⟨w.heap.size + 1 + 1, 1, none⟩ = some (.int .i64 0) := (blk_cell d2 1).trans rfl
  have r2 : w1.cell? ⟨w.heap.size + 1 + 1, 2, none⟩ = some (.int .i64 0) := (blk_cell d2 2).trans rfl
  have rf0 := blk_frozen d2 0
  have rf1 := blk_frozen d2 1
  have rf2 := blk_frozen d2 2
  have e0 : w1.cell? ⟨w.heap.size + 1 + 1 + 1, 0, none⟩ = some (.int .i64 0) := (blk_cell d3 0).trans rfl
  have ef0 := blk_frozen d3 0
  have HD := Lib.hid (And.intro d2 (And.intro d3 hB1))
  clear d0 d1 d2 d3 hB1
  have fin : ∀ (z : Int) (tm : Array Value), key_Spell.f k m number = some (0, 0, 0, z) → tm[4]? = some (.pointer (some ⟨w.heap.size + 1 + 1, 0, none⟩)) → tm[5]? = some (.pointer (some ⟨w.heap.size + 1 + 1 + 1, 0, none⟩)) → bodyPostM Fence.wide 9 Tryd.prog Tryd.f6 (SpellPost k m number w) Exit.ret { tmps := tm, defers := [] } ((((w1.setCell ⟨w.heap.size + 1 + 1, 0, none⟩ (.int .i64 0)).setCell ⟨w.heap.size + 1 + 1, 1, none⟩ (.int .i64 0)).setCell ⟨w.heap.size + 1 + 1, 2, none⟩ (.int .i64 0)).setCell ⟨w.heap.size + 1 + 1 + 1, 0, none⟩ (.int .i64 z)) := by
    intro z tm hz ht4 ht5
    obtain ⟨bP1, bE1, hB1⟩ := HD.out
    have hk := blk_far (blk_put (cs := #[.int .i64 0, .int .i64 0, .int .i64 0]) (blk_put (cs := #[.int .i64 0, .int .i64 0, .int .i64 0]) (blk_put (cs := #[.int .i64 0, .int .i64 0, .int .i64 0]) bP1 0 (.int .i64 0) rfl) 1 (.int .i64 0) rfl) 2 (.int .i64 0) rfl) (p := ⟨w.heap.size + 1 + 1 + 1, 0, none⟩) (by simp) (.int .i64 z)
    have he := blk_put (cs := #[.int .i64 0]) (blk_far (blk_far (blk_far bE1 (p := ⟨w.heap.size + 1 + 1, 0, none⟩) (by simp) (.int .i64 0)) (p := ⟨w.heap.size + 1 + 1, 1, none⟩) (by simp) (.int .i64 0)) (p := ⟨w.heap.size + 1 + 1, 2, none⟩) (by simp) (.int .i64 0)) 0 (.int .i64 z) rfl
    have hB2 := (((hB1.setCell (p := ⟨w.heap.size + 1 + 1, 0, none⟩) (by simp; omega) (.int .i64 0)).setCell (p := ⟨w.heap.size + 1 + 1, 1, none⟩) (by simp; omega) (.int .i64 0)).setCell (p := ⟨w.heap.size + 1 + 1, 2, none⟩) (by simp; omega) (.int .i64 0)).setCell (p := ⟨w.heap.size + 1 + 1 + 1, 0, none⟩) (by simp; omega) (.int .i64 z)
    generalize ((((w1.setCell ⟨w.heap.size + 1 + 1, 0, none⟩ (.int .i64 0)).setCell ⟨w.heap.size + 1 + 1, 1, none⟩ (.int .i64 0)).setCell ⟨w.heap.size + 1 + 1, 2, none⟩ (.int .i64 0)).setCell ⟨w.heap.size + 1 + 1 + 1, 0, none⟩ (.int .i64 z)) = W3 at hB2 hk he ⊢
    have hc0 : W3.cell? ⟨w.heap.size + 1 + 1, 0, none⟩ = some (.int .i64 0) := (blk_cell hk 0).trans rfl
    have hc1 : W3.cell? ⟨w.heap.size + 1 + 1, 1, none⟩ = some (.int .i64 0) := (blk_cell hk 1).trans rfl
    have hc2 : W3.cell? ⟨w.heap.size + 1 + 1, 2, none⟩ = some (.int .i64 0) := (blk_cell hk 2).trans rfl
    have hc3 : W3.cell? ⟨w.heap.size + 1 + 1 + 1, 0, none⟩ = some (.int .i64 z) := (blk_cell he 0).trans rfl
    refine ⟨.tuple #[.agg #[.int .i64 0, .int .i64 0, .int .i64 0], .int .i64 z], ?_, ⟨(0, 0, 0, z), hz, rfl⟩, hB2⟩
    simp [results, Tryd.f6, go_sem, ht4, ht5, hc0, hc1, hc2, hc3, Tryd.underlying27]
  rcases hbc with ⟨rfl, hk⟩ | ⟨rfl, hk, hn⟩
  · have hz : key_Spell.f k m number = some (0, 0, 0, 30) := by unfold key_Spell.f; rw [if_neg hk]
    have FZ := Lib.hid (fun tm => fin _ tm hz)
    clear fin hz hk
    gi_wp2
    exact FZ.out _ rfl rfl
  · have hz : key_Spell.f k m number = some (0, 0, 0, 2) := by unfold key_Spell.f; rw [if_pos hk, if_neg hn]
    have FZ := Lib.hid (fun tm => fin _ tm hz)
    clear fin hz hk
    by_cases hlo : number < 0
    · have hb1 : decide (number < 0) = true := decide_eq_true hlo
      clear hn hlo
      gi_wp2
      exact FZ.out _ rfl rfl
    · have hb1 : decide (number < 0) = false := decide_eq_false hlo
      have hb2 : decide (127 < number) = true := decide_eq_true (by omega)
      clear hn hlo
      gi_wp2
      exact FZ.out _ rfl rfl

theorem key_Spell.calls (a0_0 : Int) (a0_1 : Bool) (a1 : Int) (r1 r2 r3 r4 : Int) (w : World) (hG_ : GW w) (h : key_Spell.f a0_0 a0_1 a1 = some (r1, r2, r3, r4)) : Calls Tryd.prog 6 #[.agg #[.int .i64 a0_0, .bool a0_1], .int .i64 a1] w fun e w' => e = .returned (.tuple #[.agg #[.int .i64 r1, .int .i64 r2, .int .i64 r3], .int .i64 r4]) ∧ Below w.heap.size w w' := by
  have hC : CallsIn Fence.wide 9 Tryd.prog 6 #[.agg #[.int .i64 a0_0, .bool a0_1], .int .i64 a1] w (SpellPost a0_0 a0_1 a1 w) := by
    by_cases hk : -7 ≤ a0_0 ∧ a0_0 ≤ 7
    · by_cases hn : 0 ≤ a1 ∧ a1 ≤ 127
      · exact spell_in _ _ _ _ hG_ hk hn
      · exact spell_early _ _ _ _ (.inr ⟨hk, hn⟩)
    · exact spell_early _ _ _ _ (.inl hk)
  refine (callsIn_wide.1 hC).mono ?_
  rintro e w' ⟨⟨x, hx, rfl⟩, hb⟩
  rw [h] at hx
  cases hx
  exact ⟨rfl, hb⟩
end Go.Proofs.YtaanbojalolhnabDoor.M
