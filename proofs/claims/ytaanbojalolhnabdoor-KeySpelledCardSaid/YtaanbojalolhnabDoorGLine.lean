/- key.line's closure, as an iterator: it hands over the places from 'from' to 'to', or a first part of them. -/
import Derived.RangeFuncNested
import Derived.RangeFuncBound
import Derived.RangeFuncCalls
import Derived.RangeFuncLeaves
import Derived.Shelf.Abstract
import Derived.Shelf.RegionOpen
import Derived.WalkKit
import Derived.OwnWalkIn
import Derived.TacticsInMore
import Derived.LoopNIn
import Derived.LoopIn
import Derived.Test.YtaanbojalolhnabDoorM2
namespace Go.Proofs.YtaanbojalolhnabDoor.M
open Go.RowKit Go.Shelf
attribute [local go_sem] Oper.semAt_some

/-- the places from a on, n of them -/
def places (a : Int) (n : Nat) : List Int := (List.range n).map (fun i : Nat => a + (i : Int))
theorem places_succ (a : Int) (n : Nat) : places a (n + 1) = places a n ++ [a + (n : Int)] := by simp [places, List.range_succ]
theorem places_length (a : Int) (n : Nat) : (places a n).length = n := by simp [places]
theorem places_prefix (a : Int) {k n : Nat} (h : k ≤ n) : places a k <+: places a n := by
  obtain ⟨m, rfl⟩ := Nat.exists_eq_add_of_le h
  induction m with
  | zero => exact List.prefix_refl _
  | succ m ih => exact (ih (by omega)).trans ⟨_, (places_succ a (k + m)).symm⟩
def spot (p : Int) : Int × Int := (key_at.f p).getD (0, 0)
theorem at_spot (p : Int) : key_at.f p = some ((spot p).1, (spot p).2) := by
  have : ∃ r, key_at.f p = some r := by
    unfold key_at.f key_down.f
    rw [if_neg (by decide)]
    split <;> exact ⟨_, rfl⟩
  obtain ⟨r, hr⟩ := this
  simp [spot, hr]
abbrev encSpot (p : Int) : Array Value := #[.agg #[.int .i64 (spot p).1, .int .i64 (spot p).2]]

theorem grown_below {w w1 : World} (h : Below w.heap.size w w1) (row : Option Nat) : w.grownBy w1 row := ⟨h.os, h.tape, h.output, h.size, fun i hi _ => h.block i hi⟩

set_option maxRecDepth 100000 in
set_option maxHeartbeats 4000000 in
theorem line1_in (n : Nat) (hn : 1 ≤ n) (l Bf Bt n₀ : Nat) (a : Int) (N : Nat) (ha : -100 ≤ a) (hN : a + N ≤ 100) (hbf : Bf < n₀) (hbt : Bt < n₀) (J Jx : List Int → World → Prop)
    (W : World) (hn0 : n₀ ≤ W.heap.size) (hJ : AbidesFrom W.heap.size J)
    (hY : ∀ pre x W, J pre W → pre.length < N → YieldAt Fence.wide (n - 1) Tryd.prog l (encSpot x) W fun e W' =>
      (e = .returned (.bool true) ∧ J (pre ++ [x]) W' ∧ Below n₀ W W') ∨ (e = .returned (.bool false) ∧ Jx (pre ++ [x]) W'))
    (hBf : W.cell? ⟨Bf, 0, none⟩ = some (.int .i64 a)) (hBt : W.cell? ⟨Bt, 0, none⟩ = some (.int .i64 (a + N - 1))) (h0 : J [] W) :
    CallsIn Fence.wide n Tryd.prog 20 #[.func (.yield l) #[] #[], .pointer (some ⟨Bf, 0, none⟩), .pointer (some ⟨Bt, 0, none⟩)] W fun e W' => (∃ v, e = .returned v) ∧
      ((∃ ys, ys = places a N ∧ J ys W') ∨ (∃ pre, (∃ k, k ≤ N ∧ pre = places a k) ∧ Jx pre W')) := by
  refine callsIn_of_wp Tryd.func20 rfl trivial ?_ rfl
  simp only [Tryd.ntmps20, List.size_toArray, List.length_cons, List.length_nil, Nat.reduceAdd, Nat.reduceSub, Array.replicate_succ, Array.replicate_zero, List.push_toArray, List.append_toArray, List.nil_append, List.cons_append]
  gi_wp2
  gi_loopw [4] (fun i wr => ∃ k : Nat, k ≤ N ∧ i = .int .i64 (a + k) ∧ J (places a k) wr ∧ Below n₀ W wr)
    (fun i _ => (a + N - intOf i).toNat)
  case atStart => exact ⟨0, Nat.zero_le _, by simp, h0, Below.refl _ _⟩
  case round =>
    obtain ⟨k, hk, rfl, hJs, hnx⟩ := hrel
    have hcf : wr.cell? ⟨Bf, 0, none⟩ = some (.int .i64 a) := (hnx.cell (p := ⟨Bf, 0, none⟩) hbf).trans hBf
    have hct : wr.cell? ⟨Bt, 0, none⟩ = some (.int .i64 (a + N - 1)) := (hnx.cell (p := ⟨Bt, 0, none⟩) hbt).trans hBt
    by_cases hlt : k < N
    · have hle : decide (a + (k : Int) ≤ a + (N : Int) - 1) = true := decide_eq_true (by omega)
      gi_wp2
      refine ⟨trivial, (callsIn_wide.2 (key_at.calls _ _ _ _ (at_spot _))).mono ?_⟩
      rintro e w1 ⟨rfl, hb1⟩
      have hJ1 := hJ _ _ _ none hJs (grown_below hb1 none) (fun r e => by cases e)
      have hn1 : Below n₀ wr w1 := hb1.mono (Nat.le_trans hn0 hnx.size)
      obtain ⟨fn, tmps, assign, body, hy, hR⟩ := hY _ (a + (k : Int)) w1 hJ1 (by rw [places_length]; exact hlt)
      dsimp only [encSpot] at hy
      gi_wp2
      refine hR.mono ?_
      rintro e W3 (⟨rfl, hJ3, hk3⟩ | ⟨rfl, hJx3⟩)
      · gi_wp2
        go_roundw
        case rel => exact ⟨k + 1, by omega, by rw [show ((k + 1 : Nat) : Int) = (k : Int) + 1 from by omega, Int.add_assoc], by rw [places_succ]; exact hJ3, (hnx.trans hn1).trans hk3⟩
        case measure => simp [intOf]; omega
      · gi_wp2
        go_end0
        exact ⟨⟨_, rfl⟩, .inr ⟨_, ⟨k + 1, by omega, (places_succ _ _).symm⟩, hJx3⟩⟩
    · have hle : decide (a + (k : Int) ≤ a + (N : Int) - 1) = false := decide_eq_false (by omega)
      gi_wp2
      refine ⟨trivial, ?_⟩
      gi_wp2
      refine ⟨fun _ h => (by cases h), ?_⟩
      gi_wp2
      go_end0
      have hkN : k = N := by omega
      exact ⟨⟨_, rfl⟩, .inl ⟨_, rfl, hkN ▸ hJs⟩⟩

theorem line_stops (n : Nat) (hn : 1 ≤ n) (Bf Bt n₀ : Nat) (a : Int) (N : Nat) (ha : -100 ≤ a) (hN : a + N ≤ 100) (hbf : Bf < n₀) (hbt : Bt < n₀) (w : World) (hn₀ : n₀ ≤ w.heap.size)
    (hBf : w.cell? ⟨Bf, 0, none⟩ = some (.int .i64 a)) (hBt : w.cell? ⟨Bt, 0, none⟩ = some (.int .i64 (a + N - 1))) :
    SeqStopsK Fence.wide n Tryd.prog 20 #[.pointer (some ⟨Bf, 0, none⟩), .pointer (some ⟨Bt, 0, none⟩)] encSpot (Below n₀) (fun ys => ys = places a N) (fun pre => ∃ k, k ≤ N ∧ pre = places a k) N w :=
  fun l J Jx W hW hJ _ hY h0 =>
    line1_in n hn l Bf Bt n₀ a N ha hN hbf hbt J Jx W (Nat.le_trans hn₀ hW.size) hJ hY ((hW.cell (p := ⟨Bf, 0, none⟩) (by simp only; omega)).trans hBf) ((hW.cell (p := ⟨Bt, 0, none⟩) (by simp only; omega)).trans hBt) h0

set_option maxHeartbeats 1000000 in
/-- line(from, to): both are boxed; the function value captures the boxes. -/
theorem line_in (n : Nat) (a b : Int) (w : World) :
    CallsIn Fence.wide n Tryd.prog 13 #[.int .i64 a, .int .i64 b] w fun e w' =>
      e = .returned (.func (.func 20) #[] #[.pointer (some ⟨w.heap.size, 0, none⟩), .pointer (some ⟨w.heap.size + 1, 0, none⟩)]) ∧ w' = (w.alloc (.cells #[.int .i64 a] 3)).alloc (.cells #[.int .i64 b] 3) := by
  refine callsIn_of_wp Tryd.func13 rfl trivial ?_ rfl
  simp only [Tryd.ntmps13, List.size_toArray, List.length_cons, List.length_nil, Nat.reduceAdd, Nat.reduceSub, Array.replicate_succ, Array.replicate_zero, List.push_toArray, List.append_toArray, List.nil_append, List.cons_append]
  gi_wp2
  go_ret
  exact ⟨rfl, rfl⟩
end Go.Proofs.YtaanbojalolhnabDoor.M
