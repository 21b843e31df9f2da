/- The maker of right values, by the small machine. -/
import Derived.Test.YtajbnfidcpfonaaDoorProg
import Derived.Test.YtajbnfidcpfonaaDoorR6
import Derived.Test.YtajbnfidcpfonaaDoorM0
import Derived.Test.YtajbnfidcpfonaaDoorM16
set_option linter.unusedVariables false
set_option linter.unusedSimpArgs false
namespace Go.Proofs.YtajbnfidcpfonaaDoor.M
open Go Go.RowKit Go.Proofs Go.Proofs.Rx 

def partitalaw04_pick.tells (f : Int → Int → Option (Int)) : Tells
  | [.int .i64 a0, .int .i64 a1] => some (.mk (Int) (f a0 a1) fun r => .int .i64 r)
  | _ => none
theorem partitalaw04_pick.tellsOk (k : Nat) : TellsOk Tryd.prog (fun _ => True) 18 (partitalaw04_pick.tells (partitalaw04_pick.f)) :=
  tells_simple (fun args w => by kernel_rfl) fun args τ x out r hs hx => by
    unfold partitalaw04_pick.tells at hs
    split at hs
    · cases hs
      exact ⟨rfl, rfl, fun w hw => (partitalaw04_pick.calls _ _ r w hx).mono fun e w' q => ⟨q.1, q.2.below⟩⟩
    · cases hs
/-! ### partita/partitalaw04.Value: function 14 -/
def value_maker.tells (f : Int → Int → Int → Int → Option (Int × Int × Int × Int)) : Tells
  | [.agg [.int .i64 a0, .int .i64 a1, .int .i64 a2, .int .i64 a3]] => some (.mk (Int × Int × Int × Int) (f a0 a1 a2 a3) fun r => .agg [.int .i64 r.1, .int .i64 r.2.1, .int .i64 r.2.2.1, .int .i64 r.2.2.2])
  | _ => none
def value_maker.J : List (Nat × List Nat) := [(1, [4, 5, 6, 7, 8, 9, 10]), (2, [11, 12, 13]), (3, [15, 16, 17, 18, 19]), (4, [20, 21, 22, 23, 24]), (5, [25, 26, 27, 28]), (6, [30, 31, 32, 33]), (7, [34]), (1000014, [14]), (1000029, [29])]
def value_maker.t (f18 : Int → Int → Option (Int)) (a0 : Int) (a1 : Int) (a2 : Int) (a3 : Int) {β : Type} (out : (Int × Int × Int × Int) → β) : Option β :=
  (f18 a0 (7 : Int)).bind fun v1 =>
    (f18 a1 (3 : Int)).bind fun v2 =>
      (f18 a2 (4 : Int)).bind fun v3 =>
        bif decide (v3 > (0 : Int)) then
          (f18 a2 (14 : Int)).bind fun v4 =>
            (f18 a3 (15 : Int)).bind fun v5 =>
              bif IntKind.i64.wrap ((2 : Int) + v4) == IntKind.i64.wrap ((1 : Int) + v5) then
                some
                  (out
                    (v1, v2, IntKind.i64.wrap ((2 : Int) + v4),
                      IntKind.i64.wrap (IntKind.i64.wrap ((2 : Int) + v4) - (1 : Int))))
              else some (out (v1, v2, IntKind.i64.wrap ((2 : Int) + v4), IntKind.i64.wrap ((1 : Int) + v5)))
        else some (out (v1, v2, (0 : Int), (0 : Int)))
set_option maxRecDepth 100000 in
theorem value_maker.run (f18 : Int → Int → Option (Int)) (a0 : Int) (a1 : Int) (a2 : Int) (a3 : Int) : runA Tryd.prog [(18, partitalaw04_pick.tells f18)] [] value_maker.J 0 Tryd.f14 [.agg [.int .i64 a0, .int .i64 a1, .int .i64 a2, .int .i64 a3]] [] = value_maker.t f18 a0 a1 a2 a3 (fun r => .agg [.int .i64 r.1, .int .i64 r.2.1, .int .i64 r.2.2.1, .int .i64 r.2.2.2]) := by kernel_rfl
theorem value_maker.map (f18 : Int → Int → Option (Int)) (a0 : Int) (a1 : Int) (a2 : Int) (a3 : Int) {β γ : Type} (g : β → γ) (out : (Int × Int × Int × Int) → β) : (value_maker.t f18 a0 a1 a2 a3 out).map g = value_maker.t f18 a0 a1 a2 a3 (fun r => g (out r)) := by
  unfold value_maker.t
  simp only [map_bind', map_cond, map_ite, Option.map_some, Option.map_none]
def value_maker.f (k : Nat) (a0 : Int) (a1 : Int) (a2 : Int) (a3 : Int) : Option (Int × Int × Int × Int) := value_maker.t (partitalaw04_pick.f) a0 a1 a2 a3 id
theorem value_maker.allOk (k : Nat) : AllOk Tryd.prog (fun _ => True) [(18, partitalaw04_pick.tells (partitalaw04_pick.f))] :=
  (allOk_cons (partitalaw04_pick.tellsOk k) allOk_nil)
theorem value_maker.runs (k : Nat) (a0 : Int) (a1 : Int) (a2 : Int) (a3 : Int) {r : Int × Int × Int × Int} (h : value_maker.f k a0 a1 a2 a3 = some r) : runA Tryd.prog [(18, partitalaw04_pick.tells (partitalaw04_pick.f))] [] value_maker.J 0 Tryd.f14 [.agg [.int .i64 a0, .int .i64 a1, .int .i64 a2, .int .i64 a3]] [] = some (.agg [.int .i64 r.1, .int .i64 r.2.1, .int .i64 r.2.2.1, .int .i64 r.2.2.2]) := by
  rw [value_maker.run]
  have e := value_maker.map (partitalaw04_pick.f) a0 a1 a2 a3 (fun r : Int × Int × Int × Int => (.agg [.int .i64 r.1, .int .i64 r.2.1, .int .i64 r.2.2.1, .int .i64 r.2.2.2] : AV)) id
  rw [show value_maker.t (partitalaw04_pick.f) a0 a1 a2 a3 id = some r from h] at e
  exact e.symm
theorem value_maker.tellsOk (k : Nat) : TellsOk Tryd.prog (fun _ => True) 14 (value_maker.tells (value_maker.f k)) :=
  tells_mk (by kernel_rfl) (value_maker.allOk k) Tryd.func14 (fun args w => by kernel_rfl) (fun _ _ _ _ => trivial) no_globals fun args τ x out r hs hx => by
    unfold value_maker.tells at hs
    split at hs
    · cases hs
      exact ⟨rfl, rfl, _, _, value_maker.runs k _ _ _ _ hx⟩
    · cases hs
def partitalaw04_Value.f (a0_0 : Int) (a0_1 : Int) (a0_2 : Int) (a0_3 : Int) : Option (Int × Int × Int × Int) := (partitalaw04_pick.f a0_0 7).bind fun t249 => ((partitalaw04_pick.f a0_1 3).bind fun t250 => ((partitalaw04_pick.f a0_2 4).bind fun t252 => (if t252 > 0 then ((partitalaw04_pick.f a0_2 14).bind fun t253 => ((partitalaw04_pick.f a0_3 15).bind fun t254 => (if (wrap64 (2 + t253)) = (wrap64 (1 + t254)) then (some (t249, t250, wrap64 (2 + t253), wrap64 ((wrap64 (2 + t253)) - 1))) else (some (t249, t250, wrap64 (2 + t253), wrap64 (1 + t254)))))) else (some (t249, t250, 0, 0)))))
theorem partitalaw04_Value.same (k : Nat) (a0 a1 a2 a3 : Int) : partitalaw04_Value.f a0 a1 a2 a3 = value_maker.f k a0 a1 a2 a3 := by
  unfold partitalaw04_Value.f value_maker.f value_maker.t
  simp only [Go.IntWalk.i64_left, Bool.cond_decide, gt_iff_lt, id]
  congr 1; funext v1; congr 1; funext v2; congr 1; funext v3
  split
  · congr 1; funext v4; congr 1; funext v5
    by_cases h : wrap64 (2 + v4) = wrap64 (1 + v5)
    · rw [if_pos h, h]; simp
    · rw [if_neg h, beq_false_of_ne h, cond_false]
  · rfl
theorem partitalaw04_Value.calls (a0_0 : Int) (a0_1 : Int) (a0_2 : Int) (a0_3 : Int) (r1 : Int) (r2 : Int) (r3 : Int) (r4 : Int) (w : World) (h : partitalaw04_Value.f a0_0 a0_1 a0_2 a0_3 = some (r1, r2, r3, r4)) :
    Calls Tryd.prog 14 #[.agg #[.int .i64 a0_0, .int .i64 a0_1, .int .i64 a0_2, .int .i64 a0_3]] w fun e w' => e = .returned (.agg #[.int .i64 r1, .int .i64 r2, .int .i64 r3, .int .i64 r4]) ∧ Below w.heap.size w w' :=
  calls_of (value_maker.tellsOk 0) (args := [.agg [.int .i64 a0_0, .int .i64 a0_1, .int .i64 a0_2, .int .i64 a0_3]]) (r := (r1, r2, r3, r4)) rfl ((partitalaw04_Value.same 0 _ _ _ _).symm.trans h) rfl rfl trivial

end Go.Proofs.YtajbnfidcpfonaaDoor.M
