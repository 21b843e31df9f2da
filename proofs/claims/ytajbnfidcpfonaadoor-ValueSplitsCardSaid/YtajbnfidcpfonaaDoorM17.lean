/- The maker of right values, by the machine. -/
import Derived.Test.YtajbnfidcpfonaaDoorProg
import Derived.Test.YtajbnfidcpfonaaDoorQ10
import Derived.Test.YtajbnfidcpfonaaDoorM0
import Derived.Test.YtajbnfidcpfonaaDoorLay
import Derived.Test.YtajbnfidcpfonaaDoorM16
set_option linter.unusedVariables false
set_option linter.unusedSimpArgs false
set_option maxRecDepth 100000
namespace Go.Proofs.YtajbnfidcpfonaaDoor.M
open Go Go.RowKit Go.Proofs Go.Proofs.Qx 

/-! ### partita/partitalaw04.Value: function 14 -/
def value_maker.out (r : Int × Int × Int × Int) : Res := .ret (.agg [.int .i64 r.1, .int .i64 r.2.1, .int .i64 r.2.2.1, .int .i64 r.2.2.2])
def value_maker.dec : Res → Option (Int × Int × Int × Int)
  | .ret (.agg [.int .i64 y0, .int .i64 y1, .int .i64 y2, .int .i64 y3]) => some (y0, y1, y2, y3)
  | _ => none
theorem value_maker.out_free (r : Int × Int × Int × Int) : (value_maker.out r).free = true := rfl
def value_maker.sel (β : Type) (r : Int × Int × Int × Int) (k : Res → Option β) : Option β := k (.ret (.agg [.int .i64 r.1, .int .i64 r.2.1, .int .i64 r.2.2.1, .int .i64 r.2.2.2]))
theorem value_maker.sel_ok (β : Type) (t : Int × Int × Int × Int) (k : Res → Option β) : value_maker.sel β t k = k (value_maker.out t) := rfl
theorem value_maker.dec_ok (res : Res) (r : Int × Int × Int × Int) (h : value_maker.dec res = some r) : res = value_maker.out r := by
  unfold value_maker.dec at h
  split at h <;> first | (cases h; rfl) | cases h
def value_maker.tells (f : Int → Int → Int → Int → Option (Int × Int × Int × Int)) : Tells
  | [.agg [.int .i64 a0, .int .i64 a1, .int .i64 a2, .int .i64 a3]] => some (.mk (Int × Int × Int × Int) (f a0 a1 a2 a3) value_maker.out value_maker.sel value_maker.sel_ok)
  | _ => none
def value_maker.ce (f : Int → Int → Int → Int → Option (Int × Int × Int × Int)) : CE := ⟨[.agg [.int .i64, .int .i64, .int .i64, .int .i64]], .flat, value_maker.tells f⟩
def partitalaw04_pick_M17.out (r : Int) : Res := .ret (.int .i64 r)
def partitalaw04_pick_M17.dec : Res → Option (Int)
  | .ret (.int .i64 y0) => some y0
  | _ => none
theorem partitalaw04_pick_M17.out_free (r : Int) : (partitalaw04_pick_M17.out r).free = true := rfl
def partitalaw04_pick_M17.sel (β : Type) (r : Int) (k : Res → Option β) : Option β := k (.ret (.int .i64 r))
theorem partitalaw04_pick_M17.sel_ok (β : Type) (t : Int) (k : Res → Option β) : partitalaw04_pick_M17.sel β t k = k (partitalaw04_pick_M17.out t) := rfl
theorem partitalaw04_pick_M17.dec_ok (res : Res) (r : Int) (h : partitalaw04_pick_M17.dec res = some r) : res = partitalaw04_pick_M17.out r := by
  unfold partitalaw04_pick_M17.dec at h
  split at h <;> first | (cases h; rfl) | cases h
def partitalaw04_pick_M17.tells (f : Int → Int → Option (Int)) : Tells
  | [.int .i64 a0, .int .i64 a1] => some (.mk (Int) (f a0 a1) partitalaw04_pick_M17.out partitalaw04_pick_M17.sel partitalaw04_pick_M17.sel_ok)
  | _ => none
def partitalaw04_pick_M17.ce (f : Int → Int → Option (Int)) : CE := ⟨[.one (.int .i64), .one (.int .i64)], .flat, partitalaw04_pick_M17.tells f⟩
theorem partitalaw04_pick_M17.ok (k : Nat) : CEOk Tryd.prog (fun _ => True) lay 18 (partitalaw04_pick_M17.ce (partitalaw04_pick.f)) :=
  tells_simple (fun args w => by kernel_rfl) fun args τ x out sel ok r hs hx => by
    unfold partitalaw04_pick_M17.tells at hs
    split at hs
    · cases hs
      exact ⟨rfl, _, rfl, rfl, fun w hw => (partitalaw04_pick.calls _ _ r w hx).mono fun e w' q => ⟨q.1, q.2.below⟩⟩
    · cases hs
def value_maker.Γ (f18 : Int → Int → Option (Int)) : List (Nat × CE) := [(18, partitalaw04_pick_M17.ce f18)]
def value_maker.J14 : List (Nat × List Nat) := [(1, [4, 5, 6, 7, 8, 9, 10]), (2, [11, 12, 13]), (3, [15, 16, 17, 18, 19]), (4, [20, 21, 22, 23, 24]), (5, [25, 26, 27, 28]), (6, [30, 31, 32, 33]), (7, [34]), (1000014, [14]), (1000029, [29])]
def value_maker.t (K : Nat) (f18 : Int → Int → Option (Int)) (a0 : Int) (a1 : Int) (a2 : Int) (a3 : Int) : Option (Int × Int × Int × Int) :=
  (f18 a0 (7 : Int)).bind fun v1 =>
    (f18 a1 (3 : Int)).bind fun v2 =>
      (f18 a2 (4 : Int)).bind fun v3 =>
        bif decide (v3 > (0 : Int)) then
          (f18 a2 (14 : Int)).bind fun v4 =>
            (f18 a3 (15 : Int)).bind fun v5 =>
              bif IntKind.i64.wrap ((2 : Int) + v4) == IntKind.i64.wrap ((1 : Int) + v5) then
                some
                  (v1, v2, IntKind.i64.wrap ((2 : Int) + v4),
                    IntKind.i64.wrap (IntKind.i64.wrap ((2 : Int) + v4) - (1 : Int)))
              else some (v1, v2, IntKind.i64.wrap ((2 : Int) + v4), IntKind.i64.wrap ((1 : Int) + v5))
        else some (v1, v2, (0 : Int), (0 : Int))
set_option maxRecDepth 100000 in
theorem value_maker.run (K : Nat) (f18 : Int → Int → Option (Int)) (a0 : Int) (a1 : Int) (a2 : Int) (a3 : Int) : runA Tryd.prog lay (value_maker.Γ f18) [] [] 3 ⟨value_maker.J14, [], 0⟩ Tryd.f14 [.agg [.int .i64 a0, .int .i64 a1, .int .i64 a2, .int .i64 a3]] [] [.agg [.int .i64, .int .i64, .int .i64, .int .i64]] value_maker.dec = value_maker.t K f18 a0 a1 a2 a3 := by kernel_rfl
def value_maker.f (k : Nat) (a0 : Int) (a1 : Int) (a2 : Int) (a3 : Int) : Option (Int × Int × Int × Int) := value_maker.t k (partitalaw04_pick.f) a0 a1 a2 a3
theorem value_maker.allOk (k : Nat) : AllOk Tryd.prog (fun _ => True) lay (value_maker.Γ (partitalaw04_pick.f)) := (allOk_cons (partitalaw04_pick_M17.ok k) allOk_nil)
theorem value_maker.ok (k : Nat) : CEOk Tryd.prog (fun _ => True) lay 14 (value_maker.ce (value_maker.f k)) := by
  have hΓ_ := value_maker.allOk k
  exact tells_mk (by kernel_rfl) hΓ_ Tryd.func14 (fun args w => by kernel_rfl) (fun _ _ _ _ => trivial) no_globals (fun B wB stab_ => in_nil) (C := ⟨value_maker.J14, [], 0⟩) (fun B wB stab_ => bodyL (allL_of (l := []) (by kernel_rfl) allL_nil)) (fun args τ x out sel ok r hs hx => by
    unfold value_maker.tells at hs
    split at hs
    · cases hs
      exact ⟨rfl, value_maker.out_free _, _, _, value_maker.dec, (value_maker.run k (partitalaw04_pick.f) _ _ _ _).trans hx, fun res h => value_maker.dec_ok res _ h⟩
    · cases hs)
def partitalaw04_Value.f (a0_0 : Int) (a0_1 : Int) (a0_2 : Int) (a0_3 : Int) : Option (Int × Int × Int × Int) := (partitalaw04_pick.f a0_0 7).bind fun t249 => ((partitalaw04_pick.f a0_1 3).bind fun t250 => ((partitalaw04_pick.f a0_2 4).bind fun t252 => (if t252 > 0 then ((partitalaw04_pick.f a0_2 14).bind fun t253 => ((partitalaw04_pick.f a0_3 15).bind fun t254 => (if (wrap64 (2 + t253)) = (wrap64 (1 + t254)) then (some (t249, t250, wrap64 (2 + t253), wrap64 ((wrap64 (2 + t253)) - 1))) else (some (t249, t250, wrap64 (2 + t253), wrap64 (1 + t254)))))) else (some (t249, t250, 0, 0)))))
theorem partitalaw04_Value.same (k : Nat) (a0 a1 a2 a3 : Int) : partitalaw04_Value.f a0 a1 a2 a3 = value_maker.f k a0 a1 a2 a3 := by
  unfold partitalaw04_Value.f value_maker.f value_maker.t
  simp only [Go.IntWalk.i64_left, Bool.cond_decide, gt_iff_lt]
  congr 1; funext v1; congr 1; funext v2; congr 1; funext v3
  split
  · congr 1; funext v4; congr 1; funext v5
    by_cases h : wrap64 (2 + v4) = wrap64 (1 + v5)
    · rw [if_pos h, h]; simp
    · rw [if_neg h, beq_false_of_ne h, cond_false]
  · rfl
theorem partitalaw04_Value.calls (a0_0 : Int) (a0_1 : Int) (a0_2 : Int) (a0_3 : Int) (r1 : Int) (r2 : Int) (r3 : Int) (r4 : Int) (w : World) (h : partitalaw04_Value.f a0_0 a0_1 a0_2 a0_3 = some (r1, r2, r3, r4)) :
    Calls Tryd.prog 14 #[.agg #[.int .i64 a0_0, .int .i64 a0_1, .int .i64 a0_2, .int .i64 a0_3]] w fun e w' => e = .returned (.agg #[.int .i64 r1, .int .i64 r2, .int .i64 r3, .int .i64 r4]) ∧ Below w.heap.size w w' :=
  calls_of (value_maker.ok 0) (args := [.agg [.int .i64 a0_0, .int .i64 a0_1, .int .i64 a0_2, .int .i64 a0_3]]) (r := (r1, r2, r3, r4)) rfl ((partitalaw04_Value.same 0 _ _ _ _).symm.trans h) rfl rfl rfl trivial

end Go.Proofs.YtajbnfidcpfonaaDoor.M
