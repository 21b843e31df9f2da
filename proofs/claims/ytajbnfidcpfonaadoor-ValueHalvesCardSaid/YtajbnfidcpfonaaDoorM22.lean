/- ValueHalves, by the small machine. -/
import Derived.Test.YtajbnfidcpfonaaDoorProg
import Derived.Test.YtajbnfidcpfonaaDoorR6
import Derived.Test.YtajbnfidcpfonaaDoorM0
import Derived.Test.YtajbnfidcpfonaaDoorM15
import Derived.Test.YtajbnfidcpfonaaDoorM16
import Derived.Test.YtajbnfidcpfonaaDoorM17
import Derived.Test.YtajbnfidcpfonaaDoorM21
import Derived.Test.YtajbnfidcpfonaaDoorM22x
import Derived.Test.YtajbnfidcpfonaaDoorM6
set_option linter.unusedVariables false
set_option linter.unusedSimpArgs false
namespace Go.Proofs.YtajbnfidcpfonaaDoor.M
open Go Go.RowKit Go.Proofs Go.Proofs.Rx 

def partitalaw04_examples_M22.tells (f : Option (Bool)) : Tells
  | [] => some (.mk (Bool) (f ) fun r => .bool r)
  | _ => none
theorem partitalaw04_examples_M22.tellsOk (k : Nat) : TellsOk Tryd.prog GW 10 (partitalaw04_examples_M22.tells (partitalaw04_examples.f k)) :=
  tells_simple (fun args w => by kernel_rfl) fun args τ x out r hs hx => by
    unfold partitalaw04_examples_M22.tells at hs
    split at hs
    · cases hs
      exact ⟨rfl, rfl, fun w hw => partitalaw04_examples.calls k  r w hw hx⟩
    · cases hs
def value_Length_M22.tells (f : Int → Int → Int → Int → Option (Int × Int × Int)) : Tells
  | [.agg [.int .i64 a0, .int .i64 a1, .int .i64 a2, .int .i64 a3]] => some (.mk (Int × Int × Int) (f a0 a1 a2 a3) fun r => .tup [.agg [.int .i64 r.1, .int .i64 r.2.1], .int .i64 r.2.2])
  | _ => none
theorem value_Length_M22.tellsOk (k : Nat) : TellsOk Tryd.prog GW 12 (value_Length_M22.tells (value_Length.f k)) :=
  tells_simple (fun args w => by kernel_rfl) fun args τ x out r hs hx => by
    unfold value_Length_M22.tells at hs
    split at hs
    · cases hs
      exact ⟨rfl, rfl, fun w hw => value_Length.calls k _ _ _ _ r.1 r.2.1 r.2.2 w hw hx⟩
    · cases hs
def partitalaw04_Value_M22.tells (f : Int → Int → Int → Int → Option (Int × Int × Int × Int)) : Tells
  | [.agg [.int .i64 a0, .int .i64 a1, .int .i64 a2, .int .i64 a3]] => some (.mk (Int × Int × Int × Int) (f a0 a1 a2 a3) fun r => .agg [.int .i64 r.1, .int .i64 r.2.1, .int .i64 r.2.2.1, .int .i64 r.2.2.2])
  | _ => none
theorem partitalaw04_Value_M22.tellsOk (k : Nat) : TellsOk Tryd.prog GW 14 (partitalaw04_Value_M22.tells (partitalaw04_Value.f)) :=
  tells_simple (fun args w => by kernel_rfl) fun args τ x out r hs hx => by
    unfold partitalaw04_Value_M22.tells at hs
    split at hs
    · cases hs
      exact ⟨rfl, rfl, fun w hw => partitalaw04_Value.calls _ _ _ _ r.1 r.2.1 r.2.2.1 r.2.2.2 w hx⟩
    · cases hs
def partitalaw04_pick_M22.tells (f : Int → Int → Option (Int)) : Tells
  | [.int .i64 a0, .int .i64 a1] => some (.mk (Int) (f a0 a1) fun r => .int .i64 r)
  | _ => none
theorem partitalaw04_pick_M22.tellsOk (k : Nat) : TellsOk Tryd.prog GW 18 (partitalaw04_pick_M22.tells (partitalaw04_pick.f)) :=
  tells_simple (fun args w => by kernel_rfl) fun args τ x out r hs hx => by
    unfold partitalaw04_pick_M22.tells at hs
    split at hs
    · cases hs
      exact ⟨rfl, rfl, fun w hw => (partitalaw04_pick.calls _ _ r w hx).mono fun e w' q => ⟨q.1, q.2.below⟩⟩
    · cases hs
def ratio_Add_M22.tells (f : Int → Int → Int → Int → Option (Int × Int × Int)) : Tells
  | [.agg [.int .i64 a0, .int .i64 a1], .agg [.int .i64 a2, .int .i64 a3]] => some (.mk (Int × Int × Int) (f a0 a1 a2 a3) fun r => .tup [.agg [.int .i64 r.1, .int .i64 r.2.1], .int .i64 r.2.2])
  | _ => none
theorem ratio_Add_M22.tellsOk (k : Nat) : TellsOk Tryd.prog GW 23 (ratio_Add_M22.tells (ratio_Add.f k)) :=
  tells_simple (fun args w => by kernel_rfl) fun args τ x out r hs hx => by
    unfold ratio_Add_M22.tells at hs
    split at hs
    · cases hs
      exact ⟨rfl, rfl, fun w hw => ratio_Add.calls k _ _ _ _ r.1 r.2.1 r.2.2 w hx⟩
    · cases hs
def ratio_Mul_M22.tells (f : Int → Int → Int → Int → Option (Int × Int × Int)) : Tells
  | [.agg [.int .i64 a0, .int .i64 a1], .agg [.int .i64 a2, .int .i64 a3]] => some (.mk (Int × Int × Int) (f a0 a1 a2 a3) fun r => .tup [.agg [.int .i64 r.1, .int .i64 r.2.1], .int .i64 r.2.2])
  | _ => none
theorem ratio_Mul_M22.tellsOk (k : Nat) : TellsOk Tryd.prog GW 24 (ratio_Mul_M22.tells (ratio_Mul.f k)) :=
  tells_simple (fun args w => by kernel_rfl) fun args τ x out r hs hx => by
    unfold ratio_Mul_M22.tells at hs
    split at hs
    · cases hs
      exact ⟨rfl, rfl, fun w hw => ratio_Mul.calls k _ _ _ _ r.1 r.2.1 r.2.2 w hx⟩
    · cases hs
/-! ### partita/partitalaw04.ValueHalves: function 8 -/
def partitalaw04_ValueHalves.tells (f : Int → Int → Int → Int → Option (Bool)) : Tells
  | [.agg [.int .i64 a0, .int .i64 a1, .int .i64 a2, .int .i64 a3]] => some (.mk (Bool) (f a0 a1 a2 a3) fun r => .bool r)
  | _ => none
def partitalaw04_ValueHalves.J : List (Nat × List Nat) := [(1, [24]), (2, [25]), (4, [27, 28]), (5, [29]), (6, [30, 31, 32, 33]), (7, [34]), (8, [35, 36, 37, 38]), (9, [39]), (10, [40]), (11, [41]), (12, [42]), (13, [43, 44, 45, 46, 47]), (14, [48, 49, 50, 51, 52]), (15, [53, 54, 55, 56, 57]), (16, [58, 59, 60, 61, 62]), (17, [17, 63, 64, 65, 66, 67, 68]), (18, [19, 69, 70, 71, 72, 73, 74]), (19, [21, 75, 76, 77, 78, 79, 80]), (20, [23, 81, 82, 83, 84, 85, 86]), (21, [87, 88, 89, 90, 91, 92, 93, 94, 95, 96, 97, 98, 99, 100, 101, 102, 103, 104, 105, 106, 107, 108, 109, 110, 111, 112, 113, 114, 115, 116, 117, 118]), (1000026, [26])]
def partitalaw04_ValueHalves.t (f10 : Option (Bool)) (f12 : Int → Int → Int → Int → Option (Int × Int × Int)) (f14 : Int → Int → Int → Int → Option (Int × Int × Int × Int)) (f18 : Int → Int → Option (Int)) (f23 : Int → Int → Int → Int → Option (Int × Int × Int)) (f24 : Int → Int → Int → Int → Option (Int × Int × Int)) (a0 : Int) (a1 : Int) (a2 : Int) (a3 : Int) {β : Type} (out : Bool → β) : Option β :=
  f10.bind fun v1 =>
    bif !v1 then some (out false)
    else
      (f14 a0 a1 a2 a3).bind fun v2 =>
        (f18 a0 (6 : Int)).bind fun v3 =>
          (f12 v3 (0 : Int) v2.snd.snd.fst v2.snd.snd.snd).bind fun v4 =>
            (f12 (IntKind.i64.wrap (v3 + (1 : Int))) (0 : Int) v2.snd.snd.fst v2.snd.snd.snd).bind fun v5 =>
              (f12 v3 (1 : Int) v2.snd.snd.fst v2.snd.snd.snd).bind fun v6 =>
                (f12 v3 (2 : Int) v2.snd.snd.fst v2.snd.snd.snd).bind fun v7 =>
                  (f23 v5.fst v5.snd.fst v5.fst v5.snd.fst).bind fun v8 =>
                    (f23 v4.fst v4.snd.fst v5.fst v5.snd.fst).bind fun v9 =>
                      (f24 v5.fst v5.snd.fst (1 : Int) (2 : Int)).bind fun v10 =>
                        (f23 v9.fst v9.snd.fst v10.fst v10.snd.fst).bind fun v11 =>
                          bif v1 then
                            bif v4.snd.snd == (0 : Int) then
                              bif v5.snd.snd == (0 : Int) then
                                bif v6.snd.snd == (0 : Int) then
                                  bif v7.snd.snd == (0 : Int) then
                                    bif v8.fst == v4.fst && (v8.snd.fst == v4.snd.fst && true) then
                                      bif v6.fst == v9.fst && (v6.snd.fst == v9.snd.fst && true) then
                                        some (out (v7.fst == v11.fst && (v7.snd.fst == v11.snd.fst && true)))
                                      else some (out false)
                                    else some (out false)
                                  else some (out false)
                                else some (out false)
                              else some (out false)
                            else some (out false)
                          else some (out false)
set_option maxRecDepth 100000 in
theorem partitalaw04_ValueHalves.run (f10 : Option (Bool)) (f12 : Int → Int → Int → Int → Option (Int × Int × Int)) (f14 : Int → Int → Int → Int → Option (Int × Int × Int × Int)) (f18 : Int → Int → Option (Int)) (f23 : Int → Int → Int → Int → Option (Int × Int × Int)) (f24 : Int → Int → Int → Int → Option (Int × Int × Int)) (a0 : Int) (a1 : Int) (a2 : Int) (a3 : Int) : runA Tryd.prog [(10, partitalaw04_examples_M22.tells f10), (12, value_Length_M22.tells f12), (14, partitalaw04_Value_M22.tells f14), (18, partitalaw04_pick_M22.tells f18), (23, ratio_Add_M22.tells f23), (24, ratio_Mul_M22.tells f24)] [] partitalaw04_ValueHalves.J 0 Tryd.f8 [.agg [.int .i64 a0, .int .i64 a1, .int .i64 a2, .int .i64 a3]] [] = partitalaw04_ValueHalves.t f10 f12 f14 f18 f23 f24 a0 a1 a2 a3 (fun r => .bool r) := by kernel_rfl
theorem partitalaw04_ValueHalves.map (f10 : Option (Bool)) (f12 : Int → Int → Int → Int → Option (Int × Int × Int)) (f14 : Int → Int → Int → Int → Option (Int × Int × Int × Int)) (f18 : Int → Int → Option (Int)) (f23 : Int → Int → Int → Int → Option (Int × Int × Int)) (f24 : Int → Int → Int → Int → Option (Int × Int × Int)) (a0 : Int) (a1 : Int) (a2 : Int) (a3 : Int) {β γ : Type} (g : β → γ) (out : Bool → β) : (partitalaw04_ValueHalves.t f10 f12 f14 f18 f23 f24 a0 a1 a2 a3 out).map g = partitalaw04_ValueHalves.t f10 f12 f14 f18 f23 f24 a0 a1 a2 a3 (fun r => g (out r)) := by
  unfold partitalaw04_ValueHalves.t
  simp only [map_bind', map_cond, map_ite, Option.map_some, Option.map_none]
def partitalaw04_ValueHalves.f (k : Nat) (a0 : Int) (a1 : Int) (a2 : Int) (a3 : Int) : Option (Bool) := partitalaw04_ValueHalves.t (partitalaw04_examples.f k) (value_Length.f k) (partitalaw04_Value.f) (partitalaw04_pick.f) (ratio_Add.f k) (ratio_Mul.f k) a0 a1 a2 a3 id
theorem partitalaw04_ValueHalves.allOk (k : Nat) : AllOk Tryd.prog GW [(10, partitalaw04_examples_M22.tells (partitalaw04_examples.f k)), (12, value_Length_M22.tells (value_Length.f k)), (14, partitalaw04_Value_M22.tells (partitalaw04_Value.f)), (18, partitalaw04_pick_M22.tells (partitalaw04_pick.f)), (23, ratio_Add_M22.tells (ratio_Add.f k)), (24, ratio_Mul_M22.tells (ratio_Mul.f k))] :=
  (allOk_cons (partitalaw04_examples_M22.tellsOk k) (allOk_cons (value_Length_M22.tellsOk k) (allOk_cons (partitalaw04_Value_M22.tellsOk k) (allOk_cons (partitalaw04_pick_M22.tellsOk k) (allOk_cons (ratio_Add_M22.tellsOk k) (allOk_cons (ratio_Mul_M22.tellsOk k) allOk_nil))))))
theorem partitalaw04_ValueHalves.runs (k : Nat) (a0 : Int) (a1 : Int) (a2 : Int) (a3 : Int) {r : Bool} (h : partitalaw04_ValueHalves.f k a0 a1 a2 a3 = some r) : runA Tryd.prog [(10, partitalaw04_examples_M22.tells (partitalaw04_examples.f k)), (12, value_Length_M22.tells (value_Length.f k)), (14, partitalaw04_Value_M22.tells (partitalaw04_Value.f)), (18, partitalaw04_pick_M22.tells (partitalaw04_pick.f)), (23, ratio_Add_M22.tells (ratio_Add.f k)), (24, ratio_Mul_M22.tells (ratio_Mul.f k))] [] partitalaw04_ValueHalves.J 0 Tryd.f8 [.agg [.int .i64 a0, .int .i64 a1, .int .i64 a2, .int .i64 a3]] [] = some (.bool r) := by
  rw [partitalaw04_ValueHalves.run]
  have e := partitalaw04_ValueHalves.map (partitalaw04_examples.f k) (value_Length.f k) (partitalaw04_Value.f) (partitalaw04_pick.f) (ratio_Add.f k) (ratio_Mul.f k) a0 a1 a2 a3 (fun r : Bool => (.bool r : AV)) id
  rw [show partitalaw04_ValueHalves.t (partitalaw04_examples.f k) (value_Length.f k) (partitalaw04_Value.f) (partitalaw04_pick.f) (ratio_Add.f k) (ratio_Mul.f k) a0 a1 a2 a3 id = some r from h] at e
  exact e.symm
theorem partitalaw04_ValueHalves.tellsOk (k : Nat) : TellsOk Tryd.prog GW 8 (partitalaw04_ValueHalves.tells (partitalaw04_ValueHalves.f k)) :=
  tells_mk (by kernel_rfl) (partitalaw04_ValueHalves.allOk k) Tryd.func8 (fun args w => by kernel_rfl) (fun w w' h hb => h.step hb) no_globals fun args τ x out r hs hx => by
    unfold partitalaw04_ValueHalves.tells at hs
    split at hs
    · cases hs
      exact ⟨rfl, rfl, _, _, partitalaw04_ValueHalves.runs k _ _ _ _ hx⟩
    · cases hs
def partitalaw04_ValueHalves.Pure : Prop := ∀ (a0_0 : Int) (a0_1 : Int) (a0_2 : Int) (a0_3 : Int), (Lit.int .i64 a0_0).wf = true → (Lit.int .i64 a0_1).wf = true → (Lit.int .i64 a0_2).wf = true → (Lit.int .i64 a0_3).wf = true → ∃ k, partitalaw04_ValueHalves.f k a0_0 a0_1 a0_2 a0_3 = some true
theorem partitalaw04_ValueHalves.walk (P : partitalaw04_ValueHalves.Pure) (a0_0 : Int) (a0_1 : Int) (a0_2 : Int) (a0_3 : Int) (w : World) (hG_ : GW w) (w0_0 : (Lit.int .i64 a0_0).wf = true) (w0_1 : (Lit.int .i64 a0_1).wf = true) (w0_2 : (Lit.int .i64 a0_2).wf = true) (w0_3 : (Lit.int .i64 a0_3).wf = true) :
    Calls Tryd.prog 8 #[.agg #[.int .i64 a0_0, .int .i64 a0_1, .int .i64 a0_2, .int .i64 a0_3]] w fun e w' => e = .returned (.bool true) ∧ Below w.heap.size w w' := by
  obtain ⟨k, h⟩ := P a0_0 a0_1 a0_2 a0_3 w0_0 w0_1 w0_2 w0_3
  exact law_simple (by kernel_rfl) (partitalaw04_ValueHalves.allOk k) Tryd.func8 (fun w w' h hb => h.step hb) (args := [.agg [.int .i64 a0_0, .int .i64 a0_1, .int .i64 a0_2, .int .i64 a0_3]]) (partitalaw04_ValueHalves.runs k _ _ _ _ h) rfl hG_

end Go.Proofs.YtajbnfidcpfonaaDoor.M
