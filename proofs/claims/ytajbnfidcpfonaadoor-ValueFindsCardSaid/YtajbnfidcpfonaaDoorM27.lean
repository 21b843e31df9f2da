/- ValueFinds, by the small machine. -/
import Derived.Test.YtajbnfidcpfonaaDoorProg
import Derived.Test.YtajbnfidcpfonaaDoorR6
import Derived.Test.YtajbnfidcpfonaaDoorM0
import Derived.Test.YtajbnfidcpfonaaDoorM15
import Derived.Test.YtajbnfidcpfonaaDoorM17
import Derived.Test.YtajbnfidcpfonaaDoorM25
import Derived.Test.YtajbnfidcpfonaaDoorM4
import Derived.Test.YtajbnfidcpfonaaDoorM6
import Derived.Test.YtajbnfidcpfonaaDoorM7
set_option linter.unusedVariables false
set_option linter.unusedSimpArgs false
namespace Go.Proofs.YtajbnfidcpfonaaDoor.M
open Go Go.RowKit Go.Proofs Go.Proofs.Rx 

def partitalaw04_examples_M27.tells (f : Option (Bool)) : Tells
  | [] => some (.mk (Bool) (f ) fun r => .bool r)
  | _ => none
theorem partitalaw04_examples_M27.tellsOk (k : Nat) : TellsOk Tryd.prog GW 10 (partitalaw04_examples_M27.tells (partitalaw04_examples.f k)) :=
  tells_simple (fun args w => by kernel_rfl) fun args τ x out r hs hx => by
    unfold partitalaw04_examples_M27.tells at hs
    split at hs
    · cases hs
      exact ⟨rfl, rfl, fun w hw => partitalaw04_examples.calls k  r w hw hx⟩
    · cases hs
def value_Find_M27.tells (f : Int → Int → Option (Int × Int × Int × Int × Bool)) : Tells
  | [.agg [.int .i64 a0, .int .i64 a1]] => some (.mk (Int × Int × Int × Int × Bool) (f a0 a1) fun r => .tup [.agg [.int .i64 r.1, .int .i64 r.2.1, .int .i64 r.2.2.1, .int .i64 r.2.2.2.1], .bool r.2.2.2.2])
  | _ => none
theorem value_Find_M27.tellsOk (k : Nat) : TellsOk Tryd.prog GW 11 (value_Find_M27.tells (value_Find.f k)) :=
  tells_simple (fun args w => by kernel_rfl) fun args τ x out r hs hx => by
    unfold value_Find_M27.tells at hs
    split at hs
    · cases hs
      exact ⟨rfl, rfl, fun w hw => value_Find.calls k _ _ r.1 r.2.1 r.2.2.1 r.2.2.2.1 r.2.2.2.2 w hw hx⟩
    · cases hs
def value_Length_M27.tells (f : Int → Int → Int → Int → Option (Int × Int × Int)) : Tells
  | [.agg [.int .i64 a0, .int .i64 a1, .int .i64 a2, .int .i64 a3]] => some (.mk (Int × Int × Int) (f a0 a1 a2 a3) fun r => .tup [.agg [.int .i64 r.1, .int .i64 r.2.1], .int .i64 r.2.2])
  | _ => none
theorem value_Length_M27.tellsOk (k : Nat) : TellsOk Tryd.prog GW 12 (value_Length_M27.tells (value_Length.f k)) :=
  tells_simple (fun args w => by kernel_rfl) fun args τ x out r hs hx => by
    unfold value_Length_M27.tells at hs
    split at hs
    · cases hs
      exact ⟨rfl, rfl, fun w hw => value_Length.calls k _ _ _ _ r.1 r.2.1 r.2.2 w hw hx⟩
    · cases hs
def value_Right_M27.tells (f : Int → Int → Int → Int → Option (Bool)) : Tells
  | [.agg [.int .i64 a0, .int .i64 a1, .int .i64 a2, .int .i64 a3]] => some (.mk (Bool) (f a0 a1 a2 a3) fun r => .bool r)
  | _ => none
theorem value_Right_M27.tellsOk (k : Nat) : TellsOk Tryd.prog GW 13 (value_Right_M27.tells (value_Right.f k)) :=
  tells_simple (fun args w => by kernel_rfl) fun args τ x out r hs hx => by
    unfold value_Right_M27.tells at hs
    split at hs
    · cases hs
      exact ⟨rfl, rfl, fun w hw => value_Right.calls k _ _ _ _ r w hx⟩
    · cases hs
def partitalaw04_Value_M27.tells (f : Int → Int → Int → Int → Option (Int × Int × Int × Int)) : Tells
  | [.agg [.int .i64 a0, .int .i64 a1, .int .i64 a2, .int .i64 a3]] => some (.mk (Int × Int × Int × Int) (f a0 a1 a2 a3) fun r => .agg [.int .i64 r.1, .int .i64 r.2.1, .int .i64 r.2.2.1, .int .i64 r.2.2.2])
  | _ => none
theorem partitalaw04_Value_M27.tellsOk (k : Nat) : TellsOk Tryd.prog GW 14 (partitalaw04_Value_M27.tells (partitalaw04_Value.f)) :=
  tells_simple (fun args w => by kernel_rfl) fun args τ x out r hs hx => by
    unfold partitalaw04_Value_M27.tells at hs
    split at hs
    · cases hs
      exact ⟨rfl, rfl, fun w hw => partitalaw04_Value.calls _ _ _ _ r.1 r.2.1 r.2.2.1 r.2.2.2 w hx⟩
    · cases hs
def partitalaw04_length_M27.tells (f : Int → Int → Int → Int → Option (Int × Int)) : Tells
  | [.agg [.int .i64 a0, .int .i64 a1, .int .i64 a2, .int .i64 a3]] => some (.mk (Int × Int) (f a0 a1 a2 a3) fun r => .agg [.int .i64 r.1, .int .i64 r.2])
  | _ => none
theorem partitalaw04_length_M27.tellsOk (k : Nat) : TellsOk Tryd.prog GW 15 (partitalaw04_length_M27.tells (partitalaw04_length.f k)) :=
  tells_simple (fun args w => by kernel_rfl) fun args τ x out r hs hx => by
    unfold partitalaw04_length_M27.tells at hs
    split at hs
    · cases hs
      exact ⟨rfl, rfl, fun w hw => partitalaw04_length.calls k _ _ _ _ r.1 r.2 w hw hx⟩
    · cases hs
/-! ### partita/partitalaw04.ValueFinds: function 3 -/
def partitalaw04_ValueFinds.tells (f : Int → Int → Int → Int → Int → Int → Option (Bool)) : Tells
  | [.agg [.int .i64 a0, .int .i64 a1, .int .i64 a2, .int .i64 a3], .agg [.int .i64 a4, .int .i64 a5]] => some (.mk (Bool) (f a0 a1 a2 a3 a4 a5) fun r => .bool r)
  | _ => none
def partitalaw04_ValueFinds.J : List (Nat × List Nat) := [(1, [21]), (2, [22]), (4, [24, 25, 26, 27, 28]), (5, [9, 29, 30, 31, 32, 33]), (6, [34, 35, 36, 37, 38, 39, 40, 41, 42, 43, 44, 45, 46, 47, 48, 49, 50, 51, 52]), (8, [54, 55]), (9, [56, 57, 58, 59, 60]), (10, [13, 61, 62, 63, 64, 65]), (11, [66, 67, 68, 69, 70]), (12, [71]), (13, [72]), (14, [73]), (15, [18, 74, 75, 76, 77, 78]), (16, [79, 80, 81, 82, 83]), (17, [84, 85, 86, 87, 88, 89, 90, 91, 92, 93, 94, 95, 96, 97, 98, 99, 100, 101, 102, 103, 104, 105, 106, 107, 108, 109, 110, 111, 112, 113, 114, 115, 116]), (1000023, [23]), (1000053, [53])]
def partitalaw04_ValueFinds.J14 {β : Type} (out : Bool → β) (f11 : Int → Int → Option (Int × Int × Int × Int × Bool)) (f12 : Int → Int → Int → Int → Option (Int × Int × Int)) (f14 : Int → Int → Int → Int → Option (Int × Int × Int × Int)) (f15 : Int → Int → Int → Int → Option (Int × Int)) (a0 : Int) (a1 : Int) (a2 : Int) (a3 : Int) (v1 : Bool) : Option β :=
  (f14 a0 a1 a2 a3).bind fun v4 =>
    (f12 v4.fst v4.snd.fst (0 : Int) (0 : Int)).bind fun v5 =>
      (f11 v5.fst v5.snd.fst).bind fun v6 =>
        (f12 v4.fst v4.snd.fst (3 : Int) (2 : Int)).bind fun v7 =>
          (f11 v7.fst v7.snd.fst).bind fun v8 =>
            bif v1 then
              bif v6.snd.snd.snd.snd then
                bif
                    v6.fst == v4.fst &&
                      (v6.snd.fst == v4.snd.fst &&
                        (v6.snd.snd.fst == (0 : Int) && (v6.snd.snd.snd.fst == (0 : Int) && true))) then
                  bif v8.snd.snd.snd.snd then
                    bif
                        v8.fst == v4.fst &&
                          (v8.snd.fst == v4.snd.fst &&
                            (v8.snd.snd.fst == (3 : Int) && (v8.snd.snd.snd.fst == (2 : Int) && true))) then
                      bif !v8.snd.snd.fst == (0 : Int) then some (out true)
                      else
                        (f15 v8.fst v8.snd.fst v8.snd.snd.fst v8.snd.snd.snd.fst).bind fun v10 =>
                          some (out (v10.fst == v7.fst && (v10.snd == v7.snd.fst && true)))
                    else
                      bif v8.snd.snd.fst == (0 : Int) then
                        bif !v8.snd.snd.fst == (0 : Int) then some (out true)
                        else
                          (f15 v8.fst v8.snd.fst v8.snd.snd.fst v8.snd.snd.snd.fst).bind fun v9 =>
                            some (out (v9.fst == v7.fst && (v9.snd == v7.snd.fst && true)))
                      else some (out false)
                  else some (out false)
                else some (out false)
              else some (out false)
            else some (out false)
theorem partitalaw04_ValueFinds.J14_map {β γ : Type} (g : β → γ) (out : Bool → β) (f11 : Int → Int → Option (Int × Int × Int × Int × Bool)) (f12 : Int → Int → Int → Int → Option (Int × Int × Int)) (f14 : Int → Int → Int → Int → Option (Int × Int × Int × Int)) (f15 : Int → Int → Int → Int → Option (Int × Int)) (a0 : Int) (a1 : Int) (a2 : Int) (a3 : Int) (v1 : Bool) : (partitalaw04_ValueFinds.J14 out f11 f12 f14 f15 a0 a1 a2 a3 v1).map g = partitalaw04_ValueFinds.J14 (fun r => g (out r)) f11 f12 f14 f15 a0 a1 a2 a3 v1 := by
  unfold partitalaw04_ValueFinds.J14
  simp only [map_bind', map_cond, map_ite, Option.map_some, Option.map_none]
def partitalaw04_ValueFinds.J15 {β : Type} (out : Bool → β) (f11 : Int → Int → Option (Int × Int × Int × Int × Bool)) (f12 : Int → Int → Int → Int → Option (Int × Int × Int)) (f14 : Int → Int → Int → Int → Option (Int × Int × Int × Int)) (f15 : Int → Int → Int → Int → Option (Int × Int)) (a0 : Int) (a1 : Int) (a2 : Int) (a3 : Int) (v1 : Bool) (v2 : Int × Int × Int × Int × Bool) : Option β :=
  bif
      !(v2.fst == (0 : Int) &&
          (v2.snd.fst == (0 : Int) && (v2.snd.snd.fst == (0 : Int) && (v2.snd.snd.snd.fst == (0 : Int) && true)))) then
    some (out false)
  else partitalaw04_ValueFinds.J14 out f11 f12 f14 f15 a0 a1 a2 a3 v1
theorem partitalaw04_ValueFinds.J15_map {β γ : Type} (g : β → γ) (out : Bool → β) (f11 : Int → Int → Option (Int × Int × Int × Int × Bool)) (f12 : Int → Int → Int → Int → Option (Int × Int × Int)) (f14 : Int → Int → Int → Int → Option (Int × Int × Int × Int)) (f15 : Int → Int → Int → Int → Option (Int × Int)) (a0 : Int) (a1 : Int) (a2 : Int) (a3 : Int) (v1 : Bool) (v2 : Int × Int × Int × Int × Bool) : (partitalaw04_ValueFinds.J15 out f11 f12 f14 f15 a0 a1 a2 a3 v1 v2).map g = partitalaw04_ValueFinds.J15 (fun r => g (out r)) f11 f12 f14 f15 a0 a1 a2 a3 v1 v2 := by
  unfold partitalaw04_ValueFinds.J15
  simp only [map_bind', map_cond, map_ite, Option.map_some, Option.map_none, partitalaw04_ValueFinds.J14_map]
def partitalaw04_ValueFinds.t (f10 : Option (Bool)) (f11 : Int → Int → Option (Int × Int × Int × Int × Bool)) (f12 : Int → Int → Int → Int → Option (Int × Int × Int)) (f13 : Int → Int → Int → Int → Option (Bool)) (f14 : Int → Int → Int → Int → Option (Int × Int × Int × Int)) (f15 : Int → Int → Int → Int → Option (Int × Int)) (a0 : Int) (a1 : Int) (a2 : Int) (a3 : Int) (a4 : Int) (a5 : Int) {β : Type} (out : Bool → β) : Option β :=
  f10.bind fun v1 =>
    bif !v1 then some (out false)
    else
      (f11 a4 a5).bind fun v2 =>
        (f12 v2.fst v2.snd.fst v2.snd.snd.fst v2.snd.snd.snd.fst).bind fun v3 =>
          bif v2.snd.snd.snd.snd then
            bif !(v3.fst == a4 && (v3.snd.fst == a5 && true)) then some (out false)
            else
              (f13 v2.fst v2.snd.fst v2.snd.snd.fst v2.snd.snd.snd.fst).bind fun v11 =>
                bif !v11 then some (out false)
                else
                  bif !v2.snd.snd.snd.snd then partitalaw04_ValueFinds.J15 out f11 f12 f14 f15 a0 a1 a2 a3 v1 v2
                  else partitalaw04_ValueFinds.J14 out f11 f12 f14 f15 a0 a1 a2 a3 v1
          else
            bif !v2.snd.snd.snd.snd then partitalaw04_ValueFinds.J15 out f11 f12 f14 f15 a0 a1 a2 a3 v1 v2
            else partitalaw04_ValueFinds.J14 out f11 f12 f14 f15 a0 a1 a2 a3 v1
set_option maxRecDepth 100000 in
theorem partitalaw04_ValueFinds.run (f10 : Option (Bool)) (f11 : Int → Int → Option (Int × Int × Int × Int × Bool)) (f12 : Int → Int → Int → Int → Option (Int × Int × Int)) (f13 : Int → Int → Int → Int → Option (Bool)) (f14 : Int → Int → Int → Int → Option (Int × Int × Int × Int)) (f15 : Int → Int → Int → Int → Option (Int × Int)) (a0 : Int) (a1 : Int) (a2 : Int) (a3 : Int) (a4 : Int) (a5 : Int) : runA Tryd.prog [(10, partitalaw04_examples_M27.tells f10), (11, value_Find_M27.tells f11), (12, value_Length_M27.tells f12), (13, value_Right_M27.tells f13), (14, partitalaw04_Value_M27.tells f14), (15, partitalaw04_length_M27.tells f15)] [] partitalaw04_ValueFinds.J 0 Tryd.f3 [.agg [.int .i64 a0, .int .i64 a1, .int .i64 a2, .int .i64 a3], .agg [.int .i64 a4, .int .i64 a5]] [] = partitalaw04_ValueFinds.t f10 f11 f12 f13 f14 f15 a0 a1 a2 a3 a4 a5 (fun r => .bool r) := by kernel_rfl
theorem partitalaw04_ValueFinds.map (f10 : Option (Bool)) (f11 : Int → Int → Option (Int × Int × Int × Int × Bool)) (f12 : Int → Int → Int → Int → Option (Int × Int × Int)) (f13 : Int → Int → Int → Int → Option (Bool)) (f14 : Int → Int → Int → Int → Option (Int × Int × Int × Int)) (f15 : Int → Int → Int → Int → Option (Int × Int)) (a0 : Int) (a1 : Int) (a2 : Int) (a3 : Int) (a4 : Int) (a5 : Int) {β γ : Type} (g : β → γ) (out : Bool → β) : (partitalaw04_ValueFinds.t f10 f11 f12 f13 f14 f15 a0 a1 a2 a3 a4 a5 out).map g = partitalaw04_ValueFinds.t f10 f11 f12 f13 f14 f15 a0 a1 a2 a3 a4 a5 (fun r => g (out r)) := by
  unfold partitalaw04_ValueFinds.t
  simp only [map_bind', map_cond, map_ite, Option.map_some, Option.map_none, partitalaw04_ValueFinds.J14_map, partitalaw04_ValueFinds.J15_map]
def partitalaw04_ValueFinds.f (k : Nat) (a0 : Int) (a1 : Int) (a2 : Int) (a3 : Int) (a4 : Int) (a5 : Int) : Option (Bool) := partitalaw04_ValueFinds.t (partitalaw04_examples.f k) (value_Find.f k) (value_Length.f k) (value_Right.f k) (partitalaw04_Value.f) (partitalaw04_length.f k) a0 a1 a2 a3 a4 a5 id
theorem partitalaw04_ValueFinds.allOk (k : Nat) : AllOk Tryd.prog GW [(10, partitalaw04_examples_M27.tells (partitalaw04_examples.f k)), (11, value_Find_M27.tells (value_Find.f k)), (12, value_Length_M27.tells (value_Length.f k)), (13, value_Right_M27.tells (value_Right.f k)), (14, partitalaw04_Value_M27.tells (partitalaw04_Value.f)), (15, partitalaw04_length_M27.tells (partitalaw04_length.f k))] :=
  (allOk_cons (partitalaw04_examples_M27.tellsOk k) (allOk_cons (value_Find_M27.tellsOk k) (allOk_cons (value_Length_M27.tellsOk k) (allOk_cons (value_Right_M27.tellsOk k) (allOk_cons (partitalaw04_Value_M27.tellsOk k) (allOk_cons (partitalaw04_length_M27.tellsOk k) allOk_nil))))))
theorem partitalaw04_ValueFinds.runs (k : Nat) (a0 : Int) (a1 : Int) (a2 : Int) (a3 : Int) (a4 : Int) (a5 : Int) {r : Bool} (h : partitalaw04_ValueFinds.f k a0 a1 a2 a3 a4 a5 = some r) : runA Tryd.prog [(10, partitalaw04_examples_M27.tells (partitalaw04_examples.f k)), (11, value_Find_M27.tells (value_Find.f k)), (12, value_Length_M27.tells (value_Length.f k)), (13, value_Right_M27.tells (value_Right.f k)), (14, partitalaw04_Value_M27.tells (partitalaw04_Value.f)), (15, partitalaw04_length_M27.tells (partitalaw04_length.f k))] [] partitalaw04_ValueFinds.J 0 Tryd.f3 [.agg [.int .i64 a0, .int .i64 a1, .int .i64 a2, .int .i64 a3], .agg [.int .i64 a4, .int .i64 a5]] [] = some (.bool r) := by
  rw [partitalaw04_ValueFinds.run]
  have e := partitalaw04_ValueFinds.map (partitalaw04_examples.f k) (value_Find.f k) (value_Length.f k) (value_Right.f k) (partitalaw04_Value.f) (partitalaw04_length.f k) a0 a1 a2 a3 a4 a5 (fun r : Bool => (.bool r : AV)) id
  rw [show partitalaw04_ValueFinds.t (partitalaw04_examples.f k) (value_Find.f k) (value_Length.f k) (value_Right.f k) (partitalaw04_Value.f) (partitalaw04_length.f k) a0 a1 a2 a3 a4 a5 id = some r from h] at e
  exact e.symm
theorem partitalaw04_ValueFinds.tellsOk (k : Nat) : TellsOk Tryd.prog GW 3 (partitalaw04_ValueFinds.tells (partitalaw04_ValueFinds.f k)) :=
  tells_mk (by kernel_rfl) (partitalaw04_ValueFinds.allOk k) Tryd.func3 (fun args w => by kernel_rfl) (fun w w' h hb => h.step hb) no_globals fun args τ x out r hs hx => by
    unfold partitalaw04_ValueFinds.tells at hs
    split at hs
    · cases hs
      exact ⟨rfl, rfl, _, _, partitalaw04_ValueFinds.runs k _ _ _ _ _ _ hx⟩
    · cases hs
def partitalaw04_ValueFinds.Pure : Prop := ∀ (a0_0 : Int) (a0_1 : Int) (a0_2 : Int) (a0_3 : Int) (a1_0 : Int) (a1_1 : Int), (Lit.int .i64 a0_0).wf = true → (Lit.int .i64 a0_1).wf = true → (Lit.int .i64 a0_2).wf = true → (Lit.int .i64 a0_3).wf = true → (Lit.int .i64 a1_0).wf = true → (Lit.int .i64 a1_1).wf = true → ∃ k, partitalaw04_ValueFinds.f k a0_0 a0_1 a0_2 a0_3 a1_0 a1_1 = some true
theorem partitalaw04_ValueFinds.walk (P : partitalaw04_ValueFinds.Pure) (a0_0 : Int) (a0_1 : Int) (a0_2 : Int) (a0_3 : Int) (a1_0 : Int) (a1_1 : Int) (w : World) (hG_ : GW w) (w0_0 : (Lit.int .i64 a0_0).wf = true) (w0_1 : (Lit.int .i64 a0_1).wf = true) (w0_2 : (Lit.int .i64 a0_2).wf = true) (w0_3 : (Lit.int .i64 a0_3).wf = true) (w1_0 : (Lit.int .i64 a1_0).wf = true) (w1_1 : (Lit.int .i64 a1_1).wf = true) :
    Calls Tryd.prog 3 #[.agg #[.int .i64 a0_0, .int .i64 a0_1, .int .i64 a0_2, .int .i64 a0_3], .agg #[.int .i64 a1_0, .int .i64 a1_1]] w fun e w' => e = .returned (.bool true) ∧ Below w.heap.size w w' := by
  obtain ⟨k, h⟩ := P a0_0 a0_1 a0_2 a0_3 a1_0 a1_1 w0_0 w0_1 w0_2 w0_3 w1_0 w1_1
  exact law_simple (by kernel_rfl) (partitalaw04_ValueFinds.allOk k) Tryd.func3 (fun w w' h hb => h.step hb) (args := [.agg [.int .i64 a0_0, .int .i64 a0_1, .int .i64 a0_2, .int .i64 a0_3], .agg [.int .i64 a1_0, .int .i64 a1_1]]) (partitalaw04_ValueFinds.runs k _ _ _ _ _ _ h) rfl hG_

end Go.Proofs.YtajbnfidcpfonaaDoor.M
