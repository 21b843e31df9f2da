/- ValueText, by the small machine. -/
import Derived.Test.YtajbnfidcpfonaaDoorProg
import Derived.Test.YtajbnfidcpfonaaDoorR6
import Derived.Test.YtajbnfidcpfonaaDoorM0
import Derived.Test.YtajbnfidcpfonaaDoorM15
import Derived.Test.YtajbnfidcpfonaaDoorM17
import Derived.Test.YtajbnfidcpfonaaDoorM4
import Derived.Test.YtajbnfidcpfonaaDoorM8
import Derived.Test.YtajbnfidcpfonaaDoorM9
set_option linter.unusedVariables false
set_option linter.unusedSimpArgs false
namespace Go.Proofs.YtajbnfidcpfonaaDoor.M
open Go Go.RowKit Go.Proofs Go.Proofs.Rx 

def partitalaw04_examples_M29.tells (f : Option (Bool)) : Tells
  | [] => some (.mk (Bool) (f ) fun r => .bool r)
  | _ => none
theorem partitalaw04_examples_M29.tellsOk (k : Nat) : TellsOk Tryd.prog GW 10 (partitalaw04_examples_M29.tells (partitalaw04_examples.f k)) :=
  tells_simple (fun args w => by kernel_rfl) fun args τ x out r hs hx => by
    unfold partitalaw04_examples_M29.tells at hs
    split at hs
    · cases hs
      exact ⟨rfl, rfl, fun w hw => partitalaw04_examples.calls k  r w hw hx⟩
    · cases hs
def value_Right_M29.tells (f : Int → Int → Int → Int → Option (Bool)) : Tells
  | [.agg [.int .i64 a0, .int .i64 a1, .int .i64 a2, .int .i64 a3]] => some (.mk (Bool) (f a0 a1 a2 a3) fun r => .bool r)
  | _ => none
theorem value_Right_M29.tellsOk (k : Nat) : TellsOk Tryd.prog GW 13 (value_Right_M29.tells (value_Right.f k)) :=
  tells_simple (fun args w => by kernel_rfl) fun args τ x out r hs hx => by
    unfold value_Right_M29.tells at hs
    split at hs
    · cases hs
      exact ⟨rfl, rfl, fun w hw => value_Right.calls k _ _ _ _ r w hx⟩
    · cases hs
def partitalaw04_Value_M29.tells (f : Int → Int → Int → Int → Option (Int × Int × Int × Int)) : Tells
  | [.agg [.int .i64 a0, .int .i64 a1, .int .i64 a2, .int .i64 a3]] => some (.mk (Int × Int × Int × Int) (f a0 a1 a2 a3) fun r => .agg [.int .i64 r.1, .int .i64 r.2.1, .int .i64 r.2.2.1, .int .i64 r.2.2.2])
  | _ => none
theorem partitalaw04_Value_M29.tellsOk (k : Nat) : TellsOk Tryd.prog GW 14 (partitalaw04_Value_M29.tells (partitalaw04_Value.f)) :=
  tells_simple (fun args w => by kernel_rfl) fun args τ x out r hs hx => by
    unfold partitalaw04_Value_M29.tells at hs
    split at hs
    · cases hs
      exact ⟨rfl, rfl, fun w hw => partitalaw04_Value.calls _ _ _ _ r.1 r.2.1 r.2.2.1 r.2.2.2 w hx⟩
    · cases hs
def value_Text_M29.tells (f : Int → Int → Int → Int → Option (ByteArray × Int)) : Tells
  | [.agg [.int .i64 a0, .int .i64 a1, .int .i64 a2, .int .i64 a3]] => some (.mk (ByteArray × Int) (f a0 a1 a2 a3) fun r => .tup [.str r.1, .int .i64 r.2])
  | _ => none
theorem value_Text_M29.tellsOk (k : Nat) : TellsOk Tryd.prog GW 16 (value_Text_M29.tells (value_Text.f k)) :=
  tells_simple (fun args w => by kernel_rfl) fun args τ x out r hs hx => by
    unfold value_Text_M29.tells at hs
    split at hs
    · cases hs
      exact ⟨rfl, rfl, fun w hw => value_Text.calls k _ _ _ _ r.1 r.2 w hw hx⟩
    · cases hs
def value_Read_M29.tells (f : ByteArray → Option (Int × Int × Int × Int × Int)) : Tells
  | [.str a0] => some (.mk (Int × Int × Int × Int × Int) (f a0) fun r => .tup [.agg [.int .i64 r.1, .int .i64 r.2.1, .int .i64 r.2.2.1, .int .i64 r.2.2.2.1], .int .i64 r.2.2.2.2])
  | _ => none
theorem value_Read_M29.tellsOk (k : Nat) : TellsOk Tryd.prog GW 17 (value_Read_M29.tells (value_Read.f k)) :=
  tells_simple (fun args w => by kernel_rfl) fun args τ x out r hs hx => by
    unfold value_Read_M29.tells at hs
    split at hs
    · cases hs
      exact ⟨rfl, rfl, fun w hw => value_Read.calls k _ r.1 r.2.1 r.2.2.1 r.2.2.2.1 r.2.2.2.2 w hw hx⟩
    · cases hs
/-! ### partita/partitalaw04.ValueText: function 4 -/
def partitalaw04_ValueText.tells (f : Int → Int → Int → Int → Int → Int → Int → Int → ByteArray → Option (Bool)) : Tells
  | [.agg [.int .i64 a0, .int .i64 a1, .int .i64 a2, .int .i64 a3], .agg [.int .i64 a4, .int .i64 a5, .int .i64 a6, .int .i64 a7], .str a8] => some (.mk (Bool) (f a0 a1 a2 a3 a4 a5 a6 a7 a8) fun r => .bool r)
  | _ => none
def partitalaw04_ValueText.J : List (Nat × List Nat) := [(1, [21]), (2, [22]), (4, [24, 25]), (5, [26, 27]), (6, [28, 29, 30, 31, 32]), (7, [33, 34, 35, 36, 37]), (8, [38, 39, 40, 41, 42]), (9, [43, 44, 45, 46, 47]), (10, [48, 49, 50, 51, 52]), (11, [53, 54, 55, 56, 57]), (12, [58, 59, 60, 61, 62, 63, 64, 65, 66, 67, 68, 69, 70, 71, 72, 73, 74, 75, 76, 77, 78, 79, 80]), (14, [82, 83, 84, 85, 86, 87, 88, 89, 90, 91, 92, 93, 94, 95, 96, 97, 98, 99, 100, 101, 102, 103, 104, 105, 106, 107, 108]), (1000023, [23]), (1000081, [81])]
def partitalaw04_ValueText.t (f10 : Option (Bool)) (f13 : Int → Int → Int → Int → Option (Bool)) (f14 : Int → Int → Int → Int → Option (Int × Int × Int × Int)) (f16 : Int → Int → Int → Int → Option (ByteArray × Int)) (f17 : ByteArray → Option (Int × Int × Int × Int × Int)) (a0 : Int) (a1 : Int) (a2 : Int) (a3 : Int) (a4 : Int) (a5 : Int) (a6 : Int) (a7 : Int) (a8 : ByteArray) {β : Type} (out : Bool → β) : Option β :=
  f10.bind fun v1 =>
    bif !v1 then some (out false)
    else
      (f14 a0 a1 a2 a3).bind fun v2 =>
        (f14 a4 a5 a6 a7).bind fun v3 =>
          (f16 v2.fst v2.snd.fst v2.snd.snd.fst v2.snd.snd.snd).bind fun v4 =>
            (f16 v3.fst v3.snd.fst v3.snd.snd.fst v3.snd.snd.snd).bind fun v5 =>
              (f17 v4.fst).bind fun v6 =>
                if
                    ((0 : Int) ≤ if (30 : Int) < (↑a8.size : Int) then (30 : Int) else (↑a8.size : Int)) ∧
                      (if (30 : Int) < (↑a8.size : Int) then (30 : Int) else (↑a8.size : Int)) ≤ (↑a8.size : Int) then
                  if
                      (0 : Int) ≤ (0 : Int) ∧
                        (0 : Int) ≤ if (30 : Int) < (↑a8.size : Int) then (30 : Int) else (↑a8.size : Int) then
                    (f17
                          (a8.extract (Int.toNat (0 : Int))
                            (if (30 : Int) < (↑a8.size : Int) then (30 : Int) else (↑a8.size : Int)).toNat)).bind
                      fun v7 =>
                      (f16 v7.fst v7.snd.fst v7.snd.snd.fst v7.snd.snd.snd.fst).bind fun v8 =>
                        bif !v4.snd == (0 : Int) then some (out false)
                        else
                          bif !v5.snd == (0 : Int) then some (out false)
                          else
                            bif !v6.snd.snd.snd.snd == (0 : Int) then some (out false)
                            else
                              bif
                                  !(v6.fst == v2.fst &&
                                      (v6.snd.fst == v2.snd.fst &&
                                        (v6.snd.snd.fst == v2.snd.snd.fst &&
                                          (v6.snd.snd.snd.fst == v2.snd.snd.snd && true)))) then
                                some (out false)
                              else
                                bif
                                    !(v4.fst.toList == v5.fst.toList) ==
                                        (v2.fst == v3.fst &&
                                          (v2.snd.fst == v3.snd.fst &&
                                            (v2.snd.snd.fst == v3.snd.snd.fst &&
                                              (v2.snd.snd.snd == v3.snd.snd.snd && true)))) then
                                  some (out false)
                                else
                                  bif v1 then
                                    bif v7.snd.snd.snd.snd == (0 : Int) then
                                      (f13 v7.fst v7.snd.fst v7.snd.snd.fst v7.snd.snd.snd.fst).bind fun v9 =>
                                        bif v9 then
                                          bif v8.snd == (0 : Int) then
                                            bif
                                                v8.fst.toList ==
                                                  (a8.extract (Int.toNat (0 : Int))
                                                      (if (30 : Int) < (↑a8.size : Int) then (30 : Int)
                                                        else (↑a8.size : Int)).toNat).toList then
                                              some (out true)
                                            else
                                              bif v7.snd.snd.snd.snd == (12 : Int) then
                                                some
                                                  (out
                                                    (v7.fst == (0 : Int) &&
                                                      (v7.snd.fst == (0 : Int) &&
                                                        (v7.snd.snd.fst == (0 : Int) &&
                                                          (v7.snd.snd.snd.fst == (0 : Int) && true)))))
                                              else some (out false)
                                          else
                                            bif v7.snd.snd.snd.snd == (12 : Int) then
                                              some
                                                (out
                                                  (v7.fst == (0 : Int) &&
                                                    (v7.snd.fst == (0 : Int) &&
                                                      (v7.snd.snd.fst == (0 : Int) &&
                                                        (v7.snd.snd.snd.fst == (0 : Int) && true)))))
                                            else some (out false)
                                        else
                                          bif v7.snd.snd.snd.snd == (12 : Int) then
                                            some
                                              (out
                                                (v7.fst == (0 : Int) &&
                                                  (v7.snd.fst == (0 : Int) &&
                                                    (v7.snd.snd.fst == (0 : Int) &&
                                                      (v7.snd.snd.snd.fst == (0 : Int) && true)))))
                                          else some (out false)
                                    else
                                      bif v7.snd.snd.snd.snd == (12 : Int) then
                                        some
                                          (out
                                            (v7.fst == (0 : Int) &&
                                              (v7.snd.fst == (0 : Int) &&
                                                (v7.snd.snd.fst == (0 : Int) &&
                                                  (v7.snd.snd.snd.fst == (0 : Int) && true)))))
                                      else some (out false)
                                  else some (out false)
                  else none
                else none
set_option maxRecDepth 100000 in
theorem partitalaw04_ValueText.run (f10 : Option (Bool)) (f13 : Int → Int → Int → Int → Option (Bool)) (f14 : Int → Int → Int → Int → Option (Int × Int × Int × Int)) (f16 : Int → Int → Int → Int → Option (ByteArray × Int)) (f17 : ByteArray → Option (Int × Int × Int × Int × Int)) (a0 : Int) (a1 : Int) (a2 : Int) (a3 : Int) (a4 : Int) (a5 : Int) (a6 : Int) (a7 : Int) (a8 : ByteArray) : runA Tryd.prog [(10, partitalaw04_examples_M29.tells f10), (13, value_Right_M29.tells f13), (14, partitalaw04_Value_M29.tells f14), (16, value_Text_M29.tells f16), (17, value_Read_M29.tells f17)] [] partitalaw04_ValueText.J 0 Tryd.f4 [.agg [.int .i64 a0, .int .i64 a1, .int .i64 a2, .int .i64 a3], .agg [.int .i64 a4, .int .i64 a5, .int .i64 a6, .int .i64 a7], .str a8] [] = partitalaw04_ValueText.t f10 f13 f14 f16 f17 a0 a1 a2 a3 a4 a5 a6 a7 a8 (fun r => .bool r) := by kernel_rfl
theorem partitalaw04_ValueText.map (f10 : Option (Bool)) (f13 : Int → Int → Int → Int → Option (Bool)) (f14 : Int → Int → Int → Int → Option (Int × Int × Int × Int)) (f16 : Int → Int → Int → Int → Option (ByteArray × Int)) (f17 : ByteArray → Option (Int × Int × Int × Int × Int)) (a0 : Int) (a1 : Int) (a2 : Int) (a3 : Int) (a4 : Int) (a5 : Int) (a6 : Int) (a7 : Int) (a8 : ByteArray) {β γ : Type} (g : β → γ) (out : Bool → β) : (partitalaw04_ValueText.t f10 f13 f14 f16 f17 a0 a1 a2 a3 a4 a5 a6 a7 a8 out).map g = partitalaw04_ValueText.t f10 f13 f14 f16 f17 a0 a1 a2 a3 a4 a5 a6 a7 a8 (fun r => g (out r)) := by
  unfold partitalaw04_ValueText.t
  simp only [map_bind', map_cond, map_ite, Option.map_some, Option.map_none]
def partitalaw04_ValueText.f (k : Nat) (a0 : Int) (a1 : Int) (a2 : Int) (a3 : Int) (a4 : Int) (a5 : Int) (a6 : Int) (a7 : Int) (a8 : ByteArray) : Option (Bool) := partitalaw04_ValueText.t (partitalaw04_examples.f k) (value_Right.f k) (partitalaw04_Value.f) (value_Text.f k) (value_Read.f k) a0 a1 a2 a3 a4 a5 a6 a7 a8 id
theorem partitalaw04_ValueText.allOk (k : Nat) : AllOk Tryd.prog GW [(10, partitalaw04_examples_M29.tells (partitalaw04_examples.f k)), (13, value_Right_M29.tells (value_Right.f k)), (14, partitalaw04_Value_M29.tells (partitalaw04_Value.f)), (16, value_Text_M29.tells (value_Text.f k)), (17, value_Read_M29.tells (value_Read.f k))] :=
  (allOk_cons (partitalaw04_examples_M29.tellsOk k) (allOk_cons (value_Right_M29.tellsOk k) (allOk_cons (partitalaw04_Value_M29.tellsOk k) (allOk_cons (value_Text_M29.tellsOk k) (allOk_cons (value_Read_M29.tellsOk k) allOk_nil)))))
theorem partitalaw04_ValueText.runs (k : Nat) (a0 : Int) (a1 : Int) (a2 : Int) (a3 : Int) (a4 : Int) (a5 : Int) (a6 : Int) (a7 : Int) (a8 : ByteArray) {r : Bool} (h : partitalaw04_ValueText.f k a0 a1 a2 a3 a4 a5 a6 a7 a8 = some r) : runA Tryd.prog [(10, partitalaw04_examples_M29.tells (partitalaw04_examples.f k)), (13, value_Right_M29.tells (value_Right.f k)), (14, partitalaw04_Value_M29.tells (partitalaw04_Value.f)), (16, value_Text_M29.tells (value_Text.f k)), (17, value_Read_M29.tells (value_Read.f k))] [] partitalaw04_ValueText.J 0 Tryd.f4 [.agg [.int .i64 a0, .int .i64 a1, .int .i64 a2, .int .i64 a3], .agg [.int .i64 a4, .int .i64 a5, .int .i64 a6, .int .i64 a7], .str a8] [] = some (.bool r) := by
  rw [partitalaw04_ValueText.run]
  have e := partitalaw04_ValueText.map (partitalaw04_examples.f k) (value_Right.f k) (partitalaw04_Value.f) (value_Text.f k) (value_Read.f k) a0 a1 a2 a3 a4 a5 a6 a7 a8 (fun r : Bool => (.bool r : AV)) id
  rw [show partitalaw04_ValueText.t (partitalaw04_examples.f k) (value_Right.f k) (partitalaw04_Value.f) (value_Text.f k) (value_Read.f k) a0 a1 a2 a3 a4 a5 a6 a7 a8 id = some r from h] at e
  exact e.symm
theorem partitalaw04_ValueText.tellsOk (k : Nat) : TellsOk Tryd.prog GW 4 (partitalaw04_ValueText.tells (partitalaw04_ValueText.f k)) :=
  tells_mk (by kernel_rfl) (partitalaw04_ValueText.allOk k) Tryd.func4 (fun args w => by kernel_rfl) (fun w w' h hb => h.step hb) no_globals fun args τ x out r hs hx => by
    unfold partitalaw04_ValueText.tells at hs
    split at hs
    · cases hs
      exact ⟨rfl, rfl, _, _, partitalaw04_ValueText.runs k _ _ _ _ _ _ _ _ _ hx⟩
    · cases hs
def partitalaw04_ValueText.Pure : Prop := ∀ (a0_0 : Int) (a0_1 : Int) (a0_2 : Int) (a0_3 : Int) (a1_0 : Int) (a1_1 : Int) (a1_2 : Int) (a1_3 : Int) (a2 : ByteArray), (Lit.int .i64 a0_0).wf = true → (Lit.int .i64 a0_1).wf = true → (Lit.int .i64 a0_2).wf = true → (Lit.int .i64 a0_3).wf = true → (Lit.int .i64 a1_0).wf = true → (Lit.int .i64 a1_1).wf = true → (Lit.int .i64 a1_2).wf = true → (Lit.int .i64 a1_3).wf = true → a2.size ≤ 140737488351232 → ∃ k, partitalaw04_ValueText.f k a0_0 a0_1 a0_2 a0_3 a1_0 a1_1 a1_2 a1_3 a2 = some true
theorem partitalaw04_ValueText.walk (P : partitalaw04_ValueText.Pure) (a0_0 : Int) (a0_1 : Int) (a0_2 : Int) (a0_3 : Int) (a1_0 : Int) (a1_1 : Int) (a1_2 : Int) (a1_3 : Int) (a2 : ByteArray) (w : World) (hG_ : GW w) (w0_0 : (Lit.int .i64 a0_0).wf = true) (w0_1 : (Lit.int .i64 a0_1).wf = true) (w0_2 : (Lit.int .i64 a0_2).wf = true) (w0_3 : (Lit.int .i64 a0_3).wf = true) (w1_0 : (Lit.int .i64 a1_0).wf = true) (w1_1 : (Lit.int .i64 a1_1).wf = true) (w1_2 : (Lit.int .i64 a1_2).wf = true) (w1_3 : (Lit.int .i64 a1_3).wf = true) (w2 : a2.size ≤ 140737488351232) :
    Calls Tryd.prog 4 #[.agg #[.int .i64 a0_0, .int .i64 a0_1, .int .i64 a0_2, .int .i64 a0_3], .agg #[.int .i64 a1_0, .int .i64 a1_1, .int .i64 a1_2, .int .i64 a1_3], .string a2] w fun e w' => e = .returned (.bool true) ∧ Below w.heap.size w w' := by
  obtain ⟨k, h⟩ := P a0_0 a0_1 a0_2 a0_3 a1_0 a1_1 a1_2 a1_3 a2 w0_0 w0_1 w0_2 w0_3 w1_0 w1_1 w1_2 w1_3 w2
  exact law_simple (by kernel_rfl) (partitalaw04_ValueText.allOk k) Tryd.func4 (fun w w' h hb => h.step hb) (args := [.agg [.int .i64 a0_0, .int .i64 a0_1, .int .i64 a0_2, .int .i64 a0_3], .agg [.int .i64 a1_0, .int .i64 a1_1, .int .i64 a1_2, .int .i64 a1_3], .str a2]) (partitalaw04_ValueText.runs k _ _ _ _ _ _ _ _ _ h) rfl hG_

end Go.Proofs.YtajbnfidcpfonaaDoor.M
