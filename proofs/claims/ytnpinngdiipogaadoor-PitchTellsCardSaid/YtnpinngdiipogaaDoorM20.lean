/- PitchTells, by the small machine. -/
import Derived.Test.YtnpinngdiipogaaDoorProg
import Derived.Test.YtnpinngdiipogaaDoorR6
import Derived.Test.YtnpinngdiipogaaDoorGRead
import Derived.Test.YtnpinngdiipogaaDoorM0
import Derived.Test.YtnpinngdiipogaaDoorM10
import Derived.Test.YtnpinngdiipogaaDoorM11
import Derived.Test.YtnpinngdiipogaaDoorM12
import Derived.Test.YtnpinngdiipogaaDoorM13
import Derived.Test.YtnpinngdiipogaaDoorM14
import Derived.Test.YtnpinngdiipogaaDoorM15
import Derived.Test.YtnpinngdiipogaaDoorM16
import Derived.Test.YtnpinngdiipogaaDoorM17
import Derived.Test.YtnpinngdiipogaaDoorM18
import Derived.Test.YtnpinngdiipogaaDoorM3
import Derived.Test.YtnpinngdiipogaaDoorM5
import Derived.Test.YtnpinngdiipogaaDoorM6
import Derived.Test.YtnpinngdiipogaaDoorM7
import Derived.Test.YtnpinngdiipogaaDoorM9
set_option linter.unusedVariables false
set_option linter.unusedSimpArgs false
namespace Go.Proofs.YtnpinngdiipogaaDoor.M
open Go Go.RowKit Go.Proofs Go.Proofs.Rx 

def partitalaw02_awake.tells (f : Option (Bool)) : Tells
  | [] => some (.mk (Bool) (f ) fun r => .bool r)
  | _ => none
theorem partitalaw02_awake.tellsOk (k : Nat) : TellsOk Tryd.prog GW 12 (partitalaw02_awake.tells (partitalaw02_awake.f k)) :=
  tells_simple (fun args w => by kernel_rfl) fun args τ x out r hs hx => by
    unfold partitalaw02_awake.tells at hs
    split at hs
    · cases hs
      exact ⟨rfl, rfl, fun w hw => partitalaw02_awake.calls k  r w hw hx⟩
    · cases hs
def partitalaw02_Pitch.tells (f : Int → Int → Int → Option (Int × Int × Int)) : Tells
  | [.agg [.int .i64 a0, .int .i64 a1, .int .i64 a2]] => some (.mk (Int × Int × Int) (f a0 a1 a2) fun r => .agg [.int .i64 r.1, .int .i64 r.2.1, .int .i64 r.2.2])
  | _ => none
theorem partitalaw02_Pitch.tellsOk (k : Nat) : TellsOk Tryd.prog GW 13 (partitalaw02_Pitch.tells (partitalaw02_Pitch.f)) :=
  tells_simple (fun args w => by kernel_rfl) fun args τ x out r hs hx => by
    unfold partitalaw02_Pitch.tells at hs
    split at hs
    · cases hs
      exact ⟨rfl, rfl, fun w hw => partitalaw02_Pitch.calls _ _ _ r.1 r.2.1 r.2.2 w hx⟩
    · cases hs
def pitch_Number.tells (f : Int → Int → Int → Option (Int × Int)) : Tells
  | [.agg [.int .i64 a0, .int .i64 a1, .int .i64 a2]] => some (.mk (Int × Int) (f a0 a1 a2) fun r => .tup [.int .i64 r.1, .int .i64 r.2])
  | _ => none
theorem pitch_Number.tellsOk (k : Nat) : TellsOk Tryd.prog GW 14 (pitch_Number.tells (pitch_Number.f)) :=
  tells_simple (fun args w => by kernel_rfl) fun args τ x out r hs hx => by
    unfold pitch_Number.tells at hs
    split at hs
    · cases hs
      exact ⟨rfl, rfl, fun w hw => pitch_Number.calls _ _ _ r.1 r.2 w hw hx⟩
    · cases hs
def partitaref02_Number.tells (f : Int → Int → Int → Option (Int × Int)) : Tells
  | [.agg [.int .i64 a0, .int .i64 a1, .int .i64 a2]] => some (.mk (Int × Int) (f a0 a1 a2) fun r => .tup [.int .i64 r.1, .int .i64 r.2])
  | _ => none
theorem partitaref02_Number.tellsOk (k : Nat) : TellsOk Tryd.prog GW 15 (partitaref02_Number.tells (partitaref02_Number.f)) :=
  tells_simple (fun args w => by kernel_rfl) fun args τ x out r hs hx => by
    unfold partitaref02_Number.tells at hs
    split at hs
    · cases hs
      exact ⟨rfl, rfl, fun w hw => partitaref02_Number.calls _ _ _ r.1 r.2 w hx⟩
    · cases hs
def pitch_Line.tells (f : Int → Int → Int → Option (Int × Int)) : Tells
  | [.agg [.int .i64 a0, .int .i64 a1, .int .i64 a2]] => some (.mk (Int × Int) (f a0 a1 a2) fun r => .tup [.int .i64 r.1, .int .i64 r.2])
  | _ => none
theorem pitch_Line.tellsOk (k : Nat) : TellsOk Tryd.prog GW 16 (pitch_Line.tells (pitch_Line.f)) :=
  tells_simple (fun args w => by kernel_rfl) fun args τ x out r hs hx => by
    unfold pitch_Line.tells at hs
    split at hs
    · cases hs
      exact ⟨rfl, rfl, fun w hw => pitch_Line.calls _ _ _ r.1 r.2 w hw hx⟩
    · cases hs
def partitaref02_Line.tells (f : Int → Int → Int → Option (Int × Int)) : Tells
  | [.agg [.int .i64 a0, .int .i64 a1, .int .i64 a2]] => some (.mk (Int × Int) (f a0 a1 a2) fun r => .tup [.int .i64 r.1, .int .i64 r.2])
  | _ => none
theorem partitaref02_Line.tellsOk (k : Nat) : TellsOk Tryd.prog GW 17 (partitaref02_Line.tells (partitaref02_Line.f)) :=
  tells_simple (fun args w => by kernel_rfl) fun args τ x out r hs hx => by
    unfold partitaref02_Line.tells at hs
    split at hs
    · cases hs
      exact ⟨rfl, rfl, fun w hw => partitaref02_Line.calls _ _ _ r.1 r.2 w hx⟩
    · cases hs
def pitch_Text.tells (f : Int → Int → Int → Option (ByteArray × Int)) : Tells
  | [.agg [.int .i64 a0, .int .i64 a1, .int .i64 a2]] => some (.mk (ByteArray × Int) (f a0 a1 a2) fun r => .tup [.str r.1, .int .i64 r.2])
  | _ => none
theorem pitch_Text.tellsOk (k : Nat) : TellsOk Tryd.prog GW 18 (pitch_Text.tells (pitch_Text.f)) :=
  tells_simple (fun args w => by kernel_rfl) fun args τ x out r hs hx => by
    unfold pitch_Text.tells at hs
    split at hs
    · cases hs
      exact ⟨rfl, rfl, fun w hw => pitch_Text.calls _ _ _ r.1 r.2 w hw hx⟩
    · cases hs
def partitaref02_Text.tells (f : Int → Int → Int → Option (ByteArray × Int)) : Tells
  | [.agg [.int .i64 a0, .int .i64 a1, .int .i64 a2]] => some (.mk (ByteArray × Int) (f a0 a1 a2) fun r => .tup [.str r.1, .int .i64 r.2])
  | _ => none
theorem partitaref02_Text.tellsOk (k : Nat) : TellsOk Tryd.prog GW 19 (partitaref02_Text.tells (partitaref02_Text.f k)) :=
  tells_simple (fun args w => by kernel_rfl) fun args τ x out r hs hx => by
    unfold partitaref02_Text.tells at hs
    split at hs
    · cases hs
      exact ⟨rfl, rfl, fun w hw => partitaref02_Text.calls k _ _ _ r.1 r.2 w hx⟩
    · cases hs
def pitch_Right.tells (f : Int → Int → Int → Option (Bool)) : Tells
  | [.agg [.int .i64 a0, .int .i64 a1, .int .i64 a2]] => some (.mk (Bool) (f a0 a1 a2) fun r => .bool r)
  | _ => none
theorem pitch_Right.tellsOk (k : Nat) : TellsOk Tryd.prog GW 20 (pitch_Right.tells (pitch_Right.f)) :=
  tells_simple (fun args w => by kernel_rfl) fun args τ x out r hs hx => by
    unfold pitch_Right.tells at hs
    split at hs
    · cases hs
      exact ⟨rfl, rfl, fun w hw => pitch_Right.calls _ _ _ r w hw hx⟩
    · cases hs
def partitaref02_Right.tells (f : Int → Int → Int → Option (Bool)) : Tells
  | [.agg [.int .i64 a0, .int .i64 a1, .int .i64 a2]] => some (.mk (Bool) (f a0 a1 a2) fun r => .bool r)
  | _ => none
theorem partitaref02_Right.tellsOk (k : Nat) : TellsOk Tryd.prog GW 21 (partitaref02_Right.tells (partitaref02_Right.f)) :=
  tells_simple (fun args w => by kernel_rfl) fun args τ x out r hs hx => by
    unfold partitaref02_Right.tells at hs
    split at hs
    · cases hs
      exact ⟨rfl, rfl, fun w hw => partitaref02_Right.calls _ _ _ r w hx⟩
    · cases hs
def partitalaw02_pick.tells (f : Int → Int → Option (Int)) : Tells
  | [.int .i64 a0, .int .i64 a1] => some (.mk (Int) (f a0 a1) fun r => .int .i64 r)
  | _ => none
theorem partitalaw02_pick.tellsOk (k : Nat) : TellsOk Tryd.prog GW 22 (partitalaw02_pick.tells (partitalaw02_pick.f)) :=
  tells_simple (fun args w => by kernel_rfl) fun args τ x out r hs hx => by
    unfold partitalaw02_pick.tells at hs
    split at hs
    · cases hs
      exact ⟨rfl, rfl, fun w hw => (partitalaw02_pick.calls _ _ r w hx).mono fun e w' q => ⟨q.1, q.2.below⟩⟩
    · cases hs
def pitch_Up.tells (f : Int → Int → Int → Int → Int → Option (Int × Int × Int × Int)) : Tells
  | [.agg [.int .i64 a0, .int .i64 a1, .int .i64 a2], .agg [.int .i64 a3, .int .i64 a4]] => some (.mk (Int × Int × Int × Int) (f a0 a1 a2 a3 a4) fun r => .tup [.agg [.int .i64 r.1, .int .i64 r.2.1, .int .i64 r.2.2.1], .int .i64 r.2.2.2])
  | _ => none
theorem pitch_Up.tellsOk (k : Nat) : TellsOk Tryd.prog GW 23 (pitch_Up.tells (pitch_Up.f k)) :=
  tells_simple (fun args w => by kernel_rfl) fun args τ x out r hs hx => by
    unfold pitch_Up.tells at hs
    split at hs
    · cases hs
      exact ⟨rfl, rfl, fun w hw => pitch_Up.calls k _ _ _ _ _ r.1 r.2.1 r.2.2.1 r.2.2.2 w hw hx⟩
    · cases hs
def partitaref02_Up.tells (f : Int → Int → Int → Int → Int → Option (Int × Int × Int × Int)) : Tells
  | [.agg [.int .i64 a0, .int .i64 a1, .int .i64 a2], .agg [.int .i64 a3, .int .i64 a4]] => some (.mk (Int × Int × Int × Int) (f a0 a1 a2 a3 a4) fun r => .tup [.agg [.int .i64 r.1, .int .i64 r.2.1, .int .i64 r.2.2.1], .int .i64 r.2.2.2])
  | _ => none
theorem partitaref02_Up.tellsOk (k : Nat) : TellsOk Tryd.prog GW 24 (partitaref02_Up.tells (partitaref02_Up.f k)) :=
  tells_simple (fun args w => by kernel_rfl) fun args τ x out r hs hx => by
    unfold partitaref02_Up.tells at hs
    split at hs
    · cases hs
      exact ⟨rfl, rfl, fun w hw => partitaref02_Up.calls k _ _ _ _ _ r.1 r.2.1 r.2.2.1 r.2.2.2 w hx⟩
    · cases hs
def pitch_Between.tells (f : Int → Int → Int → Int → Int → Int → Option (Int × Int × Int)) : Tells
  | [.agg [.int .i64 a0, .int .i64 a1, .int .i64 a2], .agg [.int .i64 a3, .int .i64 a4, .int .i64 a5]] => some (.mk (Int × Int × Int) (f a0 a1 a2 a3 a4 a5) fun r => .tup [.agg [.int .i64 r.1, .int .i64 r.2.1], .int .i64 r.2.2])
  | _ => none
theorem pitch_Between.tellsOk (k : Nat) : TellsOk Tryd.prog GW 25 (pitch_Between.tells (pitch_Between.f k)) :=
  tells_simple (fun args w => by kernel_rfl) fun args τ x out r hs hx => by
    unfold pitch_Between.tells at hs
    split at hs
    · cases hs
      exact ⟨rfl, rfl, fun w hw => pitch_Between.calls k _ _ _ _ _ _ r.1 r.2.1 r.2.2 w hw hx⟩
    · cases hs
def partitaref02_Between.tells (f : Int → Int → Int → Int → Int → Int → Option (Int × Int × Int)) : Tells
  | [.agg [.int .i64 a0, .int .i64 a1, .int .i64 a2], .agg [.int .i64 a3, .int .i64 a4, .int .i64 a5]] => some (.mk (Int × Int × Int) (f a0 a1 a2 a3 a4 a5) fun r => .tup [.agg [.int .i64 r.1, .int .i64 r.2.1], .int .i64 r.2.2])
  | _ => none
theorem partitaref02_Between.tellsOk (k : Nat) : TellsOk Tryd.prog GW 26 (partitaref02_Between.tells (partitaref02_Between.f k)) :=
  tells_simple (fun args w => by kernel_rfl) fun args τ x out r hs hx => by
    unfold partitaref02_Between.tells at hs
    split at hs
    · cases hs
      exact ⟨rfl, rfl, fun w hw => partitaref02_Between.calls k _ _ _ _ _ _ r.1 r.2.1 r.2.2 w hx⟩
    · cases hs
def pitch_Compare.tells (f : Int → Int → Int → Int → Int → Int → Option (Int)) : Tells
  | [.agg [.int .i64 a0, .int .i64 a1, .int .i64 a2], .agg [.int .i64 a3, .int .i64 a4, .int .i64 a5]] => some (.mk (Int) (f a0 a1 a2 a3 a4 a5) fun r => .int .i64 r)
  | _ => none
theorem pitch_Compare.tellsOk (k : Nat) : TellsOk Tryd.prog GW 27 (pitch_Compare.tells (pitch_Compare.f k)) :=
  tells_simple (fun args w => by kernel_rfl) fun args τ x out r hs hx => by
    unfold pitch_Compare.tells at hs
    split at hs
    · cases hs
      exact ⟨rfl, rfl, fun w hw => pitch_Compare.calls k _ _ _ _ _ _ r w hw hx⟩
    · cases hs
def partitaref02_Compare.tells (f : Int → Int → Int → Int → Int → Int → Option (Int)) : Tells
  | [.agg [.int .i64 a0, .int .i64 a1, .int .i64 a2], .agg [.int .i64 a3, .int .i64 a4, .int .i64 a5]] => some (.mk (Int) (f a0 a1 a2 a3 a4 a5) fun r => .int .i64 r)
  | _ => none
theorem partitaref02_Compare.tellsOk (k : Nat) : TellsOk Tryd.prog GW 28 (partitaref02_Compare.tells (partitaref02_Compare.f k)) :=
  tells_simple (fun args w => by kernel_rfl) fun args τ x out r hs hx => by
    unfold partitaref02_Compare.tells at hs
    split at hs
    · cases hs
      exact ⟨rfl, rfl, fun w hw => partitaref02_Compare.calls k _ _ _ _ _ _ r w hx⟩
    · cases hs
def pitch_Read.tells (f : ByteArray → Option (Int × Int × Int × Int)) : Tells
  | [.str a0] => some (.mk (Int × Int × Int × Int) (f a0) fun r => .tup [.agg [.int .i64 r.1, .int .i64 r.2.1, .int .i64 r.2.2.1], .int .i64 r.2.2.2])
  | _ => none
theorem pitch_Read.tellsOk (k : Nat) : TellsOk Tryd.prog GW 29 (pitch_Read.tells (pitch_Read.f)) :=
  tells_simple (fun args w => by kernel_rfl) fun args τ x out r hs hx => by
    unfold pitch_Read.tells at hs
    split at hs
    · cases hs
      exact ⟨rfl, rfl, fun w hw => pitch_Read.calls _ r.1 r.2.1 r.2.2.1 r.2.2.2 w hw hx⟩
    · cases hs
def partitaref02_Read.tells (f : ByteArray → Option (Int × Int × Int × Int)) : Tells
  | [.str a0] => some (.mk (Int × Int × Int × Int) (f a0) fun r => .tup [.agg [.int .i64 r.1, .int .i64 r.2.1, .int .i64 r.2.2.1], .int .i64 r.2.2.2])
  | _ => none
theorem partitaref02_Read.tellsOk (k : Nat) : TellsOk Tryd.prog GW 30 (partitaref02_Read.tells (partitaref02_Read.f k)) :=
  tells_simple (fun args w => by kernel_rfl) fun args τ x out r hs hx => by
    unfold partitaref02_Read.tells at hs
    split at hs
    · cases hs
      exact ⟨rfl, rfl, fun w hw => partitaref02_Read.calls k _ r.1 r.2.1 r.2.2.1 r.2.2.2 w hx⟩
    · cases hs
/-! ### partita/partitalaw02.PitchTells: function 3 -/
def partitalaw02_PitchTells.tells (f : Int → Int → Int → Int → Int → Int → Int → Int → ByteArray → Option (Bool)) : Tells
  | [.agg [.int .i64 a0, .int .i64 a1, .int .i64 a2], .agg [.int .i64 a3, .int .i64 a4, .int .i64 a5], .agg [.int .i64 a6, .int .i64 a7], .str a8] => some (.mk (Bool) (f a0 a1 a2 a3 a4 a5 a6 a7 a8) fun r => .bool r)
  | _ => none
def partitalaw02_PitchTells.J : List (Nat × List Nat) := [(1, [41]), (2, [42, 43, 44, 45, 46]), (3, [47, 48, 49]), (5, [54, 55]), (6, [56, 57, 58, 59, 60]), (7, [61, 62, 63, 64, 65]), (8, [66, 67, 68, 69, 70]), (9, [71, 72, 73, 74, 75]), (10, [76, 77, 78, 79, 80]), (11, [81, 82, 83, 84, 85]), (12, [86, 87, 88, 89, 90, 91, 92, 93, 94, 95, 96, 97, 98, 99, 100, 101, 102, 103, 104, 105, 106, 107, 108, 109, 110, 111, 112, 113, 114, 115, 116, 117, 118, 119]), (14, [121, 122, 123, 124, 125, 126, 127, 128, 129, 130]), (16, [135, 136]), (17, [137, 138, 139, 140, 141, 142]), (18, [143, 144, 145, 146, 147, 148]), (19, [149, 150, 151, 152, 153, 154, 155]), (21, [157]), (22, [158, 159, 160]), (24, [165, 166]), (25, [167, 168, 169, 170, 171, 172]), (26, [173, 174, 175, 176, 177, 178]), (27, [179, 180, 181, 182, 183, 184, 185, 186, 187, 188, 189, 190, 191, 192, 193, 194]), (29, [196]), (30, [197]), (31, [198, 199, 200, 201, 202]), (32, [203, 204, 205, 206, 207]), (33, [208, 209, 210, 211, 212, 213, 214, 215, 216, 217, 218]), (1000053, [53]), (1000120, [120]), (1000134, [134]), (1000156, [156]), (1000164, [164]), (1000195, [195])]
def partitalaw02_PitchTells.t (f12 : Option (Bool)) (f13 : Int → Int → Int → Option (Int × Int × Int)) (f14 : Int → Int → Int → Option (Int × Int)) (f15 : Int → Int → Int → Option (Int × Int)) (f16 : Int → Int → Int → Option (Int × Int)) (f17 : Int → Int → Int → Option (Int × Int)) (f18 : Int → Int → Int → Option (ByteArray × Int)) (f19 : Int → Int → Int → Option (ByteArray × Int)) (f20 : Int → Int → Int → Option (Bool)) (f21 : Int → Int → Int → Option (Bool)) (f22 : Int → Int → Option (Int)) (f23 : Int → Int → Int → Int → Int → Option (Int × Int × Int × Int)) (f24 : Int → Int → Int → Int → Int → Option (Int × Int × Int × Int)) (f25 : Int → Int → Int → Int → Int → Int → Option (Int × Int × Int)) (f26 : Int → Int → Int → Int → Int → Int → Option (Int × Int × Int)) (f27 : Int → Int → Int → Int → Int → Int → Option (Int)) (f28 : Int → Int → Int → Int → Int → Int → Option (Int)) (f29 : ByteArray → Option (Int × Int × Int × Int)) (f30 : ByteArray → Option (Int × Int × Int × Int)) (a0 : Int) (a1 : Int) (a2 : Int) (a3 : Int) (a4 : Int) (a5 : Int) (a6 : Int) (a7 : Int) (a8 : ByteArray) {β : Type} (out : Bool → β) : Option β :=
  f12.bind fun v1 =>
    if
        ((0 : Int) ≤ if (20 : Int) < (↑a8.size : Int) then (20 : Int) else (↑a8.size : Int)) ∧
          (if (20 : Int) < (↑a8.size : Int) then (20 : Int) else (↑a8.size : Int)) ≤ (↑a8.size : Int) then
      if (0 : Int) ≤ (0 : Int) ∧ (0 : Int) ≤ if (20 : Int) < (↑a8.size : Int) then (20 : Int) else (↑a8.size : Int) then
        (f13 a0 a1 a2).bind fun v2 =>
          (f14 a0 a1 a2).bind fun v3 =>
            (f15 a0 a1 a2).bind fun v4 =>
              (f16 a0 a1 a2).bind fun v5 =>
                (f17 a0 a1 a2).bind fun v6 =>
                  (f18 a0 a1 a2).bind fun v7 =>
                    (f19 a0 a1 a2).bind fun v8 =>
                      (f20 a0 a1 a2).bind fun v9 =>
                        (f21 a0 a1 a2).bind fun v10 =>
                          bif !v9 == v10 then some (out false)
                          else
                            bif !v3.fst == v4.fst then some (out false)
                            else
                              bif !v3.snd == v4.snd then some (out false)
                              else
                                bif !v5.fst == v6.fst then some (out false)
                                else
                                  bif !v5.snd == v6.snd then some (out false)
                                  else
                                    bif !v7.fst.toList == v8.fst.toList then some (out false)
                                    else
                                      bif !v7.snd == v8.snd then some (out false)
                                      else
                                        (f22 a6 (41 : Int)).bind fun v11 =>
                                          (f22 a7 (81 : Int)).bind fun v12 =>
                                            (f23 a0 a1 a2 a6 a7).bind fun v13 =>
                                              (f24 a0 a1 a2 a6 a7).bind fun v14 =>
                                                bif
                                                    !(v13.fst == v14.fst &&
                                                        (v13.snd.fst == v14.snd.fst &&
                                                          (v13.snd.snd.fst == v14.snd.snd.fst && true))) then
                                                  some (out false)
                                                else
                                                  bif !v13.snd.snd.snd == v14.snd.snd.snd then some (out false)
                                                  else
                                                    (f23 a0 a1 a2 (IntKind.i64.wrap (v11 - (20 : Int)))
                                                          (IntKind.i64.wrap (v12 - (40 : Int)))).bind
                                                      fun v15 =>
                                                      (f24 a0 a1 a2 (IntKind.i64.wrap (v11 - (20 : Int)))
                                                            (IntKind.i64.wrap (v12 - (40 : Int)))).bind
                                                        fun v16 =>
                                                        bif
                                                            !(v15.fst == v16.fst &&
                                                                (v15.snd.fst == v16.snd.fst &&
                                                                  (v15.snd.snd.fst == v16.snd.snd.fst && true))) then
                                                          some (out false)
                                                        else
                                                          bif !v15.snd.snd.snd == v16.snd.snd.snd then some (out false)
                                                          else
                                                            (f13 a3 a4 a5).bind fun v17 =>
                                                              (f25 a0 a1 a2 a3 a4 a5).bind fun v18 =>
                                                                (f26 a0 a1 a2 a3 a4 a5).bind fun v19 =>
                                                                  bif
                                                                      !(v18.fst == v19.fst &&
                                                                          (v18.snd.fst == v19.snd.fst && true)) then
                                                                    some (out false)
                                                                  else
                                                                    bif !v18.snd.snd == v19.snd.snd then some (out false)
                                                                    else
                                                                      (f27 a0 a1 a2 a3 a4 a5).bind fun v20 =>
                                                                        (f28 a0 a1 a2 a3 a4 a5).bind fun v21 =>
                                                                          bif !v20 == v21 then some (out false)
                                                                          else
                                                                            (f25 a0 a1 a2 v17.fst v17.snd.fst
                                                                                  v17.snd.snd).bind
                                                                              fun v22 =>
                                                                              (f26 a0 a1 a2 v17.fst v17.snd.fst
                                                                                    v17.snd.snd).bind
                                                                                fun v23 =>
                                                                                bif
                                                                                    !(v22.fst == v23.fst &&
                                                                                        (v22.snd.fst == v23.snd.fst &&
                                                                                          true)) then
                                                                                  some (out false)
                                                                                else
                                                                                  bif !v22.snd.snd == v23.snd.snd then
                                                                                    some (out false)
                                                                                  else
                                                                                    (f27 a0 a1 a2 v17.fst v17.snd.fst
                                                                                          v17.snd.snd).bind
                                                                                      fun v24 =>
                                                                                      (f28 a0 a1 a2 v17.fst v17.snd.fst
                                                                                            v17.snd.snd).bind
                                                                                        fun v25 =>
                                                                                        bif !v24 == v25 then
                                                                                          some (out false)
                                                                                        else
                                                                                          (f14 v2.fst v2.snd.fst
                                                                                                v2.snd.snd).bind
                                                                                            fun v26 =>
                                                                                            (f15 v2.fst v2.snd.fst
                                                                                                  v2.snd.snd).bind
                                                                                              fun v27 =>
                                                                                              (f16 v2.fst v2.snd.fst
                                                                                                    v2.snd.snd).bind
                                                                                                fun v28 =>
                                                                                                (f17 v2.fst v2.snd.fst
                                                                                                      v2.snd.snd).bind
                                                                                                  fun v29 =>
                                                                                                  (f18 v2.fst v2.snd.fst
                                                                                                        v2.snd.snd).bind
                                                                                                    fun v30 =>
                                                                                                    (f19 v2.fst v2.snd.fst
                                                                                                          v2.snd.snd).bind
                                                                                                      fun v31 =>
                                                                                                      (f20 v2.fst
                                                                                                            v2.snd.fst
                                                                                                            v2.snd.snd).bind
                                                                                                        fun v32 =>
                                                                                                        (f21 v2.fst
                                                                                                              v2.snd.fst
                                                                                                              v2.snd.snd).bind
                                                                                                          fun v33 =>
                                                                                                          bif
                                                                                                              !v32 ==
                                                                                                                  v33 then
                                                                                                            some
                                                                                                              (out false)
                                                                                                          else
                                                                                                            bif
                                                                                                                !v26.fst ==
                                                                                                                    v27.fst then
                                                                                                              some
                                                                                                                (out
                                                                                                                  false)
                                                                                                            else
                                                                                                              bif
                                                                                                                  !v26.snd ==
                                                                                                                      v27.snd then
                                                                                                                some
                                                                                                                  (out
                                                                                                                    false)
                                                                                                              else
                                                                                                                bif
                                                                                                                    !v28.fst ==
                                                                                                                        v29.fst then
                                                                                                                  some
                                                                                                                    (out
                                                                                                                      false)
                                                                                                                else
                                                                                                                  bif
                                                                                                                      !v28.snd ==
                                                                                                                          v29.snd then
                                                                                                                    some
                                                                                                                      (out
                                                                                                                        false)
                                                                                                                  else
                                                                                                                    bif
                                                                                                                        !v30.fst.toList ==
                                                                                                                            v31.fst.toList then
                                                                                                                      some
                                                                                                                        (out
                                                                                                                          false)
                                                                                                                    else
                                                                                                                      bif
                                                                                                                          !v30.snd ==
                                                                                                                              v31.snd then
                                                                                                                        some
                                                                                                                          (out
                                                                                                                            false)
                                                                                                                      else
                                                                                                                        (f22
                                                                                                                              a6
                                                                                                                              (41 :
                                                                                                                                Int)).bind
                                                                                                                          fun
                                                                                                                            v34 =>
                                                                                                                          (f22
                                                                                                                                a7
                                                                                                                                (81 :
                                                                                                                                  Int)).bind
                                                                                                                            fun
                                                                                                                              v35 =>
                                                                                                                            (f23
                                                                                                                                  v2.fst
                                                                                                                                  v2.snd.fst
                                                                                                                                  v2.snd.snd
                                                                                                                                  a6
                                                                                                                                  a7).bind
                                                                                                                              fun
                                                                                                                                v36 =>
                                                                                                                              (f24
                                                                                                                                    v2.fst
                                                                                                                                    v2.snd.fst
                                                                                                                                    v2.snd.snd
                                                                                                                                    a6
                                                                                                                                    a7).bind
                                                                                                                                fun
                                                                                                                                  v37 =>
                                                                                                                                bif
                                                                                                                                    !(v36.fst ==
                                                                                                                                          v37.fst &&
                                                                                                                                        (v36.snd.fst ==
                                                                                                                                            v37.snd.fst &&
                                                                                                                                          (v36.snd.snd.fst ==
                                                                                                                                              v37.snd.snd.fst &&
                                                                                                                                            true))) then
                                                                                                                                  some
                                                                                                                                    (out
                                                                                                                                      false)
                                                                                                                                else
                                                                                                                                  bif
                                                                                                                                      !v36.snd.snd.snd ==
                                                                                                                                          v37.snd.snd.snd then
                                                                                                                                    some
                                                                                                                                      (out
                                                                                                                                        false)
                                                                                                                                  else
                                                                                                                                    (f23
                                                                                                                                          v2.fst
                                                                                                                                          v2.snd.fst
                                                                                                                                          v2.snd.snd
                                                                                                                                          (IntKind.i64.wrap
                                                                                                                                            (v34 -
                                                                                                                                              (20 :
                                                                                                                                                Int)))
                                                                                                                                          (IntKind.i64.wrap
                                                                                                                                            (v35 -
                                                                                                                                              (40 :
                                                                                                                                                Int)))).bind
                                                                                                                                      fun
                                                                                                                                        v38 =>
                                                                                                                                      (f24
                                                                                                                                            v2.fst
                                                                                                                                            v2.snd.fst
                                                                                                                                            v2.snd.snd
                                                                                                                                            (IntKind.i64.wrap
                                                                                                                                              (v34 -
                                                                                                                                                (20 :
                                                                                                                                                  Int)))
                                                                                                                                            (IntKind.i64.wrap
                                                                                                                                              (v35 -
                                                                                                                                                (40 :
                                                                                                                                                  Int)))).bind
                                                                                                                                        fun
                                                                                                                                          v39 =>
                                                                                                                                        bif
                                                                                                                                            !(v38.fst ==
                                                                                                                                                  v39.fst &&
                                                                                                                                                (v38.snd.fst ==
                                                                                                                                                    v39.snd.fst &&
                                                                                                                                                  (v38.snd.snd.fst ==
                                                                                                                                                      v39.snd.snd.fst &&
                                                                                                                                                    true))) then
                                                                                                                                          some
                                                                                                                                            (out
                                                                                                                                              false)
                                                                                                                                        else
                                                                                                                                          bif
                                                                                                                                              !v38.snd.snd.snd ==
                                                                                                                                                  v39.snd.snd.snd then
                                                                                                                                            some
                                                                                                                                              (out
                                                                                                                                                false)
                                                                                                                                          else
                                                                                                                                            (f13
                                                                                                                                                  a3
                                                                                                                                                  a4
                                                                                                                                                  a5).bind
                                                                                                                                              fun
                                                                                                                                                v40 =>
                                                                                                                                              (f25
                                                                                                                                                    v2.fst
                                                                                                                                                    v2.snd.fst
                                                                                                                                                    v2.snd.snd
                                                                                                                                                    a3
                                                                                                                                                    a4
                                                                                                                                                    a5).bind
                                                                                                                                                fun
                                                                                                                                                  v41 =>
                                                                                                                                                (f26
                                                                                                                                                      v2.fst
                                                                                                                                                      v2.snd.fst
                                                                                                                                                      v2.snd.snd
                                                                                                                                                      a3
                                                                                                                                                      a4
                                                                                                                                                      a5).bind
                                                                                                                                                  fun
                                                                                                                                                    v42 =>
                                                                                                                                                  bif
                                                                                                                                                      !(v41.fst ==
                                                                                                                                                            v42.fst &&
                                                                                                                                                          (v41.snd.fst ==
                                                                                                                                                              v42.snd.fst &&
                                                                                                                                                            true)) then
                                                                                                                                                    some
                                                                                                                                                      (out
                                                                                                                                                        false)
                                                                                                                                                  else
                                                                                                                                                    bif
                                                                                                                                                        !v41.snd.snd ==
                                                                                                                                                            v42.snd.snd then
                                                                                                                                                      some
                                                                                                                                                        (out
                                                                                                                                                          false)
                                                                                                                                                    else
                                                                                                                                                      (f27
                                                                                                                                                            v2.fst
                                                                                                                                                            v2.snd.fst
                                                                                                                                                            v2.snd.snd
                                                                                                                                                            a3
                                                                                                                                                            a4
                                                                                                                                                            a5).bind
                                                                                                                                                        fun
                                                                                                                                                          v43 =>
                                                                                                                                                        (f28
                                                                                                                                                              v2.fst
                                                                                                                                                              v2.snd.fst
                                                                                                                                                              v2.snd.snd
                                                                                                                                                              a3
                                                                                                                                                              a4
                                                                                                                                                              a5).bind
                                                                                                                                                          fun
                                                                                                                                                            v44 =>
                                                                                                                                                          bif
                                                                                                                                                              !v43 ==
                                                                                                                                                                  v44 then
                                                                                                                                                            some
                                                                                                                                                              (out
                                                                                                                                                                false)
                                                                                                                                                          else
                                                                                                                                                            (f25
                                                                                                                                                                  v2.fst
                                                                                                                                                                  v2.snd.fst
                                                                                                                                                                  v2.snd.snd
                                                                                                                                                                  v40.fst
                                                                                                                                                                  v40.snd.fst
                                                                                                                                                                  v40.snd.snd).bind
                                                                                                                                                              fun
                                                                                                                                                                v45 =>
                                                                                                                                                              (f26
                                                                                                                                                                    v2.fst
                                                                                                                                                                    v2.snd.fst
                                                                                                                                                                    v2.snd.snd
                                                                                                                                                                    v40.fst
                                                                                                                                                                    v40.snd.fst
                                                                                                                                                                    v40.snd.snd).bind
                                                                                                                                                                fun
                                                                                                                                                                  v46 =>
                                                                                                                                                                bif
                                                                                                                                                                    !(v45.fst ==
                                                                                                                                                                          v46.fst &&
                                                                                                                                                                        (v45.snd.fst ==
                                                                                                                                                                            v46.snd.fst &&
                                                                                                                                                                          true)) then
                                                                                                                                                                  some
                                                                                                                                                                    (out
                                                                                                                                                                      false)
                                                                                                                                                                else
                                                                                                                                                                  bif
                                                                                                                                                                      !v45.snd.snd ==
                                                                                                                                                                          v46.snd.snd then
                                                                                                                                                                    some
                                                                                                                                                                      (out
                                                                                                                                                                        false)
                                                                                                                                                                  else
                                                                                                                                                                    (f27
                                                                                                                                                                          v2.fst
                                                                                                                                                                          v2.snd.fst
                                                                                                                                                                          v2.snd.snd
                                                                                                                                                                          v40.fst
                                                                                                                                                                          v40.snd.fst
                                                                                                                                                                          v40.snd.snd).bind
                                                                                                                                                                      fun
                                                                                                                                                                        v47 =>
                                                                                                                                                                      (f28
                                                                                                                                                                            v2.fst
                                                                                                                                                                            v2.snd.fst
                                                                                                                                                                            v2.snd.snd
                                                                                                                                                                            v40.fst
                                                                                                                                                                            v40.snd.fst
                                                                                                                                                                            v40.snd.snd).bind
                                                                                                                                                                        fun
                                                                                                                                                                          v48 =>
                                                                                                                                                                        bif
                                                                                                                                                                            !v47 ==
                                                                                                                                                                                v48 then
                                                                                                                                                                          some
                                                                                                                                                                            (out
                                                                                                                                                                              false)
                                                                                                                                                                        else
                                                                                                                                                                          (f29
                                                                                                                                                                                (a8.extract
                                                                                                                                                                                  (Int.toNat
                                                                                                                                                                                    (0 :
                                                                                                                                                                                      Int))
                                                                                                                                                                                  (if
                                                                                                                                                                                        (20 :
                                                                                                                                                                                            Int) <
                                                                                                                                                                                          (↑a8.size :
                                                                                                                                                                                            Int) then
                                                                                                                                                                                      (20 :
                                                                                                                                                                                        Int)
                                                                                                                                                                                    else
                                                                                                                                                                                      (↑a8.size :
                                                                                                                                                                                        Int)).toNat)).bind
                                                                                                                                                                            fun
                                                                                                                                                                              v49 =>
                                                                                                                                                                            (f30
                                                                                                                                                                                  (a8.extract
                                                                                                                                                                                    (Int.toNat
                                                                                                                                                                                      (0 :
                                                                                                                                                                                        Int))
                                                                                                                                                                                    (if
                                                                                                                                                                                          (20 :
                                                                                                                                                                                              Int) <
                                                                                                                                                                                            (↑a8.size :
                                                                                                                                                                                              Int) then
                                                                                                                                                                                        (20 :
                                                                                                                                                                                          Int)
                                                                                                                                                                                      else
                                                                                                                                                                                        (↑a8.size :
                                                                                                                                                                                          Int)).toNat)).bind
                                                                                                                                                                              fun
                                                                                                                                                                                v50 =>
                                                                                                                                                                              bif
                                                                                                                                                                                  v1 then
                                                                                                                                                                                bif
                                                                                                                                                                                    v49.fst ==
                                                                                                                                                                                        v50.fst &&
                                                                                                                                                                                      (v49.snd.fst ==
                                                                                                                                                                                          v50.snd.fst &&
                                                                                                                                                                                        (v49.snd.snd.fst ==
                                                                                                                                                                                            v50.snd.snd.fst &&
                                                                                                                                                                                          true)) then
                                                                                                                                                                                  some
                                                                                                                                                                                    (out
                                                                                                                                                                                      (v49.snd.snd.snd ==
                                                                                                                                                                                        v50.snd.snd.snd))
                                                                                                                                                                                else
                                                                                                                                                                                  some
                                                                                                                                                                                    (out
                                                                                                                                                                                      false)
                                                                                                                                                                              else
                                                                                                                                                                                some
                                                                                                                                                                                  (out
                                                                                                                                                                                    false)
      else none
    else none
set_option maxRecDepth 100000 in
theorem partitalaw02_PitchTells.run (f12 : Option (Bool)) (f13 : Int → Int → Int → Option (Int × Int × Int)) (f14 : Int → Int → Int → Option (Int × Int)) (f15 : Int → Int → Int → Option (Int × Int)) (f16 : Int → Int → Int → Option (Int × Int)) (f17 : Int → Int → Int → Option (Int × Int)) (f18 : Int → Int → Int → Option (ByteArray × Int)) (f19 : Int → Int → Int → Option (ByteArray × Int)) (f20 : Int → Int → Int → Option (Bool)) (f21 : Int → Int → Int → Option (Bool)) (f22 : Int → Int → Option (Int)) (f23 : Int → Int → Int → Int → Int → Option (Int × Int × Int × Int)) (f24 : Int → Int → Int → Int → Int → Option (Int × Int × Int × Int)) (f25 : Int → Int → Int → Int → Int → Int → Option (Int × Int × Int)) (f26 : Int → Int → Int → Int → Int → Int → Option (Int × Int × Int)) (f27 : Int → Int → Int → Int → Int → Int → Option (Int)) (f28 : Int → Int → Int → Int → Int → Int → Option (Int)) (f29 : ByteArray → Option (Int × Int × Int × Int)) (f30 : ByteArray → Option (Int × Int × Int × Int)) (a0 : Int) (a1 : Int) (a2 : Int) (a3 : Int) (a4 : Int) (a5 : Int) (a6 : Int) (a7 : Int) (a8 : ByteArray) : runA Tryd.prog [(12, partitalaw02_awake.tells f12), (13, partitalaw02_Pitch.tells f13), (14, pitch_Number.tells f14), (15, partitaref02_Number.tells f15), (16, pitch_Line.tells f16), (17, partitaref02_Line.tells f17), (18, pitch_Text.tells f18), (19, partitaref02_Text.tells f19), (20, pitch_Right.tells f20), (21, partitaref02_Right.tells f21), (22, partitalaw02_pick.tells f22), (23, pitch_Up.tells f23), (24, partitaref02_Up.tells f24), (25, pitch_Between.tells f25), (26, partitaref02_Between.tells f26), (27, pitch_Compare.tells f27), (28, partitaref02_Compare.tells f28), (29, pitch_Read.tells f29), (30, partitaref02_Read.tells f30)] [] partitalaw02_PitchTells.J 4 Tryd.f3 [.agg [.int .i64 a0, .int .i64 a1, .int .i64 a2], .agg [.int .i64 a3, .int .i64 a4, .int .i64 a5], .agg [.int .i64 a6, .int .i64 a7], .str a8] [] = partitalaw02_PitchTells.t f12 f13 f14 f15 f16 f17 f18 f19 f20 f21 f22 f23 f24 f25 f26 f27 f28 f29 f30 a0 a1 a2 a3 a4 a5 a6 a7 a8 (fun r => .bool r) := by kernel_rfl
theorem partitalaw02_PitchTells.map (f12 : Option (Bool)) (f13 : Int → Int → Int → Option (Int × Int × Int)) (f14 : Int → Int → Int → Option (Int × Int)) (f15 : Int → Int → Int → Option (Int × Int)) (f16 : Int → Int → Int → Option (Int × Int)) (f17 : Int → Int → Int → Option (Int × Int)) (f18 : Int → Int → Int → Option (ByteArray × Int)) (f19 : Int → Int → Int → Option (ByteArray × Int)) (f20 : Int → Int → Int → Option (Bool)) (f21 : Int → Int → Int → Option (Bool)) (f22 : Int → Int → Option (Int)) (f23 : Int → Int → Int → Int → Int → Option (Int × Int × Int × Int)) (f24 : Int → Int → Int → Int → Int → Option (Int × Int × Int × Int)) (f25 : Int → Int → Int → Int → Int → Int → Option (Int × Int × Int)) (f26 : Int → Int → Int → Int → Int → Int → Option (Int × Int × Int)) (f27 : Int → Int → Int → Int → Int → Int → Option (Int)) (f28 : Int → Int → Int → Int → Int → Int → Option (Int)) (f29 : ByteArray → Option (Int × Int × Int × Int)) (f30 : ByteArray → Option (Int × Int × Int × Int)) (a0 : Int) (a1 : Int) (a2 : Int) (a3 : Int) (a4 : Int) (a5 : Int) (a6 : Int) (a7 : Int) (a8 : ByteArray) {β γ : Type} (g : β → γ) (out : Bool → β) : (partitalaw02_PitchTells.t f12 f13 f14 f15 f16 f17 f18 f19 f20 f21 f22 f23 f24 f25 f26 f27 f28 f29 f30 a0 a1 a2 a3 a4 a5 a6 a7 a8 out).map g = partitalaw02_PitchTells.t f12 f13 f14 f15 f16 f17 f18 f19 f20 f21 f22 f23 f24 f25 f26 f27 f28 f29 f30 a0 a1 a2 a3 a4 a5 a6 a7 a8 (fun r => g (out r)) := by
  unfold partitalaw02_PitchTells.t
  simp only [map_bind', map_cond, map_ite, Option.map_some, Option.map_none]
def partitalaw02_PitchTells.f (k : Nat) (a0 : Int) (a1 : Int) (a2 : Int) (a3 : Int) (a4 : Int) (a5 : Int) (a6 : Int) (a7 : Int) (a8 : ByteArray) : Option (Bool) := partitalaw02_PitchTells.t (partitalaw02_awake.f k) (partitalaw02_Pitch.f) (pitch_Number.f) (partitaref02_Number.f) (pitch_Line.f) (partitaref02_Line.f) (pitch_Text.f) (partitaref02_Text.f k) (pitch_Right.f) (partitaref02_Right.f) (partitalaw02_pick.f) (pitch_Up.f k) (partitaref02_Up.f k) (pitch_Between.f k) (partitaref02_Between.f k) (pitch_Compare.f k) (partitaref02_Compare.f k) (pitch_Read.f) (partitaref02_Read.f k) a0 a1 a2 a3 a4 a5 a6 a7 a8 id
theorem partitalaw02_PitchTells.allOk (k : Nat) : AllOk Tryd.prog GW [(12, partitalaw02_awake.tells (partitalaw02_awake.f k)), (13, partitalaw02_Pitch.tells (partitalaw02_Pitch.f)), (14, pitch_Number.tells (pitch_Number.f)), (15, partitaref02_Number.tells (partitaref02_Number.f)), (16, pitch_Line.tells (pitch_Line.f)), (17, partitaref02_Line.tells (partitaref02_Line.f)), (18, pitch_Text.tells (pitch_Text.f)), (19, partitaref02_Text.tells (partitaref02_Text.f k)), (20, pitch_Right.tells (pitch_Right.f)), (21, partitaref02_Right.tells (partitaref02_Right.f)), (22, partitalaw02_pick.tells (partitalaw02_pick.f)), (23, pitch_Up.tells (pitch_Up.f k)), (24, partitaref02_Up.tells (partitaref02_Up.f k)), (25, pitch_Between.tells (pitch_Between.f k)), (26, partitaref02_Between.tells (partitaref02_Between.f k)), (27, pitch_Compare.tells (pitch_Compare.f k)), (28, partitaref02_Compare.tells (partitaref02_Compare.f k)), (29, pitch_Read.tells (pitch_Read.f)), (30, partitaref02_Read.tells (partitaref02_Read.f k))] :=
  (allOk_cons (partitalaw02_awake.tellsOk k) (allOk_cons (partitalaw02_Pitch.tellsOk k) (allOk_cons (pitch_Number.tellsOk k) (allOk_cons (partitaref02_Number.tellsOk k) (allOk_cons (pitch_Line.tellsOk k) (allOk_cons (partitaref02_Line.tellsOk k) (allOk_cons (pitch_Text.tellsOk k) (allOk_cons (partitaref02_Text.tellsOk k) (allOk_cons (pitch_Right.tellsOk k) (allOk_cons (partitaref02_Right.tellsOk k) (allOk_cons (partitalaw02_pick.tellsOk k) (allOk_cons (pitch_Up.tellsOk k) (allOk_cons (partitaref02_Up.tellsOk k) (allOk_cons (pitch_Between.tellsOk k) (allOk_cons (partitaref02_Between.tellsOk k) (allOk_cons (pitch_Compare.tellsOk k) (allOk_cons (partitaref02_Compare.tellsOk k) (allOk_cons (pitch_Read.tellsOk k) (allOk_cons (partitaref02_Read.tellsOk k) allOk_nil)))))))))))))))))))
theorem partitalaw02_PitchTells.runs (k : Nat) (a0 : Int) (a1 : Int) (a2 : Int) (a3 : Int) (a4 : Int) (a5 : Int) (a6 : Int) (a7 : Int) (a8 : ByteArray) {r : Bool} (h : partitalaw02_PitchTells.f k a0 a1 a2 a3 a4 a5 a6 a7 a8 = some r) : runA Tryd.prog [(12, partitalaw02_awake.tells (partitalaw02_awake.f k)), (13, partitalaw02_Pitch.tells (partitalaw02_Pitch.f)), (14, pitch_Number.tells (pitch_Number.f)), (15, partitaref02_Number.tells (partitaref02_Number.f)), (16, pitch_Line.tells (pitch_Line.f)), (17, partitaref02_Line.tells (partitaref02_Line.f)), (18, pitch_Text.tells (pitch_Text.f)), (19, partitaref02_Text.tells (partitaref02_Text.f k)), (20, pitch_Right.tells (pitch_Right.f)), (21, partitaref02_Right.tells (partitaref02_Right.f)), (22, partitalaw02_pick.tells (partitalaw02_pick.f)), (23, pitch_Up.tells (pitch_Up.f k)), (24, partitaref02_Up.tells (partitaref02_Up.f k)), (25, pitch_Between.tells (pitch_Between.f k)), (26, partitaref02_Between.tells (partitaref02_Between.f k)), (27, pitch_Compare.tells (pitch_Compare.f k)), (28, partitaref02_Compare.tells (partitaref02_Compare.f k)), (29, pitch_Read.tells (pitch_Read.f)), (30, partitaref02_Read.tells (partitaref02_Read.f k))] [] partitalaw02_PitchTells.J 4 Tryd.f3 [.agg [.int .i64 a0, .int .i64 a1, .int .i64 a2], .agg [.int .i64 a3, .int .i64 a4, .int .i64 a5], .agg [.int .i64 a6, .int .i64 a7], .str a8] [] = some (.bool r) := by
  rw [partitalaw02_PitchTells.run]
  have e := partitalaw02_PitchTells.map (partitalaw02_awake.f k) (partitalaw02_Pitch.f) (pitch_Number.f) (partitaref02_Number.f) (pitch_Line.f) (partitaref02_Line.f) (pitch_Text.f) (partitaref02_Text.f k) (pitch_Right.f) (partitaref02_Right.f) (partitalaw02_pick.f) (pitch_Up.f k) (partitaref02_Up.f k) (pitch_Between.f k) (partitaref02_Between.f k) (pitch_Compare.f k) (partitaref02_Compare.f k) (pitch_Read.f) (partitaref02_Read.f k) a0 a1 a2 a3 a4 a5 a6 a7 a8 (fun r : Bool => (.bool r : AV)) id
  rw [show partitalaw02_PitchTells.t (partitalaw02_awake.f k) (partitalaw02_Pitch.f) (pitch_Number.f) (partitaref02_Number.f) (pitch_Line.f) (partitaref02_Line.f) (pitch_Text.f) (partitaref02_Text.f k) (pitch_Right.f) (partitaref02_Right.f) (partitalaw02_pick.f) (pitch_Up.f k) (partitaref02_Up.f k) (pitch_Between.f k) (partitaref02_Between.f k) (pitch_Compare.f k) (partitaref02_Compare.f k) (pitch_Read.f) (partitaref02_Read.f k) a0 a1 a2 a3 a4 a5 a6 a7 a8 id = some r from h] at e
  exact e.symm
theorem partitalaw02_PitchTells.tellsOk (k : Nat) : TellsOk Tryd.prog GW 3 (partitalaw02_PitchTells.tells (partitalaw02_PitchTells.f k)) :=
  tells_mk (by kernel_rfl) (partitalaw02_PitchTells.allOk k) Tryd.func3 (fun args w => by kernel_rfl) (fun w w' h hb => h.step hb) no_globals fun args τ x out r hs hx => by
    unfold partitalaw02_PitchTells.tells at hs
    split at hs
    · cases hs
      exact ⟨rfl, rfl, _, _, partitalaw02_PitchTells.runs k _ _ _ _ _ _ _ _ _ hx⟩
    · cases hs
def partitalaw02_PitchTells.Pure : Prop := ∀ (a0_0 : Int) (a0_1 : Int) (a0_2 : Int) (a1_0 : Int) (a1_1 : Int) (a1_2 : Int) (a2_0 : Int) (a2_1 : Int) (a3 : ByteArray), (Lit.int .i64 a0_0).wf = true → (Lit.int .i64 a0_1).wf = true → (Lit.int .i64 a0_2).wf = true → (Lit.int .i64 a1_0).wf = true → (Lit.int .i64 a1_1).wf = true → (Lit.int .i64 a1_2).wf = true → (Lit.int .i64 a2_0).wf = true → (Lit.int .i64 a2_1).wf = true → a3.size ≤ 140737488351232 → ∃ k, partitalaw02_PitchTells.f k a0_0 a0_1 a0_2 a1_0 a1_1 a1_2 a2_0 a2_1 a3 = some true
theorem partitalaw02_PitchTells.walk (P : partitalaw02_PitchTells.Pure) (a0_0 : Int) (a0_1 : Int) (a0_2 : Int) (a1_0 : Int) (a1_1 : Int) (a1_2 : Int) (a2_0 : Int) (a2_1 : Int) (a3 : ByteArray) (w : World) (hG_ : GW w) (w0_0 : (Lit.int .i64 a0_0).wf = true) (w0_1 : (Lit.int .i64 a0_1).wf = true) (w0_2 : (Lit.int .i64 a0_2).wf = true) (w1_0 : (Lit.int .i64 a1_0).wf = true) (w1_1 : (Lit.int .i64 a1_1).wf = true) (w1_2 : (Lit.int .i64 a1_2).wf = true) (w2_0 : (Lit.int .i64 a2_0).wf = true) (w2_1 : (Lit.int .i64 a2_1).wf = true) (w3 : a3.size ≤ 140737488351232) :
    Calls Tryd.prog 3 #[.agg #[.int .i64 a0_0, .int .i64 a0_1, .int .i64 a0_2], .agg #[.int .i64 a1_0, .int .i64 a1_1, .int .i64 a1_2], .agg #[.int .i64 a2_0, .int .i64 a2_1], .string a3] w fun e w' => e = .returned (.bool true) ∧ Below w.heap.size w w' := by
  obtain ⟨k, h⟩ := P a0_0 a0_1 a0_2 a1_0 a1_1 a1_2 a2_0 a2_1 a3 w0_0 w0_1 w0_2 w1_0 w1_1 w1_2 w2_0 w2_1 w3
  exact law_simple (by kernel_rfl) (partitalaw02_PitchTells.allOk k) Tryd.func3 (fun w w' h hb => h.step hb) (args := [.agg [.int .i64 a0_0, .int .i64 a0_1, .int .i64 a0_2], .agg [.int .i64 a1_0, .int .i64 a1_1, .int .i64 a1_2], .agg [.int .i64 a2_0, .int .i64 a2_1], .str a3]) (partitalaw02_PitchTells.runs k _ _ _ _ _ _ _ _ _ h) rfl hG_

end Go.Proofs.YtnpinngdiipogaaDoor.M
