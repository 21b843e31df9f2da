/- What is told of two ratios, by the small machine. -/
import Derived.Test.YtofolkbappinhaaDoorProg
import Derived.Test.YtofolkbappinhaaDoorR6
import Derived.Test.YtofolkbappinhaaDoorM0
import Derived.Test.YtofolkbappinhaaDoorM3
import Derived.Test.YtofolkbappinhaaDoorM7
import Derived.Test.YtofolkbappinhaaDoorM8
import Derived.Test.YtofolkbappinhaaDoorM9
import Derived.Test.YtofolkbappinhaaDoorM10
import Derived.Test.YtofolkbappinhaaDoorM11
import Derived.Test.YtofolkbappinhaaDoorM17
import Derived.Test.YtofolkbappinhaaDoorM18
import Derived.Test.YtofolkbappinhaaDoorM20
import Derived.Test.YtofolkbappinhaaDoorM21
set_option linter.unusedVariables false
set_option linter.unusedSimpArgs false
namespace Go.Proofs.YtofolkbappinhaaDoor.M
open Go Go.RowKit Go.Proofs Go.Proofs.Rx Go.Proofs.YtofolkbappinhaaDoorW.PrintWords Go.Proofs.YtofolkbappinhaaDoorW.PrintLast Go.Proofs.YtofolkbappinhaaDoorW.PrintMore

def ratio_Right.tells (f : Int → Int → Option (Bool)) : Tells
  | [.agg [.int .i64 a0, .int .i64 a1]] => some (.mk (Bool) (f a0 a1) fun r => .bool r)
  | _ => none
theorem ratio_Right.tellsOk (k : Nat) : TellsOk Tryd.prog GW 19 (ratio_Right.tells (ratio_Right.f k)) :=
  tells_simple (fun args w => by kernel_rfl) fun args τ x out r hs hx => by
    unfold ratio_Right.tells at hs
    split at hs
    · cases hs
      exact ⟨rfl, rfl, fun w hw => ratio_Right.calls k _ _ r w hx⟩
    · cases hs
def ratio_Add.tells (f : Int → Int → Int → Int → Option (Int × Int × Int)) : Tells
  | [.agg [.int .i64 a0, .int .i64 a1], .agg [.int .i64 a2, .int .i64 a3]] => some (.mk (Int × Int × Int) (f a0 a1 a2 a3) fun r => .tup [.agg [.int .i64 r.1, .int .i64 r.2.1], .int .i64 r.2.2])
  | _ => none
theorem ratio_Add.tellsOk (k : Nat) : TellsOk Tryd.prog GW 20 (ratio_Add.tells (ratio_Add.f k)) :=
  tells_simple (fun args w => by kernel_rfl) fun args τ x out r hs hx => by
    unfold ratio_Add.tells at hs
    split at hs
    · cases hs
      exact ⟨rfl, rfl, fun w hw => ratio_Add.calls k _ _ _ _ r.1 r.2.1 r.2.2 w hx⟩
    · cases hs
def ratio_Mul.tells (f : Int → Int → Int → Int → Option (Int × Int × Int)) : Tells
  | [.agg [.int .i64 a0, .int .i64 a1], .agg [.int .i64 a2, .int .i64 a3]] => some (.mk (Int × Int × Int) (f a0 a1 a2 a3) fun r => .tup [.agg [.int .i64 r.1, .int .i64 r.2.1], .int .i64 r.2.2])
  | _ => none
theorem ratio_Mul.tellsOk (k : Nat) : TellsOk Tryd.prog GW 21 (ratio_Mul.tells (ratio_Mul.f k)) :=
  tells_simple (fun args w => by kernel_rfl) fun args τ x out r hs hx => by
    unfold ratio_Mul.tells at hs
    split at hs
    · cases hs
      exact ⟨rfl, rfl, fun w hw => ratio_Mul.calls k _ _ _ _ r.1 r.2.1 r.2.2 w hx⟩
    · cases hs
def ratio_Sub.tells (f : Int → Int → Int → Int → Option (Int × Int × Int)) : Tells
  | [.agg [.int .i64 a0, .int .i64 a1], .agg [.int .i64 a2, .int .i64 a3]] => some (.mk (Int × Int × Int) (f a0 a1 a2 a3) fun r => .tup [.agg [.int .i64 r.1, .int .i64 r.2.1], .int .i64 r.2.2])
  | _ => none
theorem ratio_Sub.tellsOk (k : Nat) : TellsOk Tryd.prog GW 22 (ratio_Sub.tells (ratio_Sub.f k)) :=
  tells_simple (fun args w => by kernel_rfl) fun args τ x out r hs hx => by
    unfold ratio_Sub.tells at hs
    split at hs
    · cases hs
      exact ⟨rfl, rfl, fun w hw => ratio_Sub.calls k _ _ _ _ r.1 r.2.1 r.2.2 w hx⟩
    · cases hs
def ratio_Div.tells (f : Int → Int → Int → Int → Option (Int × Int × Int)) : Tells
  | [.agg [.int .i64 a0, .int .i64 a1], .agg [.int .i64 a2, .int .i64 a3]] => some (.mk (Int × Int × Int) (f a0 a1 a2 a3) fun r => .tup [.agg [.int .i64 r.1, .int .i64 r.2.1], .int .i64 r.2.2])
  | _ => none
theorem ratio_Div.tellsOk (k : Nat) : TellsOk Tryd.prog GW 23 (ratio_Div.tells (ratio_Div.f k)) :=
  tells_simple (fun args w => by kernel_rfl) fun args τ x out r hs hx => by
    unfold ratio_Div.tells at hs
    split at hs
    · cases hs
      exact ⟨rfl, rfl, fun w hw => ratio_Div.calls k _ _ _ _ r.1 r.2.1 r.2.2 w hx⟩
    · cases hs
def ratio_Compare.tells (f : Int → Int → Int → Int → Option (Int)) : Tells
  | [.agg [.int .i64 a0, .int .i64 a1], .agg [.int .i64 a2, .int .i64 a3]] => some (.mk (Int) (f a0 a1 a2 a3) fun r => .int .i64 r)
  | _ => none
theorem ratio_Compare.tellsOk (k : Nat) : TellsOk Tryd.prog GW 24 (ratio_Compare.tells (ratio_Compare.f k)) :=
  tells_simple (fun args w => by kernel_rfl) fun args τ x out r hs hx => by
    unfold ratio_Compare.tells at hs
    split at hs
    · cases hs
      exact ⟨rfl, rfl, fun w hw => ratio_Compare.calls k _ _ _ _ r w hx⟩
    · cases hs
def ratio_Floor.tells (f : Int → Int → Option (Int × Int)) : Tells
  | [.agg [.int .i64 a0, .int .i64 a1]] => some (.mk (Int × Int) (f a0 a1) fun r => .tup [.int .i64 r.1, .int .i64 r.2])
  | _ => none
theorem ratio_Floor.tellsOk (k : Nat) : TellsOk Tryd.prog GW 25 (ratio_Floor.tells (ratio_Floor.f k)) :=
  tells_simple (fun args w => by kernel_rfl) fun args τ x out r hs hx => by
    unfold ratio_Floor.tells at hs
    split at hs
    · cases hs
      exact ⟨rfl, rfl, fun w hw => ratio_Floor.calls k _ _ r.1 r.2 w hx⟩
    · cases hs
def ratio_Text.tells (f : Int → Int → Option (ByteArray × Int)) : Tells
  | [.agg [.int .i64 a0, .int .i64 a1]] => some (.mk (ByteArray × Int) (f a0 a1) fun r => .tup [.str r.1, .int .i64 r.2])
  | _ => none
theorem ratio_Text.tellsOk (k : Nat) : TellsOk Tryd.prog GW 26 (ratio_Text.tells (ratio_Text.f k)) :=
  tells_simple (fun args w => by kernel_rfl) fun args τ x out r hs hx => by
    unfold ratio_Text.tells at hs
    split at hs
    · cases hs
      exact ⟨rfl, rfl, fun w hw => ratio_Text.calls k _ _ r.1 r.2 w hw hx⟩
    · cases hs
def partitaref01_Text.tells (f : Int → Int → Option (ByteArray × Int)) : Tells
  | [.agg [.int .i64 a0, .int .i64 a1]] => some (.mk (ByteArray × Int) (f a0 a1) fun r => .tup [.str r.1, .int .i64 r.2])
  | _ => none
theorem partitaref01_Text.tellsOk (k : Nat) : TellsOk Tryd.prog GW 34 (partitaref01_Text.tells (partitaref01_Text.f k)) :=
  tells_simple (fun args w => by kernel_rfl) fun args τ x out r hs hx => by
    unfold partitaref01_Text.tells at hs
    split at hs
    · cases hs
      exact ⟨rfl, rfl, fun w hw => partitaref01_Text.calls k _ _ r.1 r.2 w hx⟩
    · cases hs
def partitaref01_Add.tells (f : Int → Int → Int → Int → Option (Int × Int × Int)) : Tells
  | [.agg [.int .i64 a0, .int .i64 a1], .agg [.int .i64 a2, .int .i64 a3]] => some (.mk (Int × Int × Int) (f a0 a1 a2 a3) fun r => .tup [.agg [.int .i64 r.1, .int .i64 r.2.1], .int .i64 r.2.2])
  | _ => none
theorem partitaref01_Add.tellsOk (k : Nat) : TellsOk Tryd.prog GW 35 (partitaref01_Add.tells (partitaref01_Add.f k)) :=
  tells_simple (fun args w => by kernel_rfl) fun args τ x out r hs hx => by
    unfold partitaref01_Add.tells at hs
    split at hs
    · cases hs
      exact ⟨rfl, rfl, fun w hw => partitaref01_Add.calls k _ _ _ _ r.1 r.2.1 r.2.2 w hx⟩
    · cases hs
def partitaref01_Sub.tells (f : Int → Int → Int → Int → Option (Int × Int × Int)) : Tells
  | [.agg [.int .i64 a0, .int .i64 a1], .agg [.int .i64 a2, .int .i64 a3]] => some (.mk (Int × Int × Int) (f a0 a1 a2 a3) fun r => .tup [.agg [.int .i64 r.1, .int .i64 r.2.1], .int .i64 r.2.2])
  | _ => none
theorem partitaref01_Sub.tellsOk (k : Nat) : TellsOk Tryd.prog GW 36 (partitaref01_Sub.tells (partitaref01_Sub.f k)) :=
  tells_simple (fun args w => by kernel_rfl) fun args τ x out r hs hx => by
    unfold partitaref01_Sub.tells at hs
    split at hs
    · cases hs
      exact ⟨rfl, rfl, fun w hw => partitaref01_Sub.calls k _ _ _ _ r.1 r.2.1 r.2.2 w hx⟩
    · cases hs
def partitaref01_Mul.tells (f : Int → Int → Int → Int → Option (Int × Int × Int)) : Tells
  | [.agg [.int .i64 a0, .int .i64 a1], .agg [.int .i64 a2, .int .i64 a3]] => some (.mk (Int × Int × Int) (f a0 a1 a2 a3) fun r => .tup [.agg [.int .i64 r.1, .int .i64 r.2.1], .int .i64 r.2.2])
  | _ => none
theorem partitaref01_Mul.tellsOk (k : Nat) : TellsOk Tryd.prog GW 37 (partitaref01_Mul.tells (partitaref01_Mul.f k)) :=
  tells_simple (fun args w => by kernel_rfl) fun args τ x out r hs hx => by
    unfold partitaref01_Mul.tells at hs
    split at hs
    · cases hs
      exact ⟨rfl, rfl, fun w hw => partitaref01_Mul.calls k _ _ _ _ r.1 r.2.1 r.2.2 w hx⟩
    · cases hs
def partitaref01_Div.tells (f : Int → Int → Int → Int → Option (Int × Int × Int)) : Tells
  | [.agg [.int .i64 a0, .int .i64 a1], .agg [.int .i64 a2, .int .i64 a3]] => some (.mk (Int × Int × Int) (f a0 a1 a2 a3) fun r => .tup [.agg [.int .i64 r.1, .int .i64 r.2.1], .int .i64 r.2.2])
  | _ => none
theorem partitaref01_Div.tellsOk (k : Nat) : TellsOk Tryd.prog GW 38 (partitaref01_Div.tells (partitaref01_Div.f k)) :=
  tells_simple (fun args w => by kernel_rfl) fun args τ x out r hs hx => by
    unfold partitaref01_Div.tells at hs
    split at hs
    · cases hs
      exact ⟨rfl, rfl, fun w hw => partitaref01_Div.calls k _ _ _ _ r.1 r.2.1 r.2.2 w hx⟩
    · cases hs
def partitaref01_Floor.tells (f : Int → Int → Option (Int × Int)) : Tells
  | [.agg [.int .i64 a0, .int .i64 a1]] => some (.mk (Int × Int) (f a0 a1) fun r => .tup [.int .i64 r.1, .int .i64 r.2])
  | _ => none
theorem partitaref01_Floor.tellsOk (k : Nat) : TellsOk Tryd.prog GW 39 (partitaref01_Floor.tells (partitaref01_Floor.f k)) :=
  tells_simple (fun args w => by kernel_rfl) fun args τ x out r hs hx => by
    unfold partitaref01_Floor.tells at hs
    split at hs
    · cases hs
      exact ⟨rfl, rfl, fun w hw => partitaref01_Floor.calls k _ _ r.1 r.2 w hx⟩
    · cases hs
def partitaref01_Right.tells (f : Int → Int → Option (Bool)) : Tells
  | [.agg [.int .i64 a0, .int .i64 a1]] => some (.mk (Bool) (f a0 a1) fun r => .bool r)
  | _ => none
theorem partitaref01_Right.tellsOk (k : Nat) : TellsOk Tryd.prog GW 40 (partitaref01_Right.tells (partitaref01_Right.f k)) :=
  tells_simple (fun args w => by kernel_rfl) fun args τ x out r hs hx => by
    unfold partitaref01_Right.tells at hs
    split at hs
    · cases hs
      exact ⟨rfl, rfl, fun w hw => partitaref01_Right.calls k _ _ r w hx⟩
    · cases hs
def partitaref01_Compare.tells (f : Int → Int → Int → Int → Option (Int)) : Tells
  | [.agg [.int .i64 a0, .int .i64 a1], .agg [.int .i64 a2, .int .i64 a3]] => some (.mk (Int) (f a0 a1 a2 a3) fun r => .int .i64 r)
  | _ => none
theorem partitaref01_Compare.tellsOk (k : Nat) : TellsOk Tryd.prog GW 41 (partitaref01_Compare.tells (partitaref01_Compare.f k)) :=
  tells_simple (fun args w => by kernel_rfl) fun args τ x out r hs hx => by
    unfold partitaref01_Compare.tells at hs
    split at hs
    · cases hs
      exact ⟨rfl, rfl, fun w hw => partitaref01_Compare.calls k _ _ _ _ r w hx⟩
    · cases hs
/-! ### partita/partitalaw01.told: function 16 -/
def partitalaw01_told.tells (f : Int → Int → Int → Int → Option (Bool)) : Tells
  | [.agg [.int .i64 a0, .int .i64 a1], .agg [.int .i64 a2, .int .i64 a3]] => some (.mk (Bool) (f a0 a1 a2 a3) fun r => .bool r)
  | _ => none
def partitalaw01_told.t (f19 : Int → Int → Option (Bool)) (f20 : Int → Int → Int → Int → Option (Int × Int × Int)) (f21 : Int → Int → Int → Int → Option (Int × Int × Int)) (f22 : Int → Int → Int → Int → Option (Int × Int × Int)) (f23 : Int → Int → Int → Int → Option (Int × Int × Int)) (f24 : Int → Int → Int → Int → Option (Int)) (f25 : Int → Int → Option (Int × Int)) (f26 : Int → Int → Option (ByteArray × Int)) (f34 : Int → Int → Option (ByteArray × Int)) (f35 : Int → Int → Int → Int → Option (Int × Int × Int)) (f36 : Int → Int → Int → Int → Option (Int × Int × Int)) (f37 : Int → Int → Int → Int → Option (Int × Int × Int)) (f38 : Int → Int → Int → Int → Option (Int × Int × Int)) (f39 : Int → Int → Option (Int × Int)) (f40 : Int → Int → Option (Bool)) (f41 : Int → Int → Int → Int → Option (Int)) (a0 : Int) (a1 : Int) (a2 : Int) (a3 : Int) {β : Type} (out : Bool → β) : Option β :=
  (f20 a0 a1 a2 a3).bind fun val =>
    (f35 a0 a1 a2 a3).bind fun val_1 =>
      (f22 a0 a1 a2 a3).bind fun val_2 =>
        (f36 a0 a1 a2 a3).bind fun val_3 =>
          (f21 a0 a1 a2 a3).bind fun val_4 =>
            (f37 a0 a1 a2 a3).bind fun val_5 =>
              (f23 a0 a1 a2 a3).bind fun val_6 =>
                (f38 a0 a1 a2 a3).bind fun val_7 =>
                  bif !(val.fst == val_1.fst && (val.snd.fst == val_1.snd.fst && true)) then some (out false)
                  else
                    bif !val.snd.snd == val_1.snd.snd then some (out false)
                    else
                      bif !(val_2.fst == val_3.fst && (val_2.snd.fst == val_3.snd.fst && true)) then some (out false)
                      else
                        bif !val_2.snd.snd == val_3.snd.snd then some (out false)
                        else
                          bif !(val_4.fst == val_5.fst && (val_4.snd.fst == val_5.snd.fst && true)) then some (out false)
                          else
                            bif !val_4.snd.snd == val_5.snd.snd then some (out false)
                            else
                              bif !(val_6.fst == val_7.fst && (val_6.snd.fst == val_7.snd.fst && true)) then
                                some (out false)
                              else
                                bif !val_6.snd.snd == val_7.snd.snd then some (out false)
                                else
                                  (f25 a0 a1).bind fun val =>
                                    (f39 a0 a1).bind fun val_8 =>
                                      (f26 a0 a1).bind fun val_9 =>
                                        (f34 a0 a1).bind fun val_10 =>
                                          bif val.fst == val_8.fst then
                                            bif val.snd == val_8.snd then
                                              bif val_9.fst.toList == val_10.fst.toList then
                                                bif val_9.snd == val_10.snd then
                                                  (f19 a0 a1).bind fun val =>
                                                    (f40 a0 a1).bind fun val_11 =>
                                                      bif val == val_11 then
                                                        (f24 a0 a1 a2 a3).bind fun val =>
                                                          (f41 a0 a1 a2 a3).bind fun val_12 => some (out (val == val_12))
                                                      else some (out false)
                                                else some (out false)
                                              else some (out false)
                                            else some (out false)
                                          else some (out false)
set_option maxRecDepth 100000 in
theorem partitalaw01_told.run (f19 : Int → Int → Option (Bool)) (f20 : Int → Int → Int → Int → Option (Int × Int × Int)) (f21 : Int → Int → Int → Int → Option (Int × Int × Int)) (f22 : Int → Int → Int → Int → Option (Int × Int × Int)) (f23 : Int → Int → Int → Int → Option (Int × Int × Int)) (f24 : Int → Int → Int → Int → Option (Int)) (f25 : Int → Int → Option (Int × Int)) (f26 : Int → Int → Option (ByteArray × Int)) (f34 : Int → Int → Option (ByteArray × Int)) (f35 : Int → Int → Int → Int → Option (Int × Int × Int)) (f36 : Int → Int → Int → Int → Option (Int × Int × Int)) (f37 : Int → Int → Int → Int → Option (Int × Int × Int)) (f38 : Int → Int → Int → Int → Option (Int × Int × Int)) (f39 : Int → Int → Option (Int × Int)) (f40 : Int → Int → Option (Bool)) (f41 : Int → Int → Int → Int → Option (Int)) (a0 : Int) (a1 : Int) (a2 : Int) (a3 : Int) : runA Tryd.prog [(19, ratio_Right.tells f19), (20, ratio_Add.tells f20), (21, ratio_Mul.tells f21), (22, ratio_Sub.tells f22), (23, ratio_Div.tells f23), (24, ratio_Compare.tells f24), (25, ratio_Floor.tells f25), (26, ratio_Text.tells f26), (34, partitaref01_Text.tells f34), (35, partitaref01_Add.tells f35), (36, partitaref01_Sub.tells f36), (37, partitaref01_Mul.tells f37), (38, partitaref01_Div.tells f38), (39, partitaref01_Floor.tells f39), (40, partitaref01_Right.tells f40), (41, partitaref01_Compare.tells f41)] [] 0 Tryd.f16 [.agg [.int .i64 a0, .int .i64 a1], .agg [.int .i64 a2, .int .i64 a3]] [] = partitalaw01_told.t f19 f20 f21 f22 f23 f24 f25 f26 f34 f35 f36 f37 f38 f39 f40 f41 a0 a1 a2 a3 (fun r => .bool r) := by kernel_rfl
theorem partitalaw01_told.map (f19 : Int → Int → Option (Bool)) (f20 : Int → Int → Int → Int → Option (Int × Int × Int)) (f21 : Int → Int → Int → Int → Option (Int × Int × Int)) (f22 : Int → Int → Int → Int → Option (Int × Int × Int)) (f23 : Int → Int → Int → Int → Option (Int × Int × Int)) (f24 : Int → Int → Int → Int → Option (Int)) (f25 : Int → Int → Option (Int × Int)) (f26 : Int → Int → Option (ByteArray × Int)) (f34 : Int → Int → Option (ByteArray × Int)) (f35 : Int → Int → Int → Int → Option (Int × Int × Int)) (f36 : Int → Int → Int → Int → Option (Int × Int × Int)) (f37 : Int → Int → Int → Int → Option (Int × Int × Int)) (f38 : Int → Int → Int → Int → Option (Int × Int × Int)) (f39 : Int → Int → Option (Int × Int)) (f40 : Int → Int → Option (Bool)) (f41 : Int → Int → Int → Int → Option (Int)) (a0 : Int) (a1 : Int) (a2 : Int) (a3 : Int) {β γ : Type} (g : β → γ) (out : Bool → β) : (partitalaw01_told.t f19 f20 f21 f22 f23 f24 f25 f26 f34 f35 f36 f37 f38 f39 f40 f41 a0 a1 a2 a3 out).map g = partitalaw01_told.t f19 f20 f21 f22 f23 f24 f25 f26 f34 f35 f36 f37 f38 f39 f40 f41 a0 a1 a2 a3 (fun r => g (out r)) := by
  unfold partitalaw01_told.t
  simp only [map_bind', map_cond, map_ite, Option.map_some, Option.map_none]
def partitalaw01_told.f (k : Nat) (a0 : Int) (a1 : Int) (a2 : Int) (a3 : Int) : Option (Bool) := partitalaw01_told.t (ratio_Right.f k) (ratio_Add.f k) (ratio_Mul.f k) (ratio_Sub.f k) (ratio_Div.f k) (ratio_Compare.f k) (ratio_Floor.f k) (ratio_Text.f k) (partitaref01_Text.f k) (partitaref01_Add.f k) (partitaref01_Sub.f k) (partitaref01_Mul.f k) (partitaref01_Div.f k) (partitaref01_Floor.f k) (partitaref01_Right.f k) (partitaref01_Compare.f k) a0 a1 a2 a3 id
theorem partitalaw01_told.allOk (k : Nat) : AllOk Tryd.prog GW [(19, ratio_Right.tells (ratio_Right.f k)), (20, ratio_Add.tells (ratio_Add.f k)), (21, ratio_Mul.tells (ratio_Mul.f k)), (22, ratio_Sub.tells (ratio_Sub.f k)), (23, ratio_Div.tells (ratio_Div.f k)), (24, ratio_Compare.tells (ratio_Compare.f k)), (25, ratio_Floor.tells (ratio_Floor.f k)), (26, ratio_Text.tells (ratio_Text.f k)), (34, partitaref01_Text.tells (partitaref01_Text.f k)), (35, partitaref01_Add.tells (partitaref01_Add.f k)), (36, partitaref01_Sub.tells (partitaref01_Sub.f k)), (37, partitaref01_Mul.tells (partitaref01_Mul.f k)), (38, partitaref01_Div.tells (partitaref01_Div.f k)), (39, partitaref01_Floor.tells (partitaref01_Floor.f k)), (40, partitaref01_Right.tells (partitaref01_Right.f k)), (41, partitaref01_Compare.tells (partitaref01_Compare.f k))] :=
  (allOk_cons (ratio_Right.tellsOk k) (allOk_cons (ratio_Add.tellsOk k) (allOk_cons (ratio_Mul.tellsOk k) (allOk_cons (ratio_Sub.tellsOk k) (allOk_cons (ratio_Div.tellsOk k) (allOk_cons (ratio_Compare.tellsOk k) (allOk_cons (ratio_Floor.tellsOk k) (allOk_cons (ratio_Text.tellsOk k) (allOk_cons (partitaref01_Text.tellsOk k) (allOk_cons (partitaref01_Add.tellsOk k) (allOk_cons (partitaref01_Sub.tellsOk k) (allOk_cons (partitaref01_Mul.tellsOk k) (allOk_cons (partitaref01_Div.tellsOk k) (allOk_cons (partitaref01_Floor.tellsOk k) (allOk_cons (partitaref01_Right.tellsOk k) (allOk_cons (partitaref01_Compare.tellsOk k) allOk_nil))))))))))))))))
theorem partitalaw01_told.runs (k : Nat) (a0 : Int) (a1 : Int) (a2 : Int) (a3 : Int) {r : Bool} (h : partitalaw01_told.f k a0 a1 a2 a3 = some r) : runA Tryd.prog [(19, ratio_Right.tells (ratio_Right.f k)), (20, ratio_Add.tells (ratio_Add.f k)), (21, ratio_Mul.tells (ratio_Mul.f k)), (22, ratio_Sub.tells (ratio_Sub.f k)), (23, ratio_Div.tells (ratio_Div.f k)), (24, ratio_Compare.tells (ratio_Compare.f k)), (25, ratio_Floor.tells (ratio_Floor.f k)), (26, ratio_Text.tells (ratio_Text.f k)), (34, partitaref01_Text.tells (partitaref01_Text.f k)), (35, partitaref01_Add.tells (partitaref01_Add.f k)), (36, partitaref01_Sub.tells (partitaref01_Sub.f k)), (37, partitaref01_Mul.tells (partitaref01_Mul.f k)), (38, partitaref01_Div.tells (partitaref01_Div.f k)), (39, partitaref01_Floor.tells (partitaref01_Floor.f k)), (40, partitaref01_Right.tells (partitaref01_Right.f k)), (41, partitaref01_Compare.tells (partitaref01_Compare.f k))] [] 0 Tryd.f16 [.agg [.int .i64 a0, .int .i64 a1], .agg [.int .i64 a2, .int .i64 a3]] [] = some (.bool r) := by
  rw [partitalaw01_told.run]
  have e := partitalaw01_told.map (ratio_Right.f k) (ratio_Add.f k) (ratio_Mul.f k) (ratio_Sub.f k) (ratio_Div.f k) (ratio_Compare.f k) (ratio_Floor.f k) (ratio_Text.f k) (partitaref01_Text.f k) (partitaref01_Add.f k) (partitaref01_Sub.f k) (partitaref01_Mul.f k) (partitaref01_Div.f k) (partitaref01_Floor.f k) (partitaref01_Right.f k) (partitaref01_Compare.f k) a0 a1 a2 a3 (fun r : Bool => (.bool r : AV)) id
  rw [show partitalaw01_told.t (ratio_Right.f k) (ratio_Add.f k) (ratio_Mul.f k) (ratio_Sub.f k) (ratio_Div.f k) (ratio_Compare.f k) (ratio_Floor.f k) (ratio_Text.f k) (partitaref01_Text.f k) (partitaref01_Add.f k) (partitaref01_Sub.f k) (partitaref01_Mul.f k) (partitaref01_Div.f k) (partitaref01_Floor.f k) (partitaref01_Right.f k) (partitaref01_Compare.f k) a0 a1 a2 a3 id = some r from h] at e
  exact e.symm
theorem partitalaw01_told.tellsOk (k : Nat) : TellsOk Tryd.prog GW 16 (partitalaw01_told.tells (partitalaw01_told.f k)) :=
  tells_mk (by kernel_rfl) (partitalaw01_told.allOk k) Tryd.func16 (fun args w => by kernel_rfl) (fun w w' h hb => h.step hb) no_globals fun args τ x out r hs hx => by
    unfold partitalaw01_told.tells at hs
    split at hs
    · cases hs
      exact ⟨rfl, rfl, _, partitalaw01_told.runs k _ _ _ _ hx⟩
    · cases hs
theorem LeO.bif {α : Type} {c : Bool} {a a' b b' : Option α} (h : LeO a a') (k : LeO b b') : LeO (bif c then a else b) (bif c then a' else b') := by
  cases c
  · exact k
  · exact h
theorem partitalaw01_told.mono (k : Nat) (a0 a1 a2 a3 : Int) : LeO (partitalaw01_told.f k a0 a1 a2 a3) (partitalaw01_told.f (k + 1) a0 a1 a2 a3) := by
  unfold partitalaw01_told.f partitalaw01_told.t
  repeat' first
    | (with_reducible exact partitaref01_Add.mono _ _ _ _ _)
    | (with_reducible exact partitaref01_Compare.mono _ _ _ _ _)
    | (with_reducible exact partitaref01_Div.mono _ _ _ _ _)
    | (with_reducible exact partitaref01_Floor.mono _ _ _)
    | (with_reducible exact partitaref01_Mul.mono _ _ _ _ _)
    | (with_reducible exact partitaref01_Right.mono _ _ _)
    | (with_reducible exact partitaref01_Sub.mono _ _ _ _ _)
    | (with_reducible exact partitaref01_Text.mono _ _ _)
    | (with_reducible exact ratio_Add.mono _ _ _ _ _)
    | (with_reducible exact ratio_Compare.mono _ _ _ _ _)
    | (with_reducible exact ratio_Div.mono _ _ _ _ _)
    | (with_reducible exact ratio_Floor.mono _ _ _)
    | (with_reducible exact ratio_Mul.mono _ _ _ _ _)
    | (with_reducible exact ratio_Right.mono _ _ _)
    | (with_reducible exact ratio_Sub.mono _ _ _ _ _)
    | (with_reducible exact ratio_Text.mono _ _ _)
    | (with_reducible exact LeO.refl _)
    | (with_reducible refine LeO.bif ?_ ?_)
    | (with_reducible refine LeO.bind ?_ (fun _ => ?_))
theorem partitalaw01_told.calls (k : Nat) (a0_0 : Int) (a0_1 : Int) (a1_0 : Int) (a1_1 : Int) (r : Bool) (w : World) (_ : r = true) (hG_ : GW w) (h : partitalaw01_told.f k a0_0 a0_1 a1_0 a1_1 = some r) :
    Calls Tryd.prog 16 #[.agg #[.int .i64 a0_0, .int .i64 a0_1], .agg #[.int .i64 a1_0, .int .i64 a1_1]] w fun e w' => e = .returned (.bool r) ∧ Below w.heap.size w w' :=
  calls_of (partitalaw01_told.tellsOk k) (args := [.agg [.int .i64 a0_0, .int .i64 a0_1], .agg [.int .i64 a1_0, .int .i64 a1_1]]) rfl h rfl rfl hG_

end Go.Proofs.YtofolkbappinhaaDoor.M
