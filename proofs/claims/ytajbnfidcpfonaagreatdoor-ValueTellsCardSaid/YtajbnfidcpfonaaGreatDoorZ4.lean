/- Go functions as the machine tells them. -/
import Derived.Test.YtajbnfidcpfonaaGreatDoorProg
import Derived.Test.YtajbnfidcpfonaaGreatDoorQ10
import Derived.Test.YtajbnfidcpfonaaGreatDoorM0
import Derived.Test.YtajbnfidcpfonaaGreatDoorLay
import Derived.Test.YtajbnfidcpfonaaGreatDoorGSeq
import Derived.Test.YtajbnfidcpfonaaGreatDoorM15
import Derived.Test.YtajbnfidcpfonaaGreatDoorM23
import Derived.Test.YtajbnfidcpfonaaGreatDoorM26
import Derived.Test.YtajbnfidcpfonaaGreatDoorM4
import Derived.Test.YtajbnfidcpfonaaGreatDoorM5
import Derived.Test.YtajbnfidcpfonaaGreatDoorM6
import Derived.Test.YtajbnfidcpfonaaGreatDoorM8
import Derived.Test.YtajbnfidcpfonaaGreatDoorZ0
import Derived.Test.YtajbnfidcpfonaaGreatDoorZ2
import Derived.Test.YtajbnfidcpfonaaGreatDoorZ3
set_option linter.unusedVariables false
set_option linter.unusedSimpArgs false
set_option maxRecDepth 100000
namespace Go.Proofs.YtajbnfidcpfonaaGreatDoor.M
open Go Go.RowKit Go.Proofs Go.Proofs.Qx Go.Proofs.YtajbnfidcpfonaaGreatDoorW.PrintWords Go.Proofs.YtajbnfidcpfonaaGreatDoorW.PrintLast Go.Proofs.YtajbnfidcpfonaaGreatDoorW.PrintMore

/-! ### partita/partitalaw04.ValueTells: function 3 -/
def z_tells.out (r : Bool) : Res := .ret (.bool r)
def z_tells.dec : Res → Option (Bool)
  | .ret (.bool y0) => some y0
  | _ => none
theorem z_tells.out_free (r : Bool) : (z_tells.out r).free = true := rfl
def z_tells.sel (β : Type) (r : Bool) (k : Res → Option β) : Option β := k (.ret (.bool r))
theorem z_tells.sel_ok (β : Type) (t : Bool) (k : Res → Option β) : z_tells.sel β t k = k (z_tells.out t) := rfl
theorem z_tells.dec_ok (res : Res) (r : Bool) (h : z_tells.dec res = some r) : res = z_tells.out r := by
  unfold z_tells.dec at h
  split at h <;> first | (cases h; rfl) | cases h
def z_tells.tells (f : Int → Int → Int → Int → Int → Int → ByteArray → Option (Bool)) : Tells
  | [.agg [.int .i64 a0, .int .i64 a1, .int .i64 a2, .int .i64 a3], .agg [.int .i64 a4, .int .i64 a5], .str a6] => some (.mk (Bool) (f a0 a1 a2 a3 a4 a5 a6) z_tells.out z_tells.sel z_tells.sel_ok)
  | _ => none
def z_tells.ce (f : Int → Int → Int → Int → Int → Int → ByteArray → Option (Bool)) : CE := ⟨[.agg [.int .i64, .int .i64, .int .i64, .int .i64], .agg [.int .i64, .int .i64], .one (.str)], .flat, z_tells.tells f⟩
def partitalaw04_examples_Z4.out (r : Bool) : Res := .ret (.bool r)
def partitalaw04_examples_Z4.dec : Res → Option (Bool)
  | .ret (.bool y0) => some y0
  | _ => none
theorem partitalaw04_examples_Z4.out_free (r : Bool) : (partitalaw04_examples_Z4.out r).free = true := rfl
def partitalaw04_examples_Z4.sel (β : Type) (r : Bool) (k : Res → Option β) : Option β := k (.ret (.bool r))
theorem partitalaw04_examples_Z4.sel_ok (β : Type) (t : Bool) (k : Res → Option β) : partitalaw04_examples_Z4.sel β t k = k (partitalaw04_examples_Z4.out t) := rfl
theorem partitalaw04_examples_Z4.dec_ok (res : Res) (r : Bool) (h : partitalaw04_examples_Z4.dec res = some r) : res = partitalaw04_examples_Z4.out r := by
  unfold partitalaw04_examples_Z4.dec at h
  split at h <;> first | (cases h; rfl) | cases h
def partitalaw04_examples_Z4.tells (f : Option (Bool)) : Tells
  | [] => some (.mk (Bool) (f ) partitalaw04_examples_Z4.out partitalaw04_examples_Z4.sel partitalaw04_examples_Z4.sel_ok)
  | _ => none
def partitalaw04_examples_Z4.ce (f : Option (Bool)) : CE := ⟨[], .flat, partitalaw04_examples_Z4.tells f⟩
theorem partitalaw04_examples_Z4.ok (k : Nat) : CEOk Tryz.prog GW lay 4 (partitalaw04_examples_Z4.ce (partitalaw04_examples.f k)) :=
  tells_simple (fun args w => by kernel_rfl) fun args τ x out sel ok r hs hx => by
    unfold partitalaw04_examples_Z4.tells at hs
    split at hs
    · cases hs
      exact ⟨rfl, _, rfl, rfl, fun w hw => partitalaw04_examples.calls k  r w hw hx⟩
    · cases hs
def value_Read_Z4.out (r : Int × Int × Int × Int × Int) : Res := .ret (.tup [.agg [.int .i64 r.1, .int .i64 r.2.1, .int .i64 r.2.2.1, .int .i64 r.2.2.2.1], .int .i64 r.2.2.2.2])
def value_Read_Z4.dec : Res → Option (Int × Int × Int × Int × Int)
  | .ret (.tup [.agg [.int .i64 y0, .int .i64 y1, .int .i64 y2, .int .i64 y3], .int .i64 y4]) => some (y0, y1, y2, y3, y4)
  | _ => none
theorem value_Read_Z4.out_free (r : Int × Int × Int × Int × Int) : (value_Read_Z4.out r).free = true := rfl
def value_Read_Z4.sel (β : Type) (r : Int × Int × Int × Int × Int) (k : Res → Option β) : Option β := k (.ret (.tup [.agg [.int .i64 r.1, .int .i64 r.2.1, .int .i64 r.2.2.1, .int .i64 r.2.2.2.1], .int .i64 r.2.2.2.2]))
theorem value_Read_Z4.sel_ok (β : Type) (t : Int × Int × Int × Int × Int) (k : Res → Option β) : value_Read_Z4.sel β t k = k (value_Read_Z4.out t) := rfl
theorem value_Read_Z4.dec_ok (res : Res) (r : Int × Int × Int × Int × Int) (h : value_Read_Z4.dec res = some r) : res = value_Read_Z4.out r := by
  unfold value_Read_Z4.dec at h
  split at h <;> first | (cases h; rfl) | cases h
def value_Read_Z4.tells (f : ByteArray → Option (Int × Int × Int × Int × Int)) : Tells
  | [.str a0] => some (.mk (Int × Int × Int × Int × Int) (f a0) value_Read_Z4.out value_Read_Z4.sel value_Read_Z4.sel_ok)
  | _ => none
def value_Read_Z4.ce (f : ByteArray → Option (Int × Int × Int × Int × Int)) : CE := ⟨[.one (.str)], .flat, value_Read_Z4.tells f⟩
theorem value_Read_Z4.ok (k : Nat) : CEOk Tryz.prog GW lay 5 (value_Read_Z4.ce (value_Read.f k)) :=
  tells_simple (fun args w => by kernel_rfl) fun args τ x out sel ok r hs hx => by
    unfold value_Read_Z4.tells at hs
    split at hs
    · cases hs
      exact ⟨rfl, _, rfl, rfl, fun w hw => value_Read.calls k _ r.1 r.2.1 r.2.2.1 r.2.2.2.1 r.2.2.2.2 w hw hx⟩
    · cases hs
def value_Length_Z4.out (r : Int × Int × Int) : Res := .ret (.tup [.agg [.int .i64 r.1, .int .i64 r.2.1], .int .i64 r.2.2])
def value_Length_Z4.dec : Res → Option (Int × Int × Int)
  | .ret (.tup [.agg [.int .i64 y0, .int .i64 y1], .int .i64 y2]) => some (y0, y1, y2)
  | _ => none
theorem value_Length_Z4.out_free (r : Int × Int × Int) : (value_Length_Z4.out r).free = true := rfl
def value_Length_Z4.sel (β : Type) (r : Int × Int × Int) (k : Res → Option β) : Option β := k (.ret (.tup [.agg [.int .i64 r.1, .int .i64 r.2.1], .int .i64 r.2.2]))
theorem value_Length_Z4.sel_ok (β : Type) (t : Int × Int × Int) (k : Res → Option β) : value_Length_Z4.sel β t k = k (value_Length_Z4.out t) := rfl
theorem value_Length_Z4.dec_ok (res : Res) (r : Int × Int × Int) (h : value_Length_Z4.dec res = some r) : res = value_Length_Z4.out r := by
  unfold value_Length_Z4.dec at h
  split at h <;> first | (cases h; rfl) | cases h
def value_Length_Z4.tells (f : Int → Int → Int → Int → Option (Int × Int × Int)) : Tells
  | [.agg [.int .i64 a0, .int .i64 a1, .int .i64 a2, .int .i64 a3]] => some (.mk (Int × Int × Int) (f a0 a1 a2 a3) value_Length_Z4.out value_Length_Z4.sel value_Length_Z4.sel_ok)
  | _ => none
def value_Length_Z4.ce (f : Int → Int → Int → Int → Option (Int × Int × Int)) : CE := ⟨[.agg [.int .i64, .int .i64, .int .i64, .int .i64]], .flat, value_Length_Z4.tells f⟩
theorem value_Length_Z4.ok (k : Nat) : CEOk Tryz.prog GW lay 8 (value_Length_Z4.ce (value_Length.f k)) :=
  tells_simple (fun args w => by kernel_rfl) fun args τ x out sel ok r hs hx => by
    unfold value_Length_Z4.tells at hs
    split at hs
    · cases hs
      exact ⟨rfl, _, rfl, rfl, fun w hw => value_Length.calls k _ _ _ _ r.1 r.2.1 r.2.2 w hw hx⟩
    · cases hs
def value_Text_Z4.out (r : ByteArray × Int) : Res := .ret (.tup [.str r.1, .int .i64 r.2])
def value_Text_Z4.dec : Res → Option (ByteArray × Int)
  | .ret (.tup [.str y0, .int .i64 y1]) => some (y0, y1)
  | _ => none
theorem value_Text_Z4.out_free (r : ByteArray × Int) : (value_Text_Z4.out r).free = true := rfl
def value_Text_Z4.sel (β : Type) (r : ByteArray × Int) (k : Res → Option β) : Option β := k (.ret (.tup [.str r.1, .int .i64 r.2]))
theorem value_Text_Z4.sel_ok (β : Type) (t : ByteArray × Int) (k : Res → Option β) : value_Text_Z4.sel β t k = k (value_Text_Z4.out t) := rfl
theorem value_Text_Z4.dec_ok (res : Res) (r : ByteArray × Int) (h : value_Text_Z4.dec res = some r) : res = value_Text_Z4.out r := by
  unfold value_Text_Z4.dec at h
  split at h <;> first | (cases h; rfl) | cases h
def value_Text_Z4.tells (f : Int → Int → Int → Int → Option (ByteArray × Int)) : Tells
  | [.agg [.int .i64 a0, .int .i64 a1, .int .i64 a2, .int .i64 a3]] => some (.mk (ByteArray × Int) (f a0 a1 a2 a3) value_Text_Z4.out value_Text_Z4.sel value_Text_Z4.sel_ok)
  | _ => none
def value_Text_Z4.ce (f : Int → Int → Int → Int → Option (ByteArray × Int)) : CE := ⟨[.agg [.int .i64, .int .i64, .int .i64, .int .i64]], .flat, value_Text_Z4.tells f⟩
theorem value_Text_Z4.ok (k : Nat) : CEOk Tryz.prog GW lay 10 (value_Text_Z4.ce (value_Text.f k)) :=
  tells_simple (fun args w => by kernel_rfl) fun args τ x out sel ok r hs hx => by
    unfold value_Text_Z4.tells at hs
    split at hs
    · cases hs
      exact ⟨rfl, _, rfl, rfl, fun w hw => value_Text.calls k _ _ _ _ r.1 r.2 w hw hx⟩
    · cases hs
def value_Right_Z4.out (r : Bool) : Res := .ret (.bool r)
def value_Right_Z4.dec : Res → Option (Bool)
  | .ret (.bool y0) => some y0
  | _ => none
theorem value_Right_Z4.out_free (r : Bool) : (value_Right_Z4.out r).free = true := rfl
def value_Right_Z4.sel (β : Type) (r : Bool) (k : Res → Option β) : Option β := k (.ret (.bool r))
theorem value_Right_Z4.sel_ok (β : Type) (t : Bool) (k : Res → Option β) : value_Right_Z4.sel β t k = k (value_Right_Z4.out t) := rfl
theorem value_Right_Z4.dec_ok (res : Res) (r : Bool) (h : value_Right_Z4.dec res = some r) : res = value_Right_Z4.out r := by
  unfold value_Right_Z4.dec at h
  split at h <;> first | (cases h; rfl) | cases h
def value_Right_Z4.tells (f : Int → Int → Int → Int → Option (Bool)) : Tells
  | [.agg [.int .i64 a0, .int .i64 a1, .int .i64 a2, .int .i64 a3]] => some (.mk (Bool) (f a0 a1 a2 a3) value_Right_Z4.out value_Right_Z4.sel value_Right_Z4.sel_ok)
  | _ => none
def value_Right_Z4.ce (f : Int → Int → Int → Int → Option (Bool)) : CE := ⟨[.agg [.int .i64, .int .i64, .int .i64, .int .i64]], .flat, value_Right_Z4.tells f⟩
theorem value_Right_Z4.ok (k : Nat) : CEOk Tryz.prog GW lay 12 (value_Right_Z4.ce (value_Right.f k)) :=
  tells_simple (fun args w => by kernel_rfl) fun args τ x out sel ok r hs hx => by
    unfold value_Right_Z4.tells at hs
    split at hs
    · cases hs
      exact ⟨rfl, _, rfl, rfl, fun w hw => value_Right.calls k _ _ _ _ r w hx⟩
    · cases hs
def partitaref01_Of_Z4.out (r : Int × Int × Int) : Res := .ret (.tup [.agg [.int .i64 r.1, .int .i64 r.2.1], .int .i64 r.2.2])
def partitaref01_Of_Z4.dec : Res → Option (Int × Int × Int)
  | .ret (.tup [.agg [.int .i64 y0, .int .i64 y1], .int .i64 y2]) => some (y0, y1, y2)
  | _ => none
theorem partitaref01_Of_Z4.out_free (r : Int × Int × Int) : (partitaref01_Of_Z4.out r).free = true := rfl
def partitaref01_Of_Z4.sel (β : Type) (r : Int × Int × Int) (k : Res → Option β) : Option β := k (.ret (.tup [.agg [.int .i64 r.1, .int .i64 r.2.1], .int .i64 r.2.2]))
theorem partitaref01_Of_Z4.sel_ok (β : Type) (t : Int × Int × Int) (k : Res → Option β) : partitaref01_Of_Z4.sel β t k = k (partitaref01_Of_Z4.out t) := rfl
theorem partitaref01_Of_Z4.dec_ok (res : Res) (r : Int × Int × Int) (h : partitaref01_Of_Z4.dec res = some r) : res = partitaref01_Of_Z4.out r := by
  unfold partitaref01_Of_Z4.dec at h
  split at h <;> first | (cases h; rfl) | cases h
def partitaref01_Of_Z4.tells (f : Int → Int → Option (Int × Int × Int)) : Tells
  | [.int .i64 a0, .int .i64 a1] => some (.mk (Int × Int × Int) (f a0 a1) partitaref01_Of_Z4.out partitaref01_Of_Z4.sel partitaref01_Of_Z4.sel_ok)
  | _ => none
def partitaref01_Of_Z4.ce (f : Int → Int → Option (Int × Int × Int)) : CE := ⟨[.one (.int .i64), .one (.int .i64)], .flat, partitaref01_Of_Z4.tells f⟩
theorem partitaref01_Of_Z4.ok (k : Nat) : CEOk Tryz.prog GW lay 15 (partitaref01_Of_Z4.ce (partitaref01_Of.f k)) :=
  tells_simple (fun args w => by kernel_rfl) fun args τ x out sel ok r hs hx => by
    unfold partitaref01_Of_Z4.tells at hs
    split at hs
    · cases hs
      exact ⟨rfl, _, rfl, rfl, fun w hw => partitaref01_Of.calls k _ _ r.1 r.2.1 r.2.2 w hx⟩
    · cases hs
def partitalaw04_pick_Z4.out (r : Int) : Res := .ret (.int .i64 r)
def partitalaw04_pick_Z4.dec : Res → Option (Int)
  | .ret (.int .i64 y0) => some y0
  | _ => none
theorem partitalaw04_pick_Z4.out_free (r : Int) : (partitalaw04_pick_Z4.out r).free = true := rfl
def partitalaw04_pick_Z4.sel (β : Type) (r : Int) (k : Res → Option β) : Option β := k (.ret (.int .i64 r))
theorem partitalaw04_pick_Z4.sel_ok (β : Type) (t : Int) (k : Res → Option β) : partitalaw04_pick_Z4.sel β t k = k (partitalaw04_pick_Z4.out t) := rfl
theorem partitalaw04_pick_Z4.dec_ok (res : Res) (r : Int) (h : partitalaw04_pick_Z4.dec res = some r) : res = partitalaw04_pick_Z4.out r := by
  unfold partitalaw04_pick_Z4.dec at h
  split at h <;> first | (cases h; rfl) | cases h
def partitalaw04_pick_Z4.tells (f : Int → Int → Option (Int)) : Tells
  | [.int .i64 a0, .int .i64 a1] => some (.mk (Int) (f a0 a1) partitalaw04_pick_Z4.out partitalaw04_pick_Z4.sel partitalaw04_pick_Z4.sel_ok)
  | _ => none
def partitalaw04_pick_Z4.ce (f : Int → Int → Option (Int)) : CE := ⟨[.one (.int .i64), .one (.int .i64)], .flat, partitalaw04_pick_Z4.tells f⟩
theorem partitalaw04_pick_Z4.ok (k : Nat) : CEOk Tryz.prog GW lay 16 (partitalaw04_pick_Z4.ce (partitalaw04_pick.f)) :=
  tells_simple (fun args w => by kernel_rfl) fun args τ x out sel ok r hs hx => by
    unfold partitalaw04_pick_Z4.tells at hs
    split at hs
    · cases hs
      exact ⟨rfl, _, rfl, rfl, fun w hw => (partitalaw04_pick.calls _ _ r w hx).mono fun e w' q => ⟨q.1, q.2.below⟩⟩
    · cases hs
def z_tells.Γ (f4 : Option (Bool)) (f5 : ByteArray → Option (Int × Int × Int × Int × Int)) (f6 : ByteArray → Option (Int × Int × Int × Int × Int)) (f7 : Int → Int → Int → Int → Option (Int × Int × Int × Int)) (f8 : Int → Int → Int → Int → Option (Int × Int × Int)) (f9 : Int → Int → Int → Int → Option (Int × Int × Int)) (f10 : Int → Int → Int → Int → Option (ByteArray × Int)) (f11 : Int → Int → Int → Int → Option (ByteArray × Int)) (f12 : Int → Int → Int → Int → Option (Bool)) (f13 : Int → Int → Int → Int → Option (Bool)) (f14 : Int → Int → Option (Bool)) (f15 : Int → Int → Option (Int × Int × Int)) (f16 : Int → Int → Option (Int)) : List (Nat × CE) := [(4, partitalaw04_examples_Z4.ce f4), (5, value_Read_Z4.ce f5), (6, r4_Read.ce f6), (7, z_Value.ce f7), (8, value_Length_Z4.ce f8), (9, r4_Length.ce f9), (10, value_Text_Z4.ce f10), (11, r4_Text.ce f11), (12, value_Right_Z4.ce f12), (13, r4_Right.ce f13), (14, z_split.ce f14), (15, partitaref01_Of_Z4.ce f15), (16, partitalaw04_pick_Z4.ce f16)]
def z_tells.J3 : List (Nat × List Nat) := [(1, [27]), (2, [28]), (4, [30, 31, 32, 33, 34]), (5, [35, 36, 37, 38, 39]), (6, [40, 41, 42, 43, 44]), (7, [45, 46, 47, 48, 49, 50, 51]), (9, [53, 54, 55]), (11, [60, 61]), (12, [62, 63, 64, 65, 66]), (13, [67, 68, 69, 70, 71]), (14, [72, 73, 74, 75, 76]), (15, [77, 78, 79, 80, 81]), (16, [82, 83, 84, 85, 86, 87, 88, 89, 90, 91, 92, 93, 94, 95, 96, 97, 98, 99, 100, 101, 102, 103, 104, 105, 106, 107, 108, 109, 110]), (18, [112]), (19, [24, 113, 114, 115, 116, 117, 118, 119, 120, 121, 122, 123]), (20, [26, 124, 125, 126, 127, 128, 129, 130]), (21, [131, 132, 133, 134, 135, 136, 137, 138, 139, 140, 141, 142, 143]), (1000029, [29]), (1000052, [52]), (1000059, [59]), (1000111, [111])]
def z_tells.L10.T : TS := ⟨[.junk, .junk, .junk, .junk, .ptr 0 0, .junk, .bool, .bool, .junk, .junk, .junk, .junk, .junk, .junk, .junk, .junk, .junk, .junk, .junk, .junk, .junk, .junk, .junk, .junk, .junk, .junk, .junk, .junk, .junk, .junk, .junk, .junk, .junk, .junk, .junk, .junk, .junk, .junk, .junk, .junk, .junk, .junk, .junk, .junk, .junk, .junk, .junk, .junk, .junk, .junk, .junk, .junk, .junk, .junk, .junk, .junk, .sl 1 0 2 2, .int .i64, .int .i64, .junk, .junk, .junk, .junk, .junk, .junk, .junk, .junk, .junk, .junk, .junk, .junk, .junk, .junk, .junk, .junk, .junk, .junk, .junk, .junk, .junk, .junk, .junk, .junk, .junk, .junk, .junk, .junk, .junk, .junk, .junk, .junk, .junk, .junk, .junk, .junk, .junk, .junk, .junk, .junk, .junk, .junk, .junk, .junk, .junk, .junk, .junk, .junk, .junk, .junk, .junk, .junk, .junk, .junk, .junk, .junk, .junk, .junk, .junk, .junk, .junk, .junk, .junk, .junk, .junk, .junk, .junk, .junk, .junk, .junk, .junk, .junk, .junk, .junk, .junk, .junk, .junk, .junk, .junk, .junk, .junk, .junk, .junk, .junk, .junk], [.cells 25 [.int .i64, .int .i64] .own, .cells 23 [.int .i64, .int .i64, .int .i64, .int .i64, .int .i64, .int .i64, .int .i64, .int .i64] .own], 0, [(4, none), (56, none)]⟩
def z_tells.L10.X0 : TS := ⟨[.junk, .junk, .junk, .junk, .ptr 0 0, .junk, .bool, .bool, .junk, .junk, .junk, .junk, .junk, .junk, .junk, .junk, .junk, .junk, .junk, .junk, .junk, .junk, .junk, .junk, .junk, .junk, .junk, .junk, .junk, .junk, .junk, .junk, .junk, .junk, .junk, .junk, .junk, .junk, .junk, .junk, .junk, .junk, .junk, .junk, .junk, .junk, .junk, .junk, .junk, .junk, .junk, .junk, .junk, .junk, .junk, .junk, .junk, .junk, .junk, .junk, .junk, .junk, .junk, .junk, .junk, .junk, .junk, .junk, .junk, .junk, .junk, .junk, .junk, .junk, .junk, .junk, .junk, .junk, .junk, .junk, .junk, .junk, .junk, .junk, .junk, .junk, .junk, .junk, .junk, .junk, .junk, .junk, .junk, .junk, .junk, .junk, .junk, .junk, .junk, .junk, .junk, .junk, .junk, .junk, .junk, .junk, .junk, .junk, .junk, .junk, .junk, .junk, .junk, .junk, .junk, .junk, .junk, .junk, .junk, .junk, .junk, .junk, .junk, .junk, .junk, .junk, .junk, .junk, .junk, .junk, .junk, .junk, .junk, .junk, .junk, .junk, .junk, .junk, .junk, .junk, .junk, .junk, .junk, .junk], [.cells 25 [.int .i64, .int .i64] .own], 0, [(4, none)]⟩
def z_tells.L10.X1 : TS := ⟨[.junk, .junk, .junk, .junk, .junk, .junk, .bool, .junk, .junk, .junk, .junk, .junk, .junk, .junk, .junk, .junk, .junk, .junk, .junk, .junk, .junk, .junk, .junk, .junk, .junk, .junk, .junk, .junk, .junk, .junk, .junk, .junk, .junk, .junk, .junk, .junk, .junk, .junk, .junk, .junk, .junk, .junk, .junk, .junk, .junk, .junk, .junk, .junk, .junk, .junk, .junk, .junk, .junk, .junk, .junk, .junk, .junk, .junk, .junk, .junk, .junk, .junk, .junk, .junk, .junk, .junk, .junk, .junk, .junk, .junk, .junk, .junk, .junk, .junk, .junk, .junk, .junk, .junk, .junk, .junk, .junk, .junk, .junk, .junk, .junk, .junk, .junk, .junk, .junk, .junk, .junk, .junk, .junk, .junk, .junk, .junk, .junk, .junk, .junk, .junk, .junk, .junk, .junk, .junk, .junk, .junk, .junk, .junk, .junk, .junk, .junk, .junk, .junk, .junk, .junk, .junk, .junk, .junk, .junk, .junk, .junk, .junk, .junk, .junk, .junk, .junk, .junk, .junk, .junk, .junk, .junk, .junk, .junk, .junk, .junk, .junk, .junk, .junk, .junk, .junk, .junk, .junk, .junk, .junk], [], 0, []⟩
def z_tells.L10.X : List (Exit × TS) := [(.exit 0, z_tells.L10.X0), (.ret, z_tells.L10.X1)]
def z_tells.L10.dσ : List D → Option (Bool × Bool × Int × Int × Int × Int × Int × Int × Int × Int × Int × Int × Int × Int)
  | [.bool x0, .bool x1, .int x2, .int x3, .int x4, .int x5, .int x6, .int x7, .int x8, .int x9, .int x10, .int x11, .int x12, .int x13] => some (x0, x1, x2, x3, x4, x5, x6, x7, x8, x9, x10, x11, x12, x13)
  | _ => none
def z_tells.L10.eσ (x : Bool × Bool × Int × Int × Int × Int × Int × Int × Int × Int × Int × Int × Int × Int) : List D := [.bool x.1, .bool x.2.1, .int x.2.2.1, .int x.2.2.2.1, .int x.2.2.2.2.1, .int x.2.2.2.2.2.1, .int x.2.2.2.2.2.2.1, .int x.2.2.2.2.2.2.2.1, .int x.2.2.2.2.2.2.2.2.1, .int x.2.2.2.2.2.2.2.2.2.1, .int x.2.2.2.2.2.2.2.2.2.2.1, .int x.2.2.2.2.2.2.2.2.2.2.2.1, .int x.2.2.2.2.2.2.2.2.2.2.2.2.1, .int x.2.2.2.2.2.2.2.2.2.2.2.2.2]
def z_tells.L10.dτ : Nat → List D → Option ((Bool × Bool × Int × Int) ⊕ (Bool))
  | 0, [.bool y0, .bool y1, .int y2, .int y3] => some (.inl (y0, y1, y2, y3))
  | 1, [.bool y0] => some (.inr y0)
  | _, _ => none
def z_tells.L10.eτ : (Bool × Bool × Int × Int) ⊕ (Bool) → Nat × List D
  | (.inl t) => (0, [.bool t.1, .bool t.2.1, .int t.2.2.1, .int t.2.2.2])
  | (.inr t) => (1, [.bool t])
def z_tells.L10.sel (β : Type) (t : (Bool × Bool × Int × Int) ⊕ (Bool)) (k : Exit → Fr → Hp → Option β) : Option β := match t with
  | (.inl r) => k (.exit 0) (bldS z_tells.L10.X0 [.bool r.1, .bool r.2.1, .int r.2.2.1, .int r.2.2.2]).1 (bldS z_tells.L10.X0 [.bool r.1, .bool r.2.1, .int r.2.2.1, .int r.2.2.2]).2
  | (.inr r) => k (.ret) (bldS z_tells.L10.X1 [.bool r]).1 (bldS z_tells.L10.X1 [.bool r]).2
theorem z_tells.L10.sel_ok (β : Type) (t : (Bool × Bool × Int × Int) ⊕ (Bool)) (k : Exit → Fr → Hp → Option β) : z_tells.L10.sel β t k = k (endA z_tells.L10.X z_tells.L10.eτ t).1 (endA z_tells.L10.X z_tells.L10.eτ t).2.1 (endA z_tells.L10.X z_tells.L10.eτ t).2.2 := by rcases t with t | t <;> rfl
theorem z_tells.L10.dσ_ok (d : List D) (x : Bool × Bool × Int × Int × Int × Int × Int × Int × Int × Int × Int × Int × Int × Int) (h : z_tells.L10.dσ d = some x) : z_tells.L10.eσ x = d := by
  unfold z_tells.L10.dσ at h
  split at h <;> first | (cases h; rfl) | cases h
theorem z_tells.L10.dτ_ok (i : Nat) (d : List D) (t : (Bool × Bool × Int × Int) ⊕ (Bool)) (h : z_tells.L10.dτ i d = some t) : z_tells.L10.eτ t = (i, d) := by
  unfold z_tells.L10.dτ at h
  split at h <;> first | (cases h; rfl) | cases h
def z_tells.L10.S (K : Nat) (f4 : Option (Bool)) (f5 : ByteArray → Option (Int × Int × Int × Int × Int)) (f6 : ByteArray → Option (Int × Int × Int × Int × Int)) (f7 : Int → Int → Int → Int → Option (Int × Int × Int × Int)) (f8 : Int → Int → Int → Int → Option (Int × Int × Int)) (f9 : Int → Int → Int → Int → Option (Int × Int × Int)) (f10 : Int → Int → Int → Int → Option (ByteArray × Int)) (f11 : Int → Int → Int → Int → Option (ByteArray × Int)) (f12 : Int → Int → Int → Int → Option (Bool)) (f13 : Int → Int → Int → Int → Option (Bool)) (f14 : Int → Int → Option (Bool)) (f15 : Int → Int → Option (Int × Int × Int)) (f16 : Int → Int → Option (Int)) (rec : (Bool × Bool × Int × Int × Int × Int × Int × Int × Int × Int × Int × Int × Int × Int) → Option ((Bool × Bool × Int × Int) ⊕ (Bool))) (x0 : Bool) (x1 : Bool) (x2 : Int) (x3 : Int) (x4 : Int) (x5 : Int) (x6 : Int) (x7 : Int) (x8 : Int) (x9 : Int) (x10 : Int) (x11 : Int) (x12 : Int) (x13 : Int) : Option ((Bool × Bool × Int × Int) ⊕ (Bool)) :=
  bif decide (x3 < x2) then if x3 = (↑(nat_lit 1) : Int) then (f8 x10 x11 x12 x13).bind fun v8 => (f9 x10 x11 x12 x13).bind fun v9 => (f10 x10 x11 x12 x13).bind fun v10 => (f11 x10 x11 x12 x13).bind fun v11 => (f12 x10 x11 x12 x13).bind fun v12 => (f13 x10 x11 x12 x13).bind fun v13 => bif !v12 == v13 then some (Sum.inr false) else bif !(v8.fst == v9.fst && (v8.snd.fst == v9.snd.fst && true)) then some (Sum.inr false) else bif !v8.snd.snd == v9.snd.snd then some (Sum.inr false) else bif !v10.fst.toList == v11.fst.toList then some (Sum.inr false) else bif !v10.snd == v11.snd then some (Sum.inr false) else (f14 v8.fst v8.snd.fst).bind fun v14 => bif !v14 then some (Sum.inr false) else rec (x0, x1, x2, IntKind.i64.wrap (x3 + (1 : Int)), x4, x5, x6, x7, x8, x9, x10, x11, x12, x13) else if x3 = (↑(nat_lit 0) : Int) then (f8 x6 x7 x8 x9).bind fun v1 => (f9 x6 x7 x8 x9).bind fun v2 => (f10 x6 x7 x8 x9).bind fun v3 => (f11 x6 x7 x8 x9).bind fun v4 => (f12 x6 x7 x8 x9).bind fun v5 => (f13 x6 x7 x8 x9).bind fun v6 => bif !v5 == v6 then some (Sum.inr false) else bif !(v1.fst == v2.fst && (v1.snd.fst == v2.snd.fst && true)) then some (Sum.inr false) else bif !v1.snd.snd == v2.snd.snd then some (Sum.inr false) else bif !v3.fst.toList == v4.fst.toList then some (Sum.inr false) else bif !v3.snd == v4.snd then some (Sum.inr false) else (f14 v1.fst v1.snd.fst).bind fun v7 => bif !v7 then some (Sum.inr false) else rec (x0, x1, x2, IntKind.i64.wrap (x3 + (1 : Int)), x4, x5, x6, x7, x8, x9, x10, x11, x12, x13) else none else some (Sum.inl (x0, x1, x4, x5))
set_option maxRecDepth 100000 in
theorem z_tells.L10.step (K : Nat) (f4 : Option (Bool)) (f5 : ByteArray → Option (Int × Int × Int × Int × Int)) (f6 : ByteArray → Option (Int × Int × Int × Int × Int)) (f7 : Int → Int → Int → Int → Option (Int × Int × Int × Int)) (f8 : Int → Int → Int → Int → Option (Int × Int × Int)) (f9 : Int → Int → Int → Int → Option (Int × Int × Int)) (f10 : Int → Int → Int → Int → Option (ByteArray × Int)) (f11 : Int → Int → Int → Int → Option (ByteArray × Int)) (f12 : Int → Int → Int → Int → Option (Bool)) (f13 : Int → Int → Int → Int → Option (Bool)) (f14 : Int → Int → Option (Bool)) (f15 : Int → Int → Option (Int × Int × Int)) (f16 : Int → Int → Option (Int)) (rec : (Bool × Bool × Int × Int × Int × Int × Int × Int × Int × Int × Int × Int × Int × Int) → Option ((Bool × Bool × Int × Int) ⊕ (Bool))) (x0 : Bool) (x1 : Bool) (x2 : Int) (x3 : Int) (x4 : Int) (x5 : Int) (x6 : Int) (x7 : Int) (x8 : Int) (x9 : Int) (x10 : Int) (x11 : Int) (x12 : Int) (x13 : Int) : execA Tryz.prog lay (z_tells.Γ f4 f5 f6 f7 f8 f9 f10 f11 f12 f13 f14 f15 f16) [] (inlA Tryz.prog lay (z_tells.Γ f4 f5 f6 f7 f8 f9 f10 f11 f12 f13 f14 f15 f16) [] 3) ⟨z_tells.J3, [], 0⟩ 0 (loopAt Tryz.f3 0) (bldS z_tells.L10.T (z_tells.L10.eσ (x0, x1, x2, x3, x4, x5, x6, x7, x8, x9, x10, x11, x12, x13))).1 (bldS z_tells.L10.T (z_tells.L10.eσ (x0, x1, x2, x3, x4, x5, x6, x7, x8, x9, x10, x11, x12, x13))).2 (contA z_tells.L10.T z_tells.L10.X z_tells.L10.dσ z_tells.L10.dτ rec) = z_tells.L10.S K f4 f5 f6 f7 f8 f9 f10 f11 f12 f13 f14 f15 f16 rec x0 x1 x2 x3 x4 x5 x6 x7 x8 x9 x10 x11 x12 x13 := by kernel_rfl
def z_tells.L10 (K : Nat) (f4 : Option (Bool)) (f5 : ByteArray → Option (Int × Int × Int × Int × Int)) (f6 : ByteArray → Option (Int × Int × Int × Int × Int)) (f7 : Int → Int → Int → Int → Option (Int × Int × Int × Int)) (f8 : Int → Int → Int → Int → Option (Int × Int × Int)) (f9 : Int → Int → Int → Int → Option (Int × Int × Int)) (f10 : Int → Int → Int → Int → Option (ByteArray × Int)) (f11 : Int → Int → Int → Int → Option (ByteArray × Int)) (f12 : Int → Int → Int → Int → Option (Bool)) (f13 : Int → Int → Int → Int → Option (Bool)) (f14 : Int → Int → Option (Bool)) (f15 : Int → Int → Option (Int × Int × Int)) (f16 : Int → Int → Option (Int)) : Nat → (Bool × Bool × Int × Int × Int × Int × Int × Int × Int × Int × Int × Int × Int × Int) → Option ((Bool × Bool × Int × Int) ⊕ (Bool))
  | 0, _ => none
  | k + 1, x => z_tells.L10.S K f4 f5 f6 f7 f8 f9 f10 f11 f12 f13 f14 f15 f16 (z_tells.L10 K f4 f5 f6 f7 f8 f9 f10 f11 f12 f13 f14 f15 f16 k) x.1 x.2.1 x.2.2.1 x.2.2.2.1 x.2.2.2.2.1 x.2.2.2.2.2.1 x.2.2.2.2.2.2.1 x.2.2.2.2.2.2.2.1 x.2.2.2.2.2.2.2.2.1 x.2.2.2.2.2.2.2.2.2.1 x.2.2.2.2.2.2.2.2.2.2.1 x.2.2.2.2.2.2.2.2.2.2.2.1 x.2.2.2.2.2.2.2.2.2.2.2.2.1 x.2.2.2.2.2.2.2.2.2.2.2.2.2
theorem z_tells.L10.ok (K : Nat) (f4 : Option (Bool)) (f5 : ByteArray → Option (Int × Int × Int × Int × Int)) (f6 : ByteArray → Option (Int × Int × Int × Int × Int)) (f7 : Int → Int → Int → Int → Option (Int × Int × Int × Int)) (f8 : Int → Int → Int → Int → Option (Int × Int × Int)) (f9 : Int → Int → Int → Int → Option (Int × Int × Int)) (f10 : Int → Int → Int → Int → Option (ByteArray × Int)) (f11 : Int → Int → Int → Int → Option (ByteArray × Int)) (f12 : Int → Int → Int → Int → Option (Bool)) (f13 : Int → Int → Int → Int → Option (Bool)) (f14 : Int → Int → Option (Bool)) (f15 : Int → Int → Option (Int × Int × Int)) (f16 : Int → Int → Option (Int)) {B : Nat} {wB : World} (stab_ : ∀ w', Bel B wB w' → GW w') (hΓ_ : AllOk Tryz.prog GW lay (z_tells.Γ f4 f5 f6 f7 f8 f9 f10 f11 f12 f13 f14 f15 f16)) (Kr : Nat) : LSOk Tryz.prog lay B wB [] 0 (sumA z_tells.L10.T z_tells.L10.X z_tells.L10.dσ z_tells.L10.eτ z_tells.L10.sel z_tells.L10.sel_ok (z_tells.L10 K f4 f5 f6 f7 f8 f9 f10 f11 f12 f13 f14 f15 f16 Kr)) (loopAt Tryz.f3 0) :=
  loop_mk (by kernel_rfl) hΓ_ stab_ (inlA_ok (by kernel_rfl) hΓ_ stab_ in_nil 3) (C := ⟨z_tells.J3, [], 0⟩) (allL_of (l := []) (by kernel_rfl) allL_nil) (by decide) (by decide) z_tells.L10.dσ_ok z_tells.L10.dτ_ok (fun _ => rfl) (fun k x => (z_tells.L10.step K f4 f5 f6 f7 f8 f9 f10 f11 f12 f13 f14 f15 f16 (z_tells.L10 K f4 f5 f6 f7 f8 f9 f10 f11 f12 f13 f14 f15 f16 k) x.1 x.2.1 x.2.2.1 x.2.2.2.1 x.2.2.2.2.1 x.2.2.2.2.2.1 x.2.2.2.2.2.2.1 x.2.2.2.2.2.2.2.1 x.2.2.2.2.2.2.2.2.1 x.2.2.2.2.2.2.2.2.2.1 x.2.2.2.2.2.2.2.2.2.2.1 x.2.2.2.2.2.2.2.2.2.2.2.1 x.2.2.2.2.2.2.2.2.2.2.2.2.1 x.2.2.2.2.2.2.2.2.2.2.2.2.2).symm) Kr
def z_tells.t (K : Nat) (f4 : Option (Bool)) (f5 : ByteArray → Option (Int × Int × Int × Int × Int)) (f6 : ByteArray → Option (Int × Int × Int × Int × Int)) (f7 : Int → Int → Int → Int → Option (Int × Int × Int × Int)) (f8 : Int → Int → Int → Int → Option (Int × Int × Int)) (f9 : Int → Int → Int → Int → Option (Int × Int × Int)) (f10 : Int → Int → Int → Int → Option (ByteArray × Int)) (f11 : Int → Int → Int → Int → Option (ByteArray × Int)) (f12 : Int → Int → Int → Int → Option (Bool)) (f13 : Int → Int → Int → Int → Option (Bool)) (f14 : Int → Int → Option (Bool)) (f15 : Int → Int → Option (Int × Int × Int)) (f16 : Int → Int → Option (Int)) (a0 : Int) (a1 : Int) (a2 : Int) (a3 : Int) (a4 : Int) (a5 : Int) (a6 : ByteArray) : Option (Bool) :=
  f4.bind fun v1 => bif !v1 then some false else if ((0 : Int) ≤ if (30 : Int) < (↑a6.size : Int) then (30 : Int) else (↑a6.size : Int)) ∧ (if (30 : Int) < (↑a6.size : Int) then (30 : Int) else (↑a6.size : Int)) ≤ (↑a6.size : Int) then if (0 : Int) ≤ (0 : Int) ∧ (0 : Int) ≤ if (30 : Int) < (↑a6.size : Int) then (30 : Int) else (↑a6.size : Int) then (f5 (a6.extract (Int.toNat (0 : Int)) (if (30 : Int) < (↑a6.size : Int) then (30 : Int) else (↑a6.size : Int)).toNat)).bind fun v2 => (f6 (a6.extract (Int.toNat (0 : Int)) (if (30 : Int) < (↑a6.size : Int) then (30 : Int) else (↑a6.size : Int)).toNat)).bind fun v3 => bif !(v2.fst == v3.fst && (v2.snd.fst == v3.snd.fst && (v2.snd.snd.fst == v3.snd.snd.fst && (v2.snd.snd.snd.fst == v3.snd.snd.snd.fst && true)))) then some false else bif !v2.snd.snd.snd.snd == v3.snd.snd.snd.snd then some false else (f7 a0 a1 a2 a3).bind fun v4 => (z_tells.L10 K f4 f5 f6 f7 f8 f9 f10 f11 f12 f13 f14 f15 f16 K (false, v1, (↑(2 : Nat) : Int), (0 : Int), a4, a5, a0, a1, a2, a3, v4.fst, v4.snd.fst, v4.snd.snd.fst, v4.snd.snd.snd)).bind fun v5 => Sum.elim (fun v6 => (f16 v6.snd.snd.fst (4097 : Int)).bind fun v7 => (f16 v6.snd.snd.snd (420 : Int)).bind fun v8 => (f15 v7 (IntKind.i64.wrap ((1 : Int) + v8))).bind fun v9 => (f16 v6.snd.snd.fst (600 : Int)).bind fun v10 => (f15 v10 (64 : Int)).bind fun v11 => bif v6.snd.fst then (f14 v6.snd.snd.fst v6.snd.snd.snd).bind fun v12 => bif v12 then (f14 v9.fst v9.snd.fst).bind fun v13 => bif v13 then (f14 v11.fst v11.snd.fst).bind fun v14 => some v14 else some false else some false else some false) (fun v15 => some v15) v5 else none else none
set_option maxRecDepth 100000 in
theorem z_tells.run (K : Nat) (f4 : Option (Bool)) (f5 : ByteArray → Option (Int × Int × Int × Int × Int)) (f6 : ByteArray → Option (Int × Int × Int × Int × Int)) (f7 : Int → Int → Int → Int → Option (Int × Int × Int × Int)) (f8 : Int → Int → Int → Int → Option (Int × Int × Int)) (f9 : Int → Int → Int → Int → Option (Int × Int × Int)) (f10 : Int → Int → Int → Int → Option (ByteArray × Int)) (f11 : Int → Int → Int → Int → Option (ByteArray × Int)) (f12 : Int → Int → Int → Int → Option (Bool)) (f13 : Int → Int → Int → Int → Option (Bool)) (f14 : Int → Int → Option (Bool)) (f15 : Int → Int → Option (Int × Int × Int)) (f16 : Int → Int → Option (Int)) (a0 : Int) (a1 : Int) (a2 : Int) (a3 : Int) (a4 : Int) (a5 : Int) (a6 : ByteArray) : runA Tryz.prog lay (z_tells.Γ f4 f5 f6 f7 f8 f9 f10 f11 f12 f13 f14 f15 f16) [] [] 3 ⟨z_tells.J3, [(10, 0, sumA z_tells.L10.T z_tells.L10.X z_tells.L10.dσ z_tells.L10.eτ z_tells.L10.sel z_tells.L10.sel_ok (z_tells.L10 K f4 f5 f6 f7 f8 f9 f10 f11 f12 f13 f14 f15 f16 K))], 0⟩ Tryz.f3 [.agg [.int .i64 a0, .int .i64 a1, .int .i64 a2, .int .i64 a3], .agg [.int .i64 a4, .int .i64 a5], .str a6] [] [.one (.bool)] z_tells.dec = z_tells.t K f4 f5 f6 f7 f8 f9 f10 f11 f12 f13 f14 f15 f16 a0 a1 a2 a3 a4 a5 a6 := by kernel_rfl
def z_tells.f (k : Nat) (a0 : Int) (a1 : Int) (a2 : Int) (a3 : Int) (a4 : Int) (a5 : Int) (a6 : ByteArray) : Option (Bool) := z_tells.t k (partitalaw04_examples.f k) (value_Read.f k) (r4_Read.f k) (z_Value.f k) (value_Length.f k) (r4_Length.f k) (value_Text.f k) (r4_Text.f k) (value_Right.f k) (r4_Right.f k) (z_split.f k) (partitaref01_Of.f k) (partitalaw04_pick.f) a0 a1 a2 a3 a4 a5 a6
theorem z_tells.allOk (k : Nat) : AllOk Tryz.prog GW lay (z_tells.Γ (partitalaw04_examples.f k) (value_Read.f k) (r4_Read.f k) (z_Value.f k) (value_Length.f k) (r4_Length.f k) (value_Text.f k) (r4_Text.f k) (value_Right.f k) (r4_Right.f k) (z_split.f k) (partitaref01_Of.f k) (partitalaw04_pick.f)) := (allOk_cons (partitalaw04_examples_Z4.ok k) (allOk_cons (value_Read_Z4.ok k) (allOk_cons (r4_Read.ok k) (allOk_cons (z_Value.ok k) (allOk_cons (value_Length_Z4.ok k) (allOk_cons (r4_Length.ok k) (allOk_cons (value_Text_Z4.ok k) (allOk_cons (r4_Text.ok k) (allOk_cons (value_Right_Z4.ok k) (allOk_cons (r4_Right.ok k) (allOk_cons (z_split.ok k) (allOk_cons (partitaref01_Of_Z4.ok k) (allOk_cons (partitalaw04_pick_Z4.ok k) allOk_nil)))))))))))))
theorem z_tells.walks (k : Nat) (a0 : Int) (a1 : Int) (a2 : Int) (a3 : Int) (a4 : Int) (a5 : Int) (a6 : ByteArray) (h : z_tells.f k a0 a1 a2 a3 a4 a5 a6 = some true) {w : World} (hw_ : GW w) {vs : Array Value} {G1 : Gh} (h1_ : G1.lay = lay) (himm_ : ∀ b o, G1.imm b o → b < w.heap.size) (hl_ : AV.isL G1 w [.agg [.int .i64 a0, .int .i64 a1, .int .i64 a2, .int .i64 a3], .agg [.int .i64 a4, .int .i64 a5], .str a6] vs.toList) :
    Calls Tryz.prog 3 vs w fun e w' => e = .returned (.bool true) ∧ Below w.heap.size w w' := by
  have hΓ_ := z_tells.allOk k
  unfold z_tells.f at h
  have hr_ := z_tells.run k (partitalaw04_examples.f k) (value_Read.f k) (r4_Read.f k) (z_Value.f k) (value_Length.f k) (r4_Length.f k) (value_Text.f k) (r4_Text.f k) (value_Right.f k) (r4_Right.f k) (z_split.f k) (partitaref01_Of.f k) (partitalaw04_pick.f) a0 a1 a2 a3 a4 a5 a6
  rw [h] at hr_
  refine law_mk (by kernel_rfl) hΓ_ Tryz.func3 (fun w w' h hb => h.step hb) no_globals (fun B wB stab_ => in_nil) (C := ⟨z_tells.J3, [(10, 0, sumA z_tells.L10.T z_tells.L10.X z_tells.L10.dσ z_tells.L10.eτ z_tells.L10.sel z_tells.L10.sel_ok (z_tells.L10 k (partitalaw04_examples.f k) (value_Read.f k) (r4_Read.f k) (z_Value.f k) (value_Length.f k) (r4_Length.f k) (value_Text.f k) (r4_Text.f k) (value_Right.f k) (r4_Right.f k) (z_split.f k) (partitaref01_Of.f k) (partitalaw04_pick.f) k))], 0⟩) (fun B wB stab_ => bodyL (allL_of (l := [loopAt Tryz.f3 0]) (by kernel_rfl) (allL_cons (by kernel_rfl) (z_tells.L10.ok k (partitalaw04_examples.f k) (value_Read.f k) (r4_Read.f k) (z_Value.f k) (value_Length.f k) (r4_Length.f k) (value_Text.f k) (r4_Text.f k) (value_Right.f k) (r4_Right.f k) (z_split.f k) (partitaref01_Of.f k) (partitalaw04_pick.f) stab_ hΓ_ k) allL_nil))) (d := 3) (rk := [.one (.bool)]) (dec := z_tells.dec) ?hr (fun res h => z_tells.dec_ok res _ h) (by kernel_rfl) hw_ h1_ himm_ hl_
  exact hr_
def partitalaw04_ValueTells.Pure : Prop := ∀ (a0 : Int) (a1 : Int) (a2 : Int) (a3 : Int) (a4 : Int) (a5 : Int) (a6 : ByteArray), (Lit.int .i64 a0).wf = true → (Lit.int .i64 a1).wf = true → (Lit.int .i64 a2).wf = true → (Lit.int .i64 a3).wf = true → (Lit.int .i64 a4).wf = true → (Lit.int .i64 a5).wf = true → a6.size ≤ 140737488351232 → ∃ k, z_tells.f k a0 a1 a2 a3 a4 a5 a6 = some true
theorem partitalaw04_ValueTells.walk (P : partitalaw04_ValueTells.Pure) (a0 : Int) (a1 : Int) (a2 : Int) (a3 : Int) (a4 : Int) (a5 : Int) (a6 : ByteArray) (w : World) (hG_ : GW w) (w0 : (Lit.int .i64 a0).wf = true) (w1 : (Lit.int .i64 a1).wf = true) (w2 : (Lit.int .i64 a2).wf = true) (w3 : (Lit.int .i64 a3).wf = true) (w4 : (Lit.int .i64 a4).wf = true) (w5 : (Lit.int .i64 a5).wf = true) (w6 : a6.size ≤ 140737488351232) :
    Calls Tryz.prog 3 #[.agg #[.int .i64 a0, .int .i64 a1, .int .i64 a2, .int .i64 a3], .agg #[.int .i64 a4, .int .i64 a5], .string a6] w fun e w' => e = .returned (.bool true) ∧ Below w.heap.size w w' := by
  obtain ⟨k, h⟩ := P a0 a1 a2 a3 a4 a5 a6 w0 w1 w2 w3 w4 w5 w6
  exact z_tells.walks k a0 a1 a2 a3 a4 a5 a6 h hG_ (G1 := ⟨fun _ => 0, 0, fun _ _ => False, fun _ => undef, fun _ => 0, fun _ => [], lay⟩) rfl (fun _ _ q => q.elim) ((AV.denL_is _ _ [.agg [.int .i64 a0, .int .i64 a1, .int .i64 a2, .int .i64 a3], .agg [.int .i64 a4, .int .i64 a5], .str a6] _ rfl).2 rfl)

end Go.Proofs.YtajbnfidcpfonaaGreatDoor.M
