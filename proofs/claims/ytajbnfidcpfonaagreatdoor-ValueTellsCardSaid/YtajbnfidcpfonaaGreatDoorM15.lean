/- The examples, by the machine. -/
import Derived.Test.YtajbnfidcpfonaaGreatDoorProg
import Derived.Test.YtajbnfidcpfonaaGreatDoorQ10
import Derived.Test.YtajbnfidcpfonaaGreatDoorM0
import Derived.Test.YtajbnfidcpfonaaGreatDoorGSeq
import Derived.Test.YtajbnfidcpfonaaGreatDoorM4
import Derived.Test.YtajbnfidcpfonaaGreatDoorM5
import Derived.Test.YtajbnfidcpfonaaGreatDoorM6
import Derived.Test.YtajbnfidcpfonaaGreatDoorM8
import Derived.Test.YtajbnfidcpfonaaGreatDoorM9
set_option linter.unusedVariables false
set_option linter.unusedSimpArgs false
set_option maxRecDepth 100000
namespace Go.Proofs.YtajbnfidcpfonaaGreatDoor.M
open Go Go.RowKit Go.Proofs Go.Proofs.Qx Go.Proofs.YtajbnfidcpfonaaGreatDoorW.PrintWords Go.Proofs.YtajbnfidcpfonaaGreatDoorW.PrintLast Go.Proofs.YtajbnfidcpfonaaGreatDoorW.PrintMore

/-! ### partita/partitalaw04.examples: function 4 -/
def qx_examples.out (r : Bool) : Res := .ret (.bool r)
def qx_examples.dec : Res → Option (Bool)
  | .ret (.bool y0) => some y0
  | _ => none
theorem qx_examples.out_free (r : Bool) : (qx_examples.out r).free = true := rfl
def qx_examples.sel (β : Type) (r : Bool) (k : Res → Option β) : Option β := k (.ret (.bool r))
theorem qx_examples.sel_ok (β : Type) (t : Bool) (k : Res → Option β) : qx_examples.sel β t k = k (qx_examples.out t) := rfl
theorem qx_examples.dec_ok (res : Res) (r : Bool) (h : qx_examples.dec res = some r) : res = qx_examples.out r := by
  unfold qx_examples.dec at h
  split at h <;> first | (cases h; rfl) | cases h
def qx_examples.tells (f : Option (Bool)) : Tells
  | [] => some (.mk (Bool) (f ) qx_examples.out qx_examples.sel qx_examples.sel_ok)
  | _ => none
def qx_examples.ce (f : Option (Bool)) : CE := ⟨[], .flat, qx_examples.tells f⟩
def value_Read_M15.out (r : Int × Int × Int × Int × Int) : Res := .ret (.tup [.agg [.int .i64 r.1, .int .i64 r.2.1, .int .i64 r.2.2.1, .int .i64 r.2.2.2.1], .int .i64 r.2.2.2.2])
def value_Read_M15.dec : Res → Option (Int × Int × Int × Int × Int)
  | .ret (.tup [.agg [.int .i64 y0, .int .i64 y1, .int .i64 y2, .int .i64 y3], .int .i64 y4]) => some (y0, y1, y2, y3, y4)
  | _ => none
theorem value_Read_M15.out_free (r : Int × Int × Int × Int × Int) : (value_Read_M15.out r).free = true := rfl
def value_Read_M15.sel (β : Type) (r : Int × Int × Int × Int × Int) (k : Res → Option β) : Option β := k (.ret (.tup [.agg [.int .i64 r.1, .int .i64 r.2.1, .int .i64 r.2.2.1, .int .i64 r.2.2.2.1], .int .i64 r.2.2.2.2]))
theorem value_Read_M15.sel_ok (β : Type) (t : Int × Int × Int × Int × Int) (k : Res → Option β) : value_Read_M15.sel β t k = k (value_Read_M15.out t) := rfl
theorem value_Read_M15.dec_ok (res : Res) (r : Int × Int × Int × Int × Int) (h : value_Read_M15.dec res = some r) : res = value_Read_M15.out r := by
  unfold value_Read_M15.dec at h
  split at h <;> first | (cases h; rfl) | cases h
def value_Read_M15.tells (f : ByteArray → Option (Int × Int × Int × Int × Int)) : Tells
  | [.str a0] => some (.mk (Int × Int × Int × Int × Int) (f a0) value_Read_M15.out value_Read_M15.sel value_Read_M15.sel_ok)
  | _ => none
def value_Read_M15.ce (f : ByteArray → Option (Int × Int × Int × Int × Int)) : CE := ⟨[.one (.str)], .flat, value_Read_M15.tells f⟩
theorem value_Read_M15.ok (k : Nat) : CEOk Tryz.prog GW lay 5 (value_Read_M15.ce (value_Read.f k)) :=
  tells_simple (fun args w => by kernel_rfl) fun args τ x out sel ok r hs hx => by
    unfold value_Read_M15.tells at hs
    split at hs
    · cases hs
      exact ⟨rfl, _, rfl, rfl, fun w hw => value_Read.calls k _ r.1 r.2.1 r.2.2.1 r.2.2.2.1 r.2.2.2.2 w hw hx⟩
    · cases hs
def value_Length_M15.out (r : Int × Int × Int) : Res := .ret (.tup [.agg [.int .i64 r.1, .int .i64 r.2.1], .int .i64 r.2.2])
def value_Length_M15.dec : Res → Option (Int × Int × Int)
  | .ret (.tup [.agg [.int .i64 y0, .int .i64 y1], .int .i64 y2]) => some (y0, y1, y2)
  | _ => none
theorem value_Length_M15.out_free (r : Int × Int × Int) : (value_Length_M15.out r).free = true := rfl
def value_Length_M15.sel (β : Type) (r : Int × Int × Int) (k : Res → Option β) : Option β := k (.ret (.tup [.agg [.int .i64 r.1, .int .i64 r.2.1], .int .i64 r.2.2]))
theorem value_Length_M15.sel_ok (β : Type) (t : Int × Int × Int) (k : Res → Option β) : value_Length_M15.sel β t k = k (value_Length_M15.out t) := rfl
theorem value_Length_M15.dec_ok (res : Res) (r : Int × Int × Int) (h : value_Length_M15.dec res = some r) : res = value_Length_M15.out r := by
  unfold value_Length_M15.dec at h
  split at h <;> first | (cases h; rfl) | cases h
def value_Length_M15.tells (f : Int → Int → Int → Int → Option (Int × Int × Int)) : Tells
  | [.agg [.int .i64 a0, .int .i64 a1, .int .i64 a2, .int .i64 a3]] => some (.mk (Int × Int × Int) (f a0 a1 a2 a3) value_Length_M15.out value_Length_M15.sel value_Length_M15.sel_ok)
  | _ => none
def value_Length_M15.ce (f : Int → Int → Int → Int → Option (Int × Int × Int)) : CE := ⟨[.agg [.int .i64, .int .i64, .int .i64, .int .i64]], .flat, value_Length_M15.tells f⟩
theorem value_Length_M15.ok (k : Nat) : CEOk Tryz.prog GW lay 8 (value_Length_M15.ce (value_Length.f k)) :=
  tells_simple (fun args w => by kernel_rfl) fun args τ x out sel ok r hs hx => by
    unfold value_Length_M15.tells at hs
    split at hs
    · cases hs
      exact ⟨rfl, _, rfl, rfl, fun w hw => value_Length.calls k _ _ _ _ r.1 r.2.1 r.2.2 w hw hx⟩
    · cases hs
def value_Text_M15.out (r : ByteArray × Int) : Res := .ret (.tup [.str r.1, .int .i64 r.2])
def value_Text_M15.dec : Res → Option (ByteArray × Int)
  | .ret (.tup [.str y0, .int .i64 y1]) => some (y0, y1)
  | _ => none
theorem value_Text_M15.out_free (r : ByteArray × Int) : (value_Text_M15.out r).free = true := rfl
def value_Text_M15.sel (β : Type) (r : ByteArray × Int) (k : Res → Option β) : Option β := k (.ret (.tup [.str r.1, .int .i64 r.2]))
theorem value_Text_M15.sel_ok (β : Type) (t : ByteArray × Int) (k : Res → Option β) : value_Text_M15.sel β t k = k (value_Text_M15.out t) := rfl
theorem value_Text_M15.dec_ok (res : Res) (r : ByteArray × Int) (h : value_Text_M15.dec res = some r) : res = value_Text_M15.out r := by
  unfold value_Text_M15.dec at h
  split at h <;> first | (cases h; rfl) | cases h
def value_Text_M15.tells (f : Int → Int → Int → Int → Option (ByteArray × Int)) : Tells
  | [.agg [.int .i64 a0, .int .i64 a1, .int .i64 a2, .int .i64 a3]] => some (.mk (ByteArray × Int) (f a0 a1 a2 a3) value_Text_M15.out value_Text_M15.sel value_Text_M15.sel_ok)
  | _ => none
def value_Text_M15.ce (f : Int → Int → Int → Int → Option (ByteArray × Int)) : CE := ⟨[.agg [.int .i64, .int .i64, .int .i64, .int .i64]], .flat, value_Text_M15.tells f⟩
theorem value_Text_M15.ok (k : Nat) : CEOk Tryz.prog GW lay 10 (value_Text_M15.ce (value_Text.f k)) :=
  tells_simple (fun args w => by kernel_rfl) fun args τ x out sel ok r hs hx => by
    unfold value_Text_M15.tells at hs
    split at hs
    · cases hs
      exact ⟨rfl, _, rfl, rfl, fun w hw => value_Text.calls k _ _ _ _ r.1 r.2 w hw hx⟩
    · cases hs
def value_Right_M15.out (r : Bool) : Res := .ret (.bool r)
def value_Right_M15.dec : Res → Option (Bool)
  | .ret (.bool y0) => some y0
  | _ => none
theorem value_Right_M15.out_free (r : Bool) : (value_Right_M15.out r).free = true := rfl
def value_Right_M15.sel (β : Type) (r : Bool) (k : Res → Option β) : Option β := k (.ret (.bool r))
theorem value_Right_M15.sel_ok (β : Type) (t : Bool) (k : Res → Option β) : value_Right_M15.sel β t k = k (value_Right_M15.out t) := rfl
theorem value_Right_M15.dec_ok (res : Res) (r : Bool) (h : value_Right_M15.dec res = some r) : res = value_Right_M15.out r := by
  unfold value_Right_M15.dec at h
  split at h <;> first | (cases h; rfl) | cases h
def value_Right_M15.tells (f : Int → Int → Int → Int → Option (Bool)) : Tells
  | [.agg [.int .i64 a0, .int .i64 a1, .int .i64 a2, .int .i64 a3]] => some (.mk (Bool) (f a0 a1 a2 a3) value_Right_M15.out value_Right_M15.sel value_Right_M15.sel_ok)
  | _ => none
def value_Right_M15.ce (f : Int → Int → Int → Int → Option (Bool)) : CE := ⟨[.agg [.int .i64, .int .i64, .int .i64, .int .i64]], .flat, value_Right_M15.tells f⟩
theorem value_Right_M15.ok (k : Nat) : CEOk Tryz.prog GW lay 12 (value_Right_M15.ce (value_Right.f k)) :=
  tells_simple (fun args w => by kernel_rfl) fun args τ x out sel ok r hs hx => by
    unfold value_Right_M15.tells at hs
    split at hs
    · cases hs
      exact ⟨rfl, _, rfl, rfl, fun w hw => value_Right.calls k _ _ _ _ r w hx⟩
    · cases hs
def value_Find_M15.out (r : Int × Int × Int × Int × Bool) : Res := .ret (.tup [.agg [.int .i64 r.1, .int .i64 r.2.1, .int .i64 r.2.2.1, .int .i64 r.2.2.2.1], .bool r.2.2.2.2])
def value_Find_M15.dec : Res → Option (Int × Int × Int × Int × Bool)
  | .ret (.tup [.agg [.int .i64 y0, .int .i64 y1, .int .i64 y2, .int .i64 y3], .bool y4]) => some (y0, y1, y2, y3, y4)
  | _ => none
theorem value_Find_M15.out_free (r : Int × Int × Int × Int × Bool) : (value_Find_M15.out r).free = true := rfl
def value_Find_M15.sel (β : Type) (r : Int × Int × Int × Int × Bool) (k : Res → Option β) : Option β := k (.ret (.tup [.agg [.int .i64 r.1, .int .i64 r.2.1, .int .i64 r.2.2.1, .int .i64 r.2.2.2.1], .bool r.2.2.2.2]))
theorem value_Find_M15.sel_ok (β : Type) (t : Int × Int × Int × Int × Bool) (k : Res → Option β) : value_Find_M15.sel β t k = k (value_Find_M15.out t) := rfl
theorem value_Find_M15.dec_ok (res : Res) (r : Int × Int × Int × Int × Bool) (h : value_Find_M15.dec res = some r) : res = value_Find_M15.out r := by
  unfold value_Find_M15.dec at h
  split at h <;> first | (cases h; rfl) | cases h
def value_Find_M15.tells (f : Int → Int → Option (Int × Int × Int × Int × Bool)) : Tells
  | [.agg [.int .i64 a0, .int .i64 a1]] => some (.mk (Int × Int × Int × Int × Bool) (f a0 a1) value_Find_M15.out value_Find_M15.sel value_Find_M15.sel_ok)
  | _ => none
def value_Find_M15.ce (f : Int → Int → Option (Int × Int × Int × Int × Bool)) : CE := ⟨[.agg [.int .i64, .int .i64]], .flat, value_Find_M15.tells f⟩
theorem value_Find_M15.ok (k : Nat) : CEOk Tryz.prog GW lay 17 (value_Find_M15.ce (value_Find.f k)) :=
  tells_simple (fun args w => by kernel_rfl) fun args τ x out sel ok r hs hx => by
    unfold value_Find_M15.tells at hs
    split at hs
    · cases hs
      exact ⟨rfl, _, rfl, rfl, fun w hw => value_Find.calls k _ _ r.1 r.2.1 r.2.2.1 r.2.2.2.1 r.2.2.2.2 w hw hx⟩
    · cases hs
def value_Split_M15.out (r : List (List D) × Int) : Res := .ret (.tup [.seq 23 r.1, .int .i64 r.2])
def value_Split_M15.dec : Res → Option (List (List D) × Int)
  | .ret (.tup [.seq 23 y0, .int .i64 y1]) => some (y0, y1)
  | _ => none
theorem value_Split_M15.out_free (r : List (List D) × Int) : (value_Split_M15.out r).free = true := rfl
def value_Split_M15.sel (β : Type) (r : List (List D) × Int) (k : Res → Option β) : Option β := k (.ret (.tup [.seq 23 r.1, .int .i64 r.2]))
theorem value_Split_M15.sel_ok (β : Type) (t : List (List D) × Int) (k : Res → Option β) : value_Split_M15.sel β t k = k (value_Split_M15.out t) := rfl
theorem value_Split_M15.dec_ok (res : Res) (r : List (List D) × Int) (h : value_Split_M15.dec res = some r) : res = value_Split_M15.out r := by
  unfold value_Split_M15.dec at h
  split at h <;> first | (cases h; rfl) | cases h
def value_Split_M15.tells (f : Int → Int → Option (List (List D) × Int)) : Tells
  | [.agg [.int .i64 a0, .int .i64 a1]] => some (.mk (List (List D) × Int) (f a0 a1) value_Split_M15.out value_Split_M15.sel value_Split_M15.sel_ok)
  | _ => none
def value_Split_M15.ce (f : Int → Int → Option (List (List D) × Int)) : CE := ⟨[.agg [.int .i64, .int .i64]], .froz, value_Split_M15.tells f⟩
theorem value_Split_M15.ok (k : Nat) : CEOk Tryz.prog GW lay 18 (value_Split_M15.ce (fun a0 a1 => (value_Split.f k a0 a1).map fun r => (r.1.map row23, r.2))) := tells_of (fun args w => by kernel_rfl) fun args τ x out sel ok r hs hx => by
  unfold value_Split_M15.tells at hs
  split at hs
  · rename_i a0 a1
    cases hs
    obtain ⟨⟨xs, e⟩, h1, rfl⟩ := Option.map_eq_some_iff.1 hx
    refine ⟨rfl, _, rfl, fun w hw => (value_Split.calls k _ _ _ _ w hw h1).mono ?_⟩
    rintro en w' ⟨v, rfl, hr, hb⟩
    refine ⟨_, rfl, hb, fun imm himm => ?_⟩
    obtain ⟨imm', ha, hv⟩ := seq_back hb hr imm himm
    exact ⟨imm', ha, fun G hG => by
      have := hv G hG
      simp only [AV.is, AV.isL] at this ⊢
      exact ⟨_, rfl, _, _, rfl, this, _, _, rfl, rfl, rfl⟩⟩
  · cases hs
def qx_examples.Γ (f5 : ByteArray → Option (Int × Int × Int × Int × Int)) (f8 : Int → Int → Int → Int → Option (Int × Int × Int)) (f10 : Int → Int → Int → Int → Option (ByteArray × Int)) (f12 : Int → Int → Int → Int → Option (Bool)) (f17 : Int → Int → Option (Int × Int × Int × Int × Bool)) (f18 : Int → Int → Option (List (List D) × Int)) : List (Nat × CE) := [(5, value_Read_M15.ce f5), (8, value_Length_M15.ce f8), (10, value_Text_M15.ce f10), (12, value_Right_M15.ce f12), (17, value_Find_M15.ce f17), (18, value_Split_M15.ce f18)]
def qx_examples.J4 : List (Nat × List Nat) := [(1, [19, 20, 21, 22, 23]), (2, [24, 25, 26, 27, 28]), (3, [5, 29, 30, 31, 32, 33]), (4, [34, 35, 36, 37, 38]), (5, [9, 39, 40, 41, 42, 43]), (6, [44, 45, 46, 47, 48]), (7, [49, 50, 51, 52]), (8, [15, 53, 54, 55, 56]), (9, [17, 57, 58, 59, 60, 61]), (10, [62, 63]), (1000064, [64])]
def qx_examples.t (K : Nat) (f5 : ByteArray → Option (Int × Int × Int × Int × Int)) (f8 : Int → Int → Int → Int → Option (Int × Int × Int)) (f10 : Int → Int → Int → Int → Option (ByteArray × Int)) (f12 : Int → Int → Int → Int → Option (Bool)) (f17 : Int → Int → Option (Int × Int × Int × Int × Bool)) (f18 : Int → Int → Option (List (List D) × Int)) : Option (Bool) :=
  (f8 (3 : Int) (1 : Int) (0 : Int) (0 : Int)).bind fun v1 => (f17 (1 : Int) (12 : Int)).bind fun v2 => (f17 (1 : Int) (13 : Int)).bind fun v3 => (f18 (5 : Int) (8 : Int)).bind fun v4 => (f18 (1 : Int) (128 : Int)).bind fun v5 => (f10 (3 : Int) (1 : Int) (3 : Int) (2 : Int)).bind fun v6 => (f5 (ByteArray.mk #[(54 : UInt8), (52 : UInt8), (46 : UInt8), (46 : UInt8)])).bind fun v7 => (f5 (ByteArray.mk #[(51 : UInt8)])).bind fun v8 => (f8 (7 : Int) (0 : Int) (0 : Int) (0 : Int)).bind fun v9 => bif !(↑v4.fst.length : Int) == (2 : Int) then some false else bif v1.snd.snd == (0 : Int) then bif v1.fst == (3 : Int) && (v1.snd.fst == (16 : Int) && true) then bif v2.snd.snd.snd.snd then bif v2.fst == (3 : Int) && (v2.snd.fst == (0 : Int) && (v2.snd.snd.fst == (3 : Int) && (v2.snd.snd.snd.fst == (2 : Int) && true))) then bif !v3.snd.snd.snd.snd then bif v4.snd == (0 : Int) then if (0 : Int) ≤ (0 : Int) ∧ (0 : Int) < (↑v4.fst.length : Int) then bif (D.at v4.fst (Int.toNat (0 : Int)) (0 : Nat)).toInt == (1 : Int) && ((D.at v4.fst (Int.toNat (0 : Int)) (1 : Nat)).toInt == (0 : Int) && ((D.at v4.fst (Int.toNat (0 : Int)) (2 : Nat)).toInt == (0 : Int) && ((D.at v4.fst (Int.toNat (0 : Int)) (3 : Nat)).toInt == (0 : Int) && true))) then if (0 : Int) ≤ (1 : Int) ∧ (1 : Int) < (↑v4.fst.length : Int) then bif (D.at v4.fst (Int.toNat (1 : Int)) (0 : Nat)).toInt == (3 : Int) && ((D.at v4.fst (Int.toNat (1 : Int)) (1 : Nat)).toInt == (0 : Int) && ((D.at v4.fst (Int.toNat (1 : Int)) (2 : Nat)).toInt == (0 : Int) && ((D.at v4.fst (Int.toNat (1 : Int)) (3 : Nat)).toInt == (0 : Int) && true))) then bif v5.snd == (41 : Int) then bif v6.snd == (0 : Int) then bif v6.fst.toList == (ByteArray.mk #[(56 : UInt8), (46 : UInt8), (42 : UInt8), (51 : UInt8), (58 : UInt8), (50 : UInt8)]).toList then bif v7.snd.snd.snd.snd == (0 : Int) then bif v7.fst == (6 : Int) && (v7.snd.fst == (2 : Int) && (v7.snd.snd.fst == (0 : Int) && (v7.snd.snd.snd.fst == (0 : Int) && true))) then bif v8.snd.snd.snd.snd == (12 : Int) then bif v9.snd.snd == (40 : Int) then (f12 v7.fst v7.snd.fst v7.snd.snd.fst v7.snd.snd.snd.fst).bind fun v10 => bif v10 then (f12 (0 : Int) (0 : Int) (3 : Int) (3 : Int)).bind fun v11 => some !v11 else some false else some false else some false else some false else some false else some false else some false else some false else some false else none else some false else none else some false else some false else some false else some false else some false else some false
set_option maxRecDepth 100000 in
theorem qx_examples.run (K : Nat) (f5 : ByteArray → Option (Int × Int × Int × Int × Int)) (f8 : Int → Int → Int → Int → Option (Int × Int × Int)) (f10 : Int → Int → Int → Int → Option (ByteArray × Int)) (f12 : Int → Int → Int → Int → Option (Bool)) (f17 : Int → Int → Option (Int × Int × Int × Int × Bool)) (f18 : Int → Int → Option (List (List D) × Int)) : runA Tryz.prog lay (qx_examples.Γ f5 f8 f10 f12 f17 f18) [] [] 3 ⟨qx_examples.J4, [], 0⟩ Tryz.f4 [] [] [.one (.bool)] qx_examples.dec = qx_examples.t K f5 f8 f10 f12 f17 f18 := by kernel_rfl
def qx_examples.f (k : Nat) : Option (Bool) := qx_examples.t k (value_Read.f k) (value_Length.f k) (value_Text.f k) (value_Right.f k) (value_Find.f k) (fun a0 a1 => (value_Split.f k a0 a1).map fun r => (r.1.map row23, r.2))
theorem qx_examples.allOk (k : Nat) : AllOk Tryz.prog GW lay (qx_examples.Γ (value_Read.f k) (value_Length.f k) (value_Text.f k) (value_Right.f k) (value_Find.f k) (fun a0 a1 => (value_Split.f k a0 a1).map fun r => (r.1.map row23, r.2))) := (allOk_cons (value_Read_M15.ok k) (allOk_cons (value_Length_M15.ok k) (allOk_cons (value_Text_M15.ok k) (allOk_cons (value_Right_M15.ok k) (allOk_cons (value_Find_M15.ok k) (allOk_cons (value_Split_M15.ok k) allOk_nil))))))
theorem qx_examples.ok (k : Nat) : CEOk Tryz.prog GW lay 4 (qx_examples.ce (qx_examples.f k)) := by
  have hΓ_ := qx_examples.allOk k
  exact tells_mk (by kernel_rfl) hΓ_ Tryz.func4 (fun args w => by kernel_rfl) (fun w w' h hb => h.step hb) no_globals (fun B wB stab_ => in_nil) (C := ⟨qx_examples.J4, [], 0⟩) (fun B wB stab_ => bodyL (allL_of (l := []) (by kernel_rfl) allL_nil)) (fun args τ x out sel ok r hs hx => by
    unfold qx_examples.tells at hs
    split at hs
    · cases hs
      unfold qx_examples.f at hx
      have hr_ := qx_examples.run k (value_Read.f k) (value_Length.f k) (value_Text.f k) (value_Right.f k) (value_Find.f k) (fun a0 a1 => (value_Split.f k a0 a1).map fun r => (r.1.map row23, r.2)) 
      rw [hx] at hr_
      exact ⟨rfl, qx_examples.out_free _, 3, [.one (.bool)], qx_examples.dec, hr_, fun res h => qx_examples.dec_ok res _ h⟩
    · cases hs)
def partitalaw04_examples.f (k : Nat) : Option (Bool) := qx_examples.f k
theorem leO_cond {α : Type} (b : Bool) {x y x' y' : Option α} (h : LeO x x') (h' : LeO y y') : LeO (cond b x y) (cond b x' y') := by cases b <;> assumption
theorem leO_map {α β : Type} (f : α → β) {x x' : Option α} (h : LeO x x') : LeO (x.map f) (x'.map f) := by
  intro r hr
  obtain ⟨y, h1, h2⟩ := Option.map_eq_some_iff.1 hr
  exact Option.map_eq_some_iff.2 ⟨y, h _ h1, h2⟩
theorem partitalaw04_examples.mono : ∀ k, LeO (partitalaw04_examples.f k) (partitalaw04_examples.f (k + 1)) := by
  intro k
  unfold partitalaw04_examples.f qx_examples.f qx_examples.t
  repeat' first
      | (with_reducible exact value_Find.mono _ _ _)
      | (with_reducible exact value_Length.mono _ _ _ _ _)
      | (with_reducible exact value_Read.mono _ _)
      | (with_reducible exact value_Right.mono _ _ _ _ _)
      | (with_reducible exact leO_map _ (value_Split.mono _ _ _))
      | (with_reducible exact value_Text.mono _ _ _ _ _)
      | (with_reducible exact LeO.refl _)
      | (with_reducible refine leO_cond _ ?_ ?_)
      | (with_reducible refine LeO.ite ?_ ?_)
      | (with_reducible refine LeO.bind ?_ (fun _ => ?_))
theorem partitalaw04_examples.calls (k : Nat) (r : Bool) (w : World) (hG_ : GW w) (h : partitalaw04_examples.f k = some r) :
    Calls Tryz.prog 4 #[] w fun e w' => e = .returned (.bool r) ∧ Below w.heap.size w w' :=
  calls_of (qx_examples.ok k) (args := []) (r := r) rfl h rfl rfl rfl hG_

end Go.Proofs.YtajbnfidcpfonaaGreatDoor.M
