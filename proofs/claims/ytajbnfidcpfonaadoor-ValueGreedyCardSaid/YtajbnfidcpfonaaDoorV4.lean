/- Go functions as the machine tells them. -/
import Derived.Test.YtajbnfidcpfonaaDoorProg
import Derived.Test.YtajbnfidcpfonaaDoorQ10
import Derived.Test.YtajbnfidcpfonaaDoorM0
import Derived.Test.YtajbnfidcpfonaaDoorGSeq
import Derived.Test.YtajbnfidcpfonaaDoorM11
import Derived.Test.YtajbnfidcpfonaaDoorM15
import Derived.Test.YtajbnfidcpfonaaDoorM16
import Derived.Test.YtajbnfidcpfonaaDoorM22x
import Derived.Test.YtajbnfidcpfonaaDoorM33
import Derived.Test.YtajbnfidcpfonaaDoorM5
import Derived.Test.YtajbnfidcpfonaaDoorV0
set_option linter.unusedVariables false
set_option linter.unusedSimpArgs false
set_option maxRecDepth 100000
namespace Go.Proofs.YtajbnfidcpfonaaDoor.M
open Go Go.RowKit Go.Proofs Go.Proofs.Qx Go.Proofs.YtajbnfidcpfonaaDoorW.PrintWords Go.Proofs.YtajbnfidcpfonaaDoorW.PrintLast Go.Proofs.YtajbnfidcpfonaaDoorW.PrintMore

/-! ### partita/partitalaw04.ValueGreedy: function 9 -/
def qx_greedy.out (r : Bool) : Res := .ret (.bool r)
def qx_greedy.dec : Res → Option (Bool)
  | .ret (.bool y0) => some y0
  | _ => none
theorem qx_greedy.out_free (r : Bool) : (qx_greedy.out r).free = true := rfl
def qx_greedy.sel (β : Type) (r : Bool) (k : Res → Option β) : Option β := k (.ret (.bool r))
theorem qx_greedy.sel_ok (β : Type) (t : Bool) (k : Res → Option β) : qx_greedy.sel β t k = k (qx_greedy.out t) := rfl
theorem qx_greedy.dec_ok (res : Res) (r : Bool) (h : qx_greedy.dec res = some r) : res = qx_greedy.out r := by
  unfold qx_greedy.dec at h
  split at h <;> first | (cases h; rfl) | cases h
def qx_greedy.tells (f : Int → Option (Bool)) : Tells
  | [.int .i64 a0] => some (.mk (Bool) (f a0) qx_greedy.out qx_greedy.sel qx_greedy.sel_ok)
  | _ => none
def qx_greedy.ce (f : Int → Option (Bool)) : CE := ⟨[.one (.int .i64)], .flat, qx_greedy.tells f⟩
def partitalaw04_examples_V4.out (r : Bool) : Res := .ret (.bool r)
def partitalaw04_examples_V4.dec : Res → Option (Bool)
  | .ret (.bool y0) => some y0
  | _ => none
theorem partitalaw04_examples_V4.out_free (r : Bool) : (partitalaw04_examples_V4.out r).free = true := rfl
def partitalaw04_examples_V4.sel (β : Type) (r : Bool) (k : Res → Option β) : Option β := k (.ret (.bool r))
theorem partitalaw04_examples_V4.sel_ok (β : Type) (t : Bool) (k : Res → Option β) : partitalaw04_examples_V4.sel β t k = k (partitalaw04_examples_V4.out t) := rfl
theorem partitalaw04_examples_V4.dec_ok (res : Res) (r : Bool) (h : partitalaw04_examples_V4.dec res = some r) : res = partitalaw04_examples_V4.out r := by
  unfold partitalaw04_examples_V4.dec at h
  split at h <;> first | (cases h; rfl) | cases h
def partitalaw04_examples_V4.tells (f : Option (Bool)) : Tells
  | [] => some (.mk (Bool) (f ) partitalaw04_examples_V4.out partitalaw04_examples_V4.sel partitalaw04_examples_V4.sel_ok)
  | _ => none
def partitalaw04_examples_V4.ce (f : Option (Bool)) : CE := ⟨[], .flat, partitalaw04_examples_V4.tells f⟩
theorem partitalaw04_examples_V4.ok (k : Nat) : CEOk Tryd.prog GW lay 10 (partitalaw04_examples_V4.ce (partitalaw04_examples.f k)) :=
  tells_simple (fun args w => by kernel_rfl) fun args τ x out sel ok r hs hx => by
    unfold partitalaw04_examples_V4.tells at hs
    split at hs
    · cases hs
      exact ⟨rfl, _, rfl, rfl, fun w hw => partitalaw04_examples.calls k  r w hw hx⟩
    · cases hs
def partitalaw04_pick_V4.out (r : Int) : Res := .ret (.int .i64 r)
def partitalaw04_pick_V4.dec : Res → Option (Int)
  | .ret (.int .i64 y0) => some y0
  | _ => none
theorem partitalaw04_pick_V4.out_free (r : Int) : (partitalaw04_pick_V4.out r).free = true := rfl
def partitalaw04_pick_V4.sel (β : Type) (r : Int) (k : Res → Option β) : Option β := k (.ret (.int .i64 r))
theorem partitalaw04_pick_V4.sel_ok (β : Type) (t : Int) (k : Res → Option β) : partitalaw04_pick_V4.sel β t k = k (partitalaw04_pick_V4.out t) := rfl
theorem partitalaw04_pick_V4.dec_ok (res : Res) (r : Int) (h : partitalaw04_pick_V4.dec res = some r) : res = partitalaw04_pick_V4.out r := by
  unfold partitalaw04_pick_V4.dec at h
  split at h <;> first | (cases h; rfl) | cases h
def partitalaw04_pick_V4.tells (f : Int → Int → Option (Int)) : Tells
  | [.int .i64 a0, .int .i64 a1] => some (.mk (Int) (f a0 a1) partitalaw04_pick_V4.out partitalaw04_pick_V4.sel partitalaw04_pick_V4.sel_ok)
  | _ => none
def partitalaw04_pick_V4.ce (f : Int → Int → Option (Int)) : CE := ⟨[.one (.int .i64), .one (.int .i64)], .flat, partitalaw04_pick_V4.tells f⟩
theorem partitalaw04_pick_V4.ok (k : Nat) : CEOk Tryd.prog GW lay 18 (partitalaw04_pick_V4.ce (partitalaw04_pick.f)) :=
  tells_simple (fun args w => by kernel_rfl) fun args τ x out sel ok r hs hx => by
    unfold partitalaw04_pick_V4.tells at hs
    split at hs
    · cases hs
      exact ⟨rfl, _, rfl, rfl, fun w hw => (partitalaw04_pick.calls _ _ r w hx).mono fun e w' q => ⟨q.1, q.2.below⟩⟩
    · cases hs
def value_Split_V4.out (r : List (List D) × Int) : Res := .ret (.tup [.seq 23 r.1, .int .i64 r.2])
def value_Split_V4.dec : Res → Option (List (List D) × Int)
  | .ret (.tup [.seq 23 y0, .int .i64 y1]) => some (y0, y1)
  | _ => none
theorem value_Split_V4.out_free (r : List (List D) × Int) : (value_Split_V4.out r).free = true := rfl
def value_Split_V4.sel (β : Type) (r : List (List D) × Int) (k : Res → Option β) : Option β := k (.ret (.tup [.seq 23 r.1, .int .i64 r.2]))
theorem value_Split_V4.sel_ok (β : Type) (t : List (List D) × Int) (k : Res → Option β) : value_Split_V4.sel β t k = k (value_Split_V4.out t) := rfl
theorem value_Split_V4.dec_ok (res : Res) (r : List (List D) × Int) (h : value_Split_V4.dec res = some r) : res = value_Split_V4.out r := by
  unfold value_Split_V4.dec at h
  split at h <;> first | (cases h; rfl) | cases h
def value_Split_V4.tells (f : Int → Int → Option (List (List D) × Int)) : Tells
  | [.agg [.int .i64 a0, .int .i64 a1]] => some (.mk (List (List D) × Int) (f a0 a1) value_Split_V4.out value_Split_V4.sel value_Split_V4.sel_ok)
  | _ => none
def value_Split_V4.ce (f : Int → Int → Option (List (List D) × Int)) : CE := ⟨[.agg [.int .i64, .int .i64]], .froz, value_Split_V4.tells f⟩
theorem value_Split_V4.ok (k : Nat) : CEOk Tryd.prog GW lay 19 (value_Split_V4.ce (fun a0 a1 => (value_Split.f k a0 a1).map fun r => (r.1.map row23, r.2))) := tells_of (fun args w => by kernel_rfl) fun args τ x out sel ok r hs hx => by
  unfold value_Split_V4.tells at hs
  split at hs
  · rename_i a0 a1
    cases hs
    obtain ⟨⟨xs, e⟩, h1, rfl⟩ := Option.map_eq_some_iff.1 hx
    refine ⟨rfl, _, rfl, fun w hw => (value_Split.calls k _ _ _ _ w hw h1).mono ?_⟩
    rintro en w' ⟨v, rfl, hr, hb⟩
    refine ⟨_, rfl, hb, fun imm himm => ?_⟩
    obtain ⟨imm', ha, hv⟩ := seq_back hb hr imm himm
    exact ⟨imm', ha, fun G hG => by
      have := hv G hG
      simp only [AV.is, AV.isL] at this ⊢
      exact ⟨_, rfl, _, _, rfl, this, _, _, rfl, rfl, rfl⟩⟩
  · cases hs
def ratio_Of_V4.out (r : Int × Int × Int) : Res := .ret (.tup [.agg [.int .i64 r.1, .int .i64 r.2.1], .int .i64 r.2.2])
def ratio_Of_V4.dec : Res → Option (Int × Int × Int)
  | .ret (.tup [.agg [.int .i64 y0, .int .i64 y1], .int .i64 y2]) => some (y0, y1, y2)
  | _ => none
theorem ratio_Of_V4.out_free (r : Int × Int × Int) : (ratio_Of_V4.out r).free = true := rfl
def ratio_Of_V4.sel (β : Type) (r : Int × Int × Int) (k : Res → Option β) : Option β := k (.ret (.tup [.agg [.int .i64 r.1, .int .i64 r.2.1], .int .i64 r.2.2]))
theorem ratio_Of_V4.sel_ok (β : Type) (t : Int × Int × Int) (k : Res → Option β) : ratio_Of_V4.sel β t k = k (ratio_Of_V4.out t) := rfl
theorem ratio_Of_V4.dec_ok (res : Res) (r : Int × Int × Int) (h : ratio_Of_V4.dec res = some r) : res = ratio_Of_V4.out r := by
  unfold ratio_Of_V4.dec at h
  split at h <;> first | (cases h; rfl) | cases h
def ratio_Of_V4.tells (f : Int → Int → Option (Int × Int × Int)) : Tells
  | [.int .i64 a0, .int .i64 a1] => some (.mk (Int × Int × Int) (f a0 a1) ratio_Of_V4.out ratio_Of_V4.sel ratio_Of_V4.sel_ok)
  | _ => none
def ratio_Of_V4.ce (f : Int → Int → Option (Int × Int × Int)) : CE := ⟨[.one (.int .i64), .one (.int .i64)], .flat, ratio_Of_V4.tells f⟩
theorem ratio_Of_V4.ok (k : Nat) : CEOk Tryd.prog GW lay 21 (ratio_Of_V4.ce (ratio_Of.f k)) :=
  tells_simple (fun args w => by kernel_rfl) fun args τ x out sel ok r hs hx => by
    unfold ratio_Of_V4.tells at hs
    split at hs
    · cases hs
      exact ⟨rfl, _, rfl, rfl, fun w hw => ratio_Of.calls k _ _ r.1 r.2.1 r.2.2 w hx⟩
    · cases hs
def ratio_Compare_V4.out (r : Int) : Res := .ret (.int .i64 r)
def ratio_Compare_V4.dec : Res → Option (Int)
  | .ret (.int .i64 y0) => some y0
  | _ => none
theorem ratio_Compare_V4.out_free (r : Int) : (ratio_Compare_V4.out r).free = true := rfl
def ratio_Compare_V4.sel (β : Type) (r : Int) (k : Res → Option β) : Option β := k (.ret (.int .i64 r))
theorem ratio_Compare_V4.sel_ok (β : Type) (t : Int) (k : Res → Option β) : ratio_Compare_V4.sel β t k = k (ratio_Compare_V4.out t) := rfl
theorem ratio_Compare_V4.dec_ok (res : Res) (r : Int) (h : ratio_Compare_V4.dec res = some r) : res = ratio_Compare_V4.out r := by
  unfold ratio_Compare_V4.dec at h
  split at h <;> first | (cases h; rfl) | cases h
def ratio_Compare_V4.tells (f : Int → Int → Int → Int → Option (Int)) : Tells
  | [.agg [.int .i64 a0, .int .i64 a1], .agg [.int .i64 a2, .int .i64 a3]] => some (.mk (Int) (f a0 a1 a2 a3) ratio_Compare_V4.out ratio_Compare_V4.sel ratio_Compare_V4.sel_ok)
  | _ => none
def ratio_Compare_V4.ce (f : Int → Int → Int → Int → Option (Int)) : CE := ⟨[.agg [.int .i64, .int .i64], .agg [.int .i64, .int .i64]], .flat, ratio_Compare_V4.tells f⟩
theorem ratio_Compare_V4.ok (k : Nat) : CEOk Tryd.prog GW lay 22 (ratio_Compare_V4.ce (ratio_Compare.f k)) :=
  tells_simple (fun args w => by kernel_rfl) fun args τ x out sel ok r hs hx => by
    unfold ratio_Compare_V4.tells at hs
    split at hs
    · cases hs
      exact ⟨rfl, _, rfl, rfl, fun w hw => ratio_Compare.calls k _ _ _ _ r w hx⟩
    · cases hs
def ratio_Mul_V4.out (r : Int × Int × Int) : Res := .ret (.tup [.agg [.int .i64 r.1, .int .i64 r.2.1], .int .i64 r.2.2])
def ratio_Mul_V4.dec : Res → Option (Int × Int × Int)
  | .ret (.tup [.agg [.int .i64 y0, .int .i64 y1], .int .i64 y2]) => some (y0, y1, y2)
  | _ => none
theorem ratio_Mul_V4.out_free (r : Int × Int × Int) : (ratio_Mul_V4.out r).free = true := rfl
def ratio_Mul_V4.sel (β : Type) (r : Int × Int × Int) (k : Res → Option β) : Option β := k (.ret (.tup [.agg [.int .i64 r.1, .int .i64 r.2.1], .int .i64 r.2.2]))
theorem ratio_Mul_V4.sel_ok (β : Type) (t : Int × Int × Int) (k : Res → Option β) : ratio_Mul_V4.sel β t k = k (ratio_Mul_V4.out t) := rfl
theorem ratio_Mul_V4.dec_ok (res : Res) (r : Int × Int × Int) (h : ratio_Mul_V4.dec res = some r) : res = ratio_Mul_V4.out r := by
  unfold ratio_Mul_V4.dec at h
  split at h <;> first | (cases h; rfl) | cases h
def ratio_Mul_V4.tells (f : Int → Int → Int → Int → Option (Int × Int × Int)) : Tells
  | [.agg [.int .i64 a0, .int .i64 a1], .agg [.int .i64 a2, .int .i64 a3]] => some (.mk (Int × Int × Int) (f a0 a1 a2 a3) ratio_Mul_V4.out ratio_Mul_V4.sel ratio_Mul_V4.sel_ok)
  | _ => none
def ratio_Mul_V4.ce (f : Int → Int → Int → Int → Option (Int × Int × Int)) : CE := ⟨[.agg [.int .i64, .int .i64], .agg [.int .i64, .int .i64]], .flat, ratio_Mul_V4.tells f⟩
theorem ratio_Mul_V4.ok (k : Nat) : CEOk Tryd.prog GW lay 24 (ratio_Mul_V4.ce (ratio_Mul.f k)) :=
  tells_simple (fun args w => by kernel_rfl) fun args τ x out sel ok r hs hx => by
    unfold ratio_Mul_V4.tells at hs
    split at hs
    · cases hs
      exact ⟨rfl, _, rfl, rfl, fun w hw => ratio_Mul.calls k _ _ _ _ r.1 r.2.1 r.2.2 w hx⟩
    · cases hs
def ratio_Sub_V4.out (r : Int × Int × Int) : Res := .ret (.tup [.agg [.int .i64 r.1, .int .i64 r.2.1], .int .i64 r.2.2])
def ratio_Sub_V4.dec : Res → Option (Int × Int × Int)
  | .ret (.tup [.agg [.int .i64 y0, .int .i64 y1], .int .i64 y2]) => some (y0, y1, y2)
  | _ => none
theorem ratio_Sub_V4.out_free (r : Int × Int × Int) : (ratio_Sub_V4.out r).free = true := rfl
def ratio_Sub_V4.sel (β : Type) (r : Int × Int × Int) (k : Res → Option β) : Option β := k (.ret (.tup [.agg [.int .i64 r.1, .int .i64 r.2.1], .int .i64 r.2.2]))
theorem ratio_Sub_V4.sel_ok (β : Type) (t : Int × Int × Int) (k : Res → Option β) : ratio_Sub_V4.sel β t k = k (ratio_Sub_V4.out t) := rfl
theorem ratio_Sub_V4.dec_ok (res : Res) (r : Int × Int × Int) (h : ratio_Sub_V4.dec res = some r) : res = ratio_Sub_V4.out r := by
  unfold ratio_Sub_V4.dec at h
  split at h <;> first | (cases h; rfl) | cases h
def ratio_Sub_V4.tells (f : Int → Int → Int → Int → Option (Int × Int × Int)) : Tells
  | [.agg [.int .i64 a0, .int .i64 a1], .agg [.int .i64 a2, .int .i64 a3]] => some (.mk (Int × Int × Int) (f a0 a1 a2 a3) ratio_Sub_V4.out ratio_Sub_V4.sel ratio_Sub_V4.sel_ok)
  | _ => none
def ratio_Sub_V4.ce (f : Int → Int → Int → Int → Option (Int × Int × Int)) : CE := ⟨[.agg [.int .i64, .int .i64], .agg [.int .i64, .int .i64]], .flat, ratio_Sub_V4.tells f⟩
theorem ratio_Sub_V4.ok (k : Nat) : CEOk Tryd.prog GW lay 25 (ratio_Sub_V4.ce (ratio_Sub.f k)) :=
  tells_simple (fun args w => by kernel_rfl) fun args τ x out sel ok r hs hx => by
    unfold ratio_Sub_V4.tells at hs
    split at hs
    · cases hs
      exact ⟨rfl, _, rfl, rfl, fun w hw => ratio_Sub.calls k _ _ _ _ r.1 r.2.1 r.2.2 w hx⟩
    · cases hs
def qx_greedy.Γ (f10 : Option (Bool)) (f15 : Int → Int → Int → Int → Option (Int × Int)) (f18 : Int → Int → Option (Int)) (f19 : Int → Int → Option (List (List D) × Int)) (f21 : Int → Int → Option (Int × Int × Int)) (f22 : Int → Int → Int → Int → Option (Int)) (f24 : Int → Int → Int → Int → Option (Int × Int × Int)) (f25 : Int → Int → Int → Int → Option (Int × Int × Int)) : List (Nat × CE) := [(10, partitalaw04_examples_V4.ce f10), (15, qx_length.ce f15), (18, partitalaw04_pick_V4.ce f18), (19, value_Split_V4.ce f19), (21, ratio_Of_V4.ce f21), (22, ratio_Compare_V4.ce f22), (24, ratio_Mul_V4.ce f24), (25, ratio_Sub_V4.ce f25)]
def qx_greedy.J9 : List (Nat × List Nat) := [(1, [19]), (2, [20]), (4, [5, 22, 23, 24, 25, 26, 27, 28]), (5, [29, 30, 31, 32, 33]), (6, [34, 35, 36, 37, 38, 39]), (8, [41, 42, 43, 44]), (10, [45]), (11, [47, 48]), (13, [49]), (14, [51, 52]), (15, [53, 54, 55, 56]), (16, [13, 57, 58, 59, 60, 61, 62]), (17, [63, 64, 65, 66, 67, 68, 69, 70, 71, 72, 73, 74, 75, 76]), (19, [15, 78, 79, 80, 81, 82, 83]), (20, [84, 85]), (21, [87, 88, 89, 90, 91, 92]), (22, [93, 94, 95, 96, 97]), (23, [98, 99, 100, 101, 102, 103, 104, 105, 106]), (26, [108, 109, 110]), (27, [112, 113]), (28, [114, 115, 116, 117, 118, 119, 120, 121, 122]), (30, [124]), (1000021, [21]), (1000040, [40]), (1000046, [46]), (1000050, [50]), (1000077, [77]), (1000086, [86]), (1000107, [107]), (1000111, [111]), (1000123, [123])]
def qx_greedy.L13.T : TS := ⟨[.junk, .junk, .bool, .bool, .ptr 0 0, .junk, .seq 23, .junk, .ptr 1 0, .int .i64, .int .i64, .junk, .junk, .junk, .junk, .junk, .junk, .junk, .junk, .junk, .junk, .junk, .junk, .junk, .junk, .junk, .junk, .junk, .junk, .junk, .junk, .junk, .junk, .junk, .junk, .junk, .junk, .junk, .junk, .junk, .junk, .junk, .junk, .junk, .junk, .junk, .junk, .junk, .junk, .junk, .junk, .junk, .junk, .junk, .junk, .junk, .junk, .junk, .junk, .junk, .junk, .junk, .junk, .junk, .junk, .junk, .junk, .junk, .junk, .junk, .junk, .junk, .junk, .junk, .junk, .junk, .junk, .junk, .junk, .junk, .junk, .junk, .junk, .junk, .junk, .junk, .junk, .junk, .junk, .junk, .junk, .junk, .junk, .junk, .junk, .junk, .junk, .junk, .junk, .junk, .junk, .junk, .junk, .junk, .junk, .junk, .junk, .junk, .junk, .junk, .junk, .junk, .junk, .junk, .junk, .junk, .junk, .junk, .junk, .junk, .junk, .junk, .junk, .junk, .junk], [.cells 25 [.int .i64, .int .i64] .own, .cells 25 [.int .i64, .int .i64] .own], 0, [(4, none), (8, none)]⟩
def qx_greedy.L13.X0 : TS := ⟨[.junk, .junk, .bool, .bool, .ptr 0 0, .junk, .seq 23, .junk, .ptr 1 0, .int .i64, .int .i64, .junk, .junk, .junk, .junk, .junk, .junk, .junk, .junk, .junk, .junk, .junk, .junk, .junk, .junk, .junk, .junk, .junk, .junk, .junk, .junk, .junk, .junk, .junk, .junk, .junk, .junk, .junk, .junk, .junk, .junk, .junk, .junk, .junk, .junk, .junk, .junk, .junk, .junk, .junk, .junk, .junk, .junk, .junk, .junk, .junk, .junk, .junk, .junk, .junk, .junk, .junk, .junk, .junk, .junk, .junk, .junk, .junk, .junk, .junk, .junk, .junk, .junk, .junk, .junk, .junk, .junk, .junk, .junk, .junk, .junk, .junk, .junk, .junk, .junk, .junk, .junk, .junk, .junk, .junk, .junk, .junk, .junk, .junk, .junk, .junk, .junk, .junk, .junk, .junk, .junk, .junk, .junk, .junk, .junk, .junk, .junk, .junk, .junk, .junk, .junk, .junk, .junk, .junk, .junk, .junk, .junk, .junk, .junk, .junk, .junk, .junk, .junk, .junk, .junk], [.cells 25 [.int .i64, .int .i64] .own, .cells 25 [.int .i64, .int .i64] .own], 0, [(4, none), (8, none)]⟩
def qx_greedy.L13.X1 : TS := ⟨[.junk, .junk, .bool, .junk, .junk, .junk, .junk, .junk, .junk, .junk, .junk, .junk, .junk, .junk, .junk, .junk, .junk, .junk, .junk, .junk, .junk, .junk, .junk, .junk, .junk, .junk, .junk, .junk, .junk, .junk, .junk, .junk, .junk, .junk, .junk, .junk, .junk, .junk, .junk, .junk, .junk, .junk, .junk, .junk, .junk, .junk, .junk, .junk, .junk, .junk, .junk, .junk, .junk, .junk, .junk, .junk, .junk, .junk, .junk, .junk, .junk, .junk, .junk, .junk, .junk, .junk, .junk, .junk, .junk, .junk, .junk, .junk, .junk, .junk, .junk, .junk, .junk, .junk, .junk, .junk, .junk, .junk, .junk, .junk, .junk, .junk, .junk, .junk, .junk, .junk, .junk, .junk, .junk, .junk, .junk, .junk, .junk, .junk, .junk, .junk, .junk, .junk, .junk, .junk, .junk, .junk, .junk, .junk, .junk, .junk, .junk, .junk, .junk, .junk, .junk, .junk, .junk, .junk, .junk, .junk, .junk, .junk, .junk, .junk, .junk], [], 0, []⟩
def qx_greedy.L13.X : List (Exit × TS) := [(.exit 2, qx_greedy.L13.X0), (.ret, qx_greedy.L13.X1)]
def qx_greedy.L13.dσ : List D → Option (Bool × Bool × List (List D) × Int × Int × Int × Int × Int × Int)
  | [.bool x0, .bool x1, .seq x2, .int x3, .int x4, .int x5, .int x6, .int x7, .int x8] => some (x0, x1, x2, x3, x4, x5, x6, x7, x8)
  | _ => none
def qx_greedy.L13.eσ (x : Bool × Bool × List (List D) × Int × Int × Int × Int × Int × Int) : List D := [.bool x.1, .bool x.2.1, .seq x.2.2.1, .int x.2.2.2.1, .int x.2.2.2.2.1, .int x.2.2.2.2.2.1, .int x.2.2.2.2.2.2.1, .int x.2.2.2.2.2.2.2.1, .int x.2.2.2.2.2.2.2.2]
def qx_greedy.L13.dτ : Nat → List D → Option ((Bool × Bool × List (List D) × Int × Int × Int × Int × Int × Int) ⊕ (Bool))
  | 0, [.bool y0, .bool y1, .seq y2, .int y3, .int y4, .int y5, .int y6, .int y7, .int y8] => some (.inl (y0, y1, y2, y3, y4, y5, y6, y7, y8))
  | 1, [.bool y0] => some (.inr y0)
  | _, _ => none
def qx_greedy.L13.eτ : (Bool × Bool × List (List D) × Int × Int × Int × Int × Int × Int) ⊕ (Bool) → Nat × List D
  | (.inl t) => (0, [.bool t.1, .bool t.2.1, .seq t.2.2.1, .int t.2.2.2.1, .int t.2.2.2.2.1, .int t.2.2.2.2.2.1, .int t.2.2.2.2.2.2.1, .int t.2.2.2.2.2.2.2.1, .int t.2.2.2.2.2.2.2.2])
  | (.inr t) => (1, [.bool t])
def qx_greedy.L13.sel (β : Type) (t : (Bool × Bool × List (List D) × Int × Int × Int × Int × Int × Int) ⊕ (Bool)) (k : Exit → Fr → Hp → Option β) : Option β := match t with
  | (.inl r) => k (.exit 2) (bldS qx_greedy.L13.X0 [.bool r.1, .bool r.2.1, .seq r.2.2.1, .int r.2.2.2.1, .int r.2.2.2.2.1, .int r.2.2.2.2.2.1, .int r.2.2.2.2.2.2.1, .int r.2.2.2.2.2.2.2.1, .int r.2.2.2.2.2.2.2.2]).1 (bldS qx_greedy.L13.X0 [.bool r.1, .bool r.2.1, .seq r.2.2.1, .int r.2.2.2.1, .int r.2.2.2.2.1, .int r.2.2.2.2.2.1, .int r.2.2.2.2.2.2.1, .int r.2.2.2.2.2.2.2.1, .int r.2.2.2.2.2.2.2.2]).2
  | (.inr r) => k (.ret) (bldS qx_greedy.L13.X1 [.bool r]).1 (bldS qx_greedy.L13.X1 [.bool r]).2
theorem qx_greedy.L13.sel_ok (β : Type) (t : (Bool × Bool × List (List D) × Int × Int × Int × Int × Int × Int) ⊕ (Bool)) (k : Exit → Fr → Hp → Option β) : qx_greedy.L13.sel β t k = k (endA qx_greedy.L13.X qx_greedy.L13.eτ t).1 (endA qx_greedy.L13.X qx_greedy.L13.eτ t).2.1 (endA qx_greedy.L13.X qx_greedy.L13.eτ t).2.2 := by rcases t with t | t <;> rfl
theorem qx_greedy.L13.dσ_ok (d : List D) (x : Bool × Bool × List (List D) × Int × Int × Int × Int × Int × Int) (h : qx_greedy.L13.dσ d = some x) : qx_greedy.L13.eσ x = d := by
  unfold qx_greedy.L13.dσ at h
  split at h <;> first | (cases h; rfl) | cases h
theorem qx_greedy.L13.dτ_ok (i : Nat) (d : List D) (t : (Bool × Bool × List (List D) × Int × Int × Int × Int × Int × Int) ⊕ (Bool)) (h : qx_greedy.L13.dτ i d = some t) : qx_greedy.L13.eτ t = (i, d) := by
  unfold qx_greedy.L13.dτ at h
  split at h <;> first | (cases h; rfl) | cases h
def qx_greedy.L13.S (K : Nat) (f10 : Option (Bool)) (f15 : Int → Int → Int → Int → Option (Int × Int)) (f18 : Int → Int → Option (Int)) (f19 : Int → Int → Option (List (List D) × Int)) (f21 : Int → Int → Option (Int × Int × Int)) (f22 : Int → Int → Int → Int → Option (Int)) (f24 : Int → Int → Int → Int → Option (Int × Int × Int)) (f25 : Int → Int → Int → Int → Option (Int × Int × Int)) (rec : (Bool × Bool × List (List D) × Int × Int × Int × Int × Int × Int) → Option ((Bool × Bool × List (List D) × Int × Int × Int × Int × Int × Int) ⊕ (Bool))) (x0 : Bool) (x1 : Bool) (x2 : List (List D)) (x3 : Int) (x4 : Int) (x5 : Int) (x6 : Int) (x7 : Int) (x8 : Int) : Option ((Bool × Bool × List (List D) × Int × Int × Int × Int × Int × Int) ⊕ (Bool)) :=
  bif decide (x4 ≤ (2 : Int)) then
    (f15 x3 x4 (0 : Int) (0 : Int)).bind fun v1 =>
      (f24 v1.fst v1.snd (64 : Int) (1 : Int)).bind fun v2 =>
        bif v2.snd.fst == (1 : Int) then
          (f22 v1.fst v1.snd x5 x6).bind fun v3 =>
            bif decide (v3 ≤ (0 : Int)) then
              (f22 v1.fst v1.snd x7 x8).bind fun v4 =>
                bif decide (v4 > (0 : Int)) then some (Sum.inr false)
                else rec (x0, x1, x2, x3, IntKind.i64.wrap (x4 + (1 : Int)), x5, x6, x7, x8)
            else rec (x0, x1, x2, x3, IntKind.i64.wrap (x4 + (1 : Int)), x5, x6, x7, x8)
        else rec (x0, x1, x2, x3, IntKind.i64.wrap (x4 + (1 : Int)), x5, x6, x7, x8)
  else some (Sum.inl (x0, x1, x2, x3, x4, x5, x6, x7, x8))
set_option maxRecDepth 100000 in
theorem qx_greedy.L13.step (K : Nat) (f10 : Option (Bool)) (f15 : Int → Int → Int → Int → Option (Int × Int)) (f18 : Int → Int → Option (Int)) (f19 : Int → Int → Option (List (List D) × Int)) (f21 : Int → Int → Option (Int × Int × Int)) (f22 : Int → Int → Int → Int → Option (Int)) (f24 : Int → Int → Int → Int → Option (Int × Int × Int)) (f25 : Int → Int → Int → Int → Option (Int × Int × Int)) (rec : (Bool × Bool × List (List D) × Int × Int × Int × Int × Int × Int) → Option ((Bool × Bool × List (List D) × Int × Int × Int × Int × Int × Int) ⊕ (Bool))) (x0 : Bool) (x1 : Bool) (x2 : List (List D)) (x3 : Int) (x4 : Int) (x5 : Int) (x6 : Int) (x7 : Int) (x8 : Int) : execA Tryd.prog lay (qx_greedy.Γ f10 f15 f18 f19 f21 f22 f24 f25) [] (inlA Tryd.prog lay (qx_greedy.Γ f10 f15 f18 f19 f21 f22 f24 f25) [] 3) ⟨qx_greedy.J9, [], 0⟩ 0 (loopAt Tryd.f9 1) (bldS qx_greedy.L13.T (qx_greedy.L13.eσ (x0, x1, x2, x3, x4, x5, x6, x7, x8))).1 (bldS qx_greedy.L13.T (qx_greedy.L13.eσ (x0, x1, x2, x3, x4, x5, x6, x7, x8))).2 (contA qx_greedy.L13.T qx_greedy.L13.X qx_greedy.L13.dσ qx_greedy.L13.dτ rec) = qx_greedy.L13.S K f10 f15 f18 f19 f21 f22 f24 f25 rec x0 x1 x2 x3 x4 x5 x6 x7 x8 := by kernel_rfl
def qx_greedy.L13 (K : Nat) (f10 : Option (Bool)) (f15 : Int → Int → Int → Int → Option (Int × Int)) (f18 : Int → Int → Option (Int)) (f19 : Int → Int → Option (List (List D) × Int)) (f21 : Int → Int → Option (Int × Int × Int)) (f22 : Int → Int → Int → Int → Option (Int)) (f24 : Int → Int → Int → Int → Option (Int × Int × Int)) (f25 : Int → Int → Int → Int → Option (Int × Int × Int)) : Nat → (Bool × Bool × List (List D) × Int × Int × Int × Int × Int × Int) → Option ((Bool × Bool × List (List D) × Int × Int × Int × Int × Int × Int) ⊕ (Bool))
  | 0, _ => none
  | k + 1, x => qx_greedy.L13.S K f10 f15 f18 f19 f21 f22 f24 f25 (qx_greedy.L13 K f10 f15 f18 f19 f21 f22 f24 f25 k) x.1 x.2.1 x.2.2.1 x.2.2.2.1 x.2.2.2.2.1 x.2.2.2.2.2.1 x.2.2.2.2.2.2.1 x.2.2.2.2.2.2.2.1 x.2.2.2.2.2.2.2.2
theorem qx_greedy.L13.ok (K : Nat) (f10 : Option (Bool)) (f15 : Int → Int → Int → Int → Option (Int × Int)) (f18 : Int → Int → Option (Int)) (f19 : Int → Int → Option (List (List D) × Int)) (f21 : Int → Int → Option (Int × Int × Int)) (f22 : Int → Int → Int → Int → Option (Int)) (f24 : Int → Int → Int → Int → Option (Int × Int × Int)) (f25 : Int → Int → Int → Int → Option (Int × Int × Int)) {B : Nat} {wB : World} (stab_ : ∀ w', Bel B wB w' → GW w') (hΓ_ : AllOk Tryd.prog GW lay (qx_greedy.Γ f10 f15 f18 f19 f21 f22 f24 f25)) (Kr : Nat) : LSOk Tryd.prog lay B wB [] 0 (sumA qx_greedy.L13.T qx_greedy.L13.X qx_greedy.L13.dσ qx_greedy.L13.eτ qx_greedy.L13.sel qx_greedy.L13.sel_ok (qx_greedy.L13 K f10 f15 f18 f19 f21 f22 f24 f25 Kr)) (loopAt Tryd.f9 1) :=
  loop_mk (by kernel_rfl) hΓ_ stab_ (inlA_ok (by kernel_rfl) hΓ_ stab_ in_nil 3) (C := ⟨qx_greedy.J9, [], 0⟩) (allL_of (l := []) (by kernel_rfl) allL_nil) (by decide) (by decide) qx_greedy.L13.dσ_ok qx_greedy.L13.dτ_ok (fun _ => rfl) (fun k x => (qx_greedy.L13.step K f10 f15 f18 f19 f21 f22 f24 f25 (qx_greedy.L13 K f10 f15 f18 f19 f21 f22 f24 f25 k) x.1 x.2.1 x.2.2.1 x.2.2.2.1 x.2.2.2.2.1 x.2.2.2.2.2.1 x.2.2.2.2.2.2.1 x.2.2.2.2.2.2.2.1 x.2.2.2.2.2.2.2.2).symm) Kr
def qx_greedy.L26.T : TS := ⟨[.junk, .junk, .bool, .bool, .junk, .junk, .seq 23, .junk, .junk, .junk, .junk, .junk, .junk, .junk, .junk, .junk, .seq 23, .junk, .int .i64, .junk, .junk, .junk, .junk, .junk, .junk, .junk, .junk, .junk, .junk, .junk, .junk, .junk, .junk, .junk, .junk, .junk, .junk, .junk, .junk, .junk, .junk, .junk, .junk, .junk, .junk, .junk, .junk, .junk, .junk, .junk, .junk, .junk, .junk, .junk, .junk, .junk, .junk, .junk, .junk, .junk, .junk, .junk, .junk, .junk, .junk, .junk, .junk, .junk, .junk, .junk, .junk, .junk, .junk, .junk, .junk, .junk, .junk, .junk, .junk, .junk, .junk, .junk, .junk, .junk, .junk, .junk, .junk, .junk, .junk, .junk, .junk, .junk, .junk, .junk, .junk, .junk, .junk, .junk, .junk, .junk, .junk, .junk, .junk, .junk, .junk, .junk, .junk, .junk, .junk, .junk, .junk, .junk, .junk, .junk, .junk, .junk, .junk, .junk, .junk, .junk, .junk, .junk, .junk, .junk, .junk], [], 0, []⟩
def qx_greedy.L26.X0 : TS := ⟨[.junk, .junk, .bool, .bool, .junk, .junk, .junk, .junk, .junk, .junk, .junk, .junk, .junk, .junk, .junk, .junk, .junk, .junk, .junk, .junk, .junk, .junk, .junk, .junk, .junk, .junk, .junk, .junk, .junk, .junk, .junk, .junk, .junk, .junk, .junk, .junk, .junk, .junk, .junk, .junk, .junk, .junk, .junk, .junk, .junk, .junk, .junk, .junk, .junk, .junk, .junk, .junk, .junk, .junk, .junk, .junk, .junk, .junk, .junk, .junk, .junk, .junk, .junk, .junk, .junk, .junk, .junk, .junk, .junk, .junk, .junk, .junk, .junk, .junk, .junk, .junk, .junk, .junk, .junk, .junk, .junk, .junk, .junk, .junk, .junk, .junk, .junk, .junk, .junk, .junk, .junk, .junk, .junk, .junk, .junk, .junk, .junk, .junk, .junk, .junk, .junk, .junk, .junk, .junk, .junk, .junk, .junk, .junk, .junk, .junk, .junk, .junk, .junk, .junk, .junk, .junk, .junk, .junk, .junk, .junk, .junk, .junk, .junk, .junk, .junk], [], 0, []⟩
def qx_greedy.L26.X1 : TS := ⟨[.junk, .junk, .bool, .junk, .junk, .junk, .junk, .junk, .junk, .junk, .junk, .junk, .junk, .junk, .junk, .junk, .junk, .junk, .junk, .junk, .junk, .junk, .junk, .junk, .junk, .junk, .junk, .junk, .junk, .junk, .junk, .junk, .junk, .junk, .junk, .junk, .junk, .junk, .junk, .junk, .junk, .junk, .junk, .junk, .junk, .junk, .junk, .junk, .junk, .junk, .junk, .junk, .junk, .junk, .junk, .junk, .junk, .junk, .junk, .junk, .junk, .junk, .junk, .junk, .junk, .junk, .junk, .junk, .junk, .junk, .junk, .junk, .junk, .junk, .junk, .junk, .junk, .junk, .junk, .junk, .junk, .junk, .junk, .junk, .junk, .junk, .junk, .junk, .junk, .junk, .junk, .junk, .junk, .junk, .junk, .junk, .junk, .junk, .junk, .junk, .junk, .junk, .junk, .junk, .junk, .junk, .junk, .junk, .junk, .junk, .junk, .junk, .junk, .junk, .junk, .junk, .junk, .junk, .junk, .junk, .junk, .junk, .junk, .junk, .junk], [], 0, []⟩
def qx_greedy.L26.X : List (Exit × TS) := [(.exit 4, qx_greedy.L26.X0), (.ret, qx_greedy.L26.X1)]
def qx_greedy.L26.dσ : List D → Option (Bool × Bool × List (List D) × List (List D) × Int)
  | [.bool x0, .bool x1, .seq x2, .seq x3, .int x4] => some (x0, x1, x2, x3, x4)
  | _ => none
def qx_greedy.L26.eσ (x : Bool × Bool × List (List D) × List (List D) × Int) : List D := [.bool x.1, .bool x.2.1, .seq x.2.2.1, .seq x.2.2.2.1, .int x.2.2.2.2]
def qx_greedy.L26.dτ : Nat → List D → Option ((Bool × Bool) ⊕ (Bool))
  | 0, [.bool y0, .bool y1] => some (.inl (y0, y1))
  | 1, [.bool y0] => some (.inr y0)
  | _, _ => none
def qx_greedy.L26.eτ : (Bool × Bool) ⊕ (Bool) → Nat × List D
  | (.inl t) => (0, [.bool t.1, .bool t.2])
  | (.inr t) => (1, [.bool t])
def qx_greedy.L26.sel (β : Type) (t : (Bool × Bool) ⊕ (Bool)) (k : Exit → Fr → Hp → Option β) : Option β := match t with
  | (.inl r) => k (.exit 4) (bldS qx_greedy.L26.X0 [.bool r.1, .bool r.2]).1 (bldS qx_greedy.L26.X0 [.bool r.1, .bool r.2]).2
  | (.inr r) => k (.ret) (bldS qx_greedy.L26.X1 [.bool r]).1 (bldS qx_greedy.L26.X1 [.bool r]).2
theorem qx_greedy.L26.sel_ok (β : Type) (t : (Bool × Bool) ⊕ (Bool)) (k : Exit → Fr → Hp → Option β) : qx_greedy.L26.sel β t k = k (endA qx_greedy.L26.X qx_greedy.L26.eτ t).1 (endA qx_greedy.L26.X qx_greedy.L26.eτ t).2.1 (endA qx_greedy.L26.X qx_greedy.L26.eτ t).2.2 := by rcases t with t | t <;> rfl
theorem qx_greedy.L26.dσ_ok (d : List D) (x : Bool × Bool × List (List D) × List (List D) × Int) (h : qx_greedy.L26.dσ d = some x) : qx_greedy.L26.eσ x = d := by
  unfold qx_greedy.L26.dσ at h
  split at h <;> first | (cases h; rfl) | cases h
theorem qx_greedy.L26.dτ_ok (i : Nat) (d : List D) (t : (Bool × Bool) ⊕ (Bool)) (h : qx_greedy.L26.dτ i d = some t) : qx_greedy.L26.eτ t = (i, d) := by
  unfold qx_greedy.L26.dτ at h
  split at h <;> first | (cases h; rfl) | cases h
def qx_greedy.L26.S (K : Nat) (f10 : Option (Bool)) (f15 : Int → Int → Int → Int → Option (Int × Int)) (f18 : Int → Int → Option (Int)) (f19 : Int → Int → Option (List (List D) × Int)) (f21 : Int → Int → Option (Int × Int × Int)) (f22 : Int → Int → Int → Int → Option (Int)) (f24 : Int → Int → Int → Int → Option (Int × Int × Int)) (f25 : Int → Int → Int → Int → Option (Int × Int × Int)) (rec : (Bool × Bool × List (List D) × List (List D) × Int) → Option ((Bool × Bool) ⊕ (Bool))) (x0 : Bool) (x1 : Bool) (x2 : List (List D)) (x3 : List (List D)) (x4 : Int) : Option ((Bool × Bool) ⊕ (Bool)) :=
  bif decide (x4 < (↑x3.length : Int)) then
    if (0 : Int) ≤ x4 ∧ x4 < (↑x3.length : Int) then
      if (0 : Int) ≤ IntKind.i64.wrap (x4 + (1 : Int)) ∧ IntKind.i64.wrap (x4 + (1 : Int)) < (↑x2.length : Int) then
        bif
            !((D.at x3 x4.toNat (0 : Nat)).toInt == (D.at x2 (IntKind.i64.wrap (x4 + (1 : Int))).toNat (0 : Nat)).toInt &&
                ((D.at x3 x4.toNat (1 : Nat)).toInt ==
                    (D.at x2 (IntKind.i64.wrap (x4 + (1 : Int))).toNat (1 : Nat)).toInt &&
                  ((D.at x3 x4.toNat (2 : Nat)).toInt ==
                      (D.at x2 (IntKind.i64.wrap (x4 + (1 : Int))).toNat (2 : Nat)).toInt &&
                    ((D.at x3 x4.toNat (3 : Nat)).toInt ==
                        (D.at x2 (IntKind.i64.wrap (x4 + (1 : Int))).toNat (3 : Nat)).toInt &&
                      true)))) then
          some (Sum.inr false)
        else rec (x0, x1, x2, x3, IntKind.i64.wrap (x4 + (1 : Int)))
      else none
    else none
  else some (Sum.inl (x0, x1))
set_option maxRecDepth 100000 in
theorem qx_greedy.L26.step (K : Nat) (f10 : Option (Bool)) (f15 : Int → Int → Int → Int → Option (Int × Int)) (f18 : Int → Int → Option (Int)) (f19 : Int → Int → Option (List (List D) × Int)) (f21 : Int → Int → Option (Int × Int × Int)) (f22 : Int → Int → Int → Int → Option (Int)) (f24 : Int → Int → Int → Int → Option (Int × Int × Int)) (f25 : Int → Int → Int → Int → Option (Int × Int × Int)) (rec : (Bool × Bool × List (List D) × List (List D) × Int) → Option ((Bool × Bool) ⊕ (Bool))) (x0 : Bool) (x1 : Bool) (x2 : List (List D)) (x3 : List (List D)) (x4 : Int) : execA Tryd.prog lay (qx_greedy.Γ f10 f15 f18 f19 f21 f22 f24 f25) [] (inlA Tryd.prog lay (qx_greedy.Γ f10 f15 f18 f19 f21 f22 f24 f25) [] 3) ⟨qx_greedy.J9, [], 0⟩ 0 (loopAt Tryd.f9 2) (bldS qx_greedy.L26.T (qx_greedy.L26.eσ (x0, x1, x2, x3, x4))).1 (bldS qx_greedy.L26.T (qx_greedy.L26.eσ (x0, x1, x2, x3, x4))).2 (contA qx_greedy.L26.T qx_greedy.L26.X qx_greedy.L26.dσ qx_greedy.L26.dτ rec) = qx_greedy.L26.S K f10 f15 f18 f19 f21 f22 f24 f25 rec x0 x1 x2 x3 x4 := by kernel_rfl
def qx_greedy.L26 (K : Nat) (f10 : Option (Bool)) (f15 : Int → Int → Int → Int → Option (Int × Int)) (f18 : Int → Int → Option (Int)) (f19 : Int → Int → Option (List (List D) × Int)) (f21 : Int → Int → Option (Int × Int × Int)) (f22 : Int → Int → Int → Int → Option (Int)) (f24 : Int → Int → Int → Int → Option (Int × Int × Int)) (f25 : Int → Int → Int → Int → Option (Int × Int × Int)) : Nat → (Bool × Bool × List (List D) × List (List D) × Int) → Option ((Bool × Bool) ⊕ (Bool))
  | 0, _ => none
  | k + 1, x => qx_greedy.L26.S K f10 f15 f18 f19 f21 f22 f24 f25 (qx_greedy.L26 K f10 f15 f18 f19 f21 f22 f24 f25 k) x.1 x.2.1 x.2.2.1 x.2.2.2.1 x.2.2.2.2
theorem qx_greedy.L26.ok (K : Nat) (f10 : Option (Bool)) (f15 : Int → Int → Int → Int → Option (Int × Int)) (f18 : Int → Int → Option (Int)) (f19 : Int → Int → Option (List (List D) × Int)) (f21 : Int → Int → Option (Int × Int × Int)) (f22 : Int → Int → Int → Int → Option (Int)) (f24 : Int → Int → Int → Int → Option (Int × Int × Int)) (f25 : Int → Int → Int → Int → Option (Int × Int × Int)) {B : Nat} {wB : World} (stab_ : ∀ w', Bel B wB w' → GW w') (hΓ_ : AllOk Tryd.prog GW lay (qx_greedy.Γ f10 f15 f18 f19 f21 f22 f24 f25)) (Kr : Nat) : LSOk Tryd.prog lay B wB [] 0 (sumA qx_greedy.L26.T qx_greedy.L26.X qx_greedy.L26.dσ qx_greedy.L26.eτ qx_greedy.L26.sel qx_greedy.L26.sel_ok (qx_greedy.L26 K f10 f15 f18 f19 f21 f22 f24 f25 Kr)) (loopAt Tryd.f9 2) :=
  loop_mk (by kernel_rfl) hΓ_ stab_ (inlA_ok (by kernel_rfl) hΓ_ stab_ in_nil 3) (C := ⟨qx_greedy.J9, [], 0⟩) (allL_of (l := []) (by kernel_rfl) allL_nil) (by decide) (by decide) qx_greedy.L26.dσ_ok qx_greedy.L26.dτ_ok (fun _ => rfl) (fun k x => (qx_greedy.L26.step K f10 f15 f18 f19 f21 f22 f24 f25 (qx_greedy.L26 K f10 f15 f18 f19 f21 f22 f24 f25 k) x.1 x.2.1 x.2.2.1 x.2.2.2.1 x.2.2.2.2).symm) Kr
def qx_greedy.L10.T : TS := ⟨[.junk, .junk, .bool, .bool, .ptr 0 0, .junk, .seq 23, .junk, .ptr 1 0, .int .i64, .junk, .junk, .junk, .junk, .junk, .junk, .junk, .junk, .junk, .junk, .junk, .junk, .junk, .junk, .junk, .junk, .junk, .junk, .junk, .junk, .junk, .junk, .junk, .junk, .junk, .junk, .junk, .junk, .junk, .junk, .junk, .junk, .junk, .junk, .junk, .junk, .junk, .junk, .junk, .junk, .junk, .junk, .junk, .junk, .junk, .junk, .junk, .junk, .junk, .junk, .junk, .junk, .junk, .junk, .junk, .junk, .junk, .junk, .junk, .junk, .junk, .junk, .junk, .junk, .junk, .junk, .junk, .junk, .junk, .junk, .junk, .junk, .junk, .junk, .junk, .junk, .junk, .junk, .junk, .junk, .junk, .junk, .junk, .junk, .junk, .junk, .junk, .junk, .junk, .junk, .junk, .junk, .junk, .junk, .junk, .junk, .junk, .junk, .junk, .junk, .junk, .junk, .junk, .junk, .junk, .junk, .junk, .junk, .junk, .junk, .junk, .junk, .junk, .junk, .junk], [.cells 25 [.int .i64, .int .i64] .own, .cells 25 [.int .i64, .int .i64] .own], 0, [(4, none), (8, none)]⟩
def qx_greedy.L10.X0 : TS := ⟨[.junk, .junk, .bool, .bool, .ptr 0 0, .junk, .seq 23, .junk, .ptr 1 0, .junk, .junk, .junk, .junk, .junk, .junk, .junk, .junk, .junk, .junk, .junk, .junk, .junk, .junk, .junk, .junk, .junk, .junk, .junk, .junk, .junk, .junk, .junk, .junk, .junk, .junk, .junk, .junk, .junk, .junk, .junk, .junk, .junk, .junk, .junk, .junk, .junk, .junk, .junk, .junk, .junk, .junk, .junk, .junk, .junk, .junk, .junk, .junk, .junk, .junk, .junk, .junk, .junk, .junk, .junk, .junk, .junk, .junk, .junk, .junk, .junk, .junk, .junk, .junk, .junk, .junk, .junk, .junk, .junk, .junk, .junk, .junk, .junk, .junk, .junk, .junk, .junk, .junk, .junk, .junk, .junk, .junk, .junk, .junk, .junk, .junk, .junk, .junk, .junk, .junk, .junk, .junk, .junk, .junk, .junk, .junk, .junk, .junk, .junk, .junk, .junk, .junk, .junk, .junk, .junk, .junk, .junk, .junk, .junk, .junk, .junk, .junk, .junk, .junk, .junk, .junk], [.cells 25 [.int .i64, .int .i64] .own, .cells 25 [.int .i64, .int .i64] .own], 0, [(4, none), (8, none)]⟩
def qx_greedy.L10.X1 : TS := ⟨[.junk, .junk, .bool, .junk, .junk, .junk, .junk, .junk, .junk, .junk, .junk, .junk, .junk, .junk, .junk, .junk, .junk, .junk, .junk, .junk, .junk, .junk, .junk, .junk, .junk, .junk, .junk, .junk, .junk, .junk, .junk, .junk, .junk, .junk, .junk, .junk, .junk, .junk, .junk, .junk, .junk, .junk, .junk, .junk, .junk, .junk, .junk, .junk, .junk, .junk, .junk, .junk, .junk, .junk, .junk, .junk, .junk, .junk, .junk, .junk, .junk, .junk, .junk, .junk, .junk, .junk, .junk, .junk, .junk, .junk, .junk, .junk, .junk, .junk, .junk, .junk, .junk, .junk, .junk, .junk, .junk, .junk, .junk, .junk, .junk, .junk, .junk, .junk, .junk, .junk, .junk, .junk, .junk, .junk, .junk, .junk, .junk, .junk, .junk, .junk, .junk, .junk, .junk, .junk, .junk, .junk, .junk, .junk, .junk, .junk, .junk, .junk, .junk, .junk, .junk, .junk, .junk, .junk, .junk, .junk, .junk, .junk, .junk, .junk, .junk], [], 0, []⟩
def qx_greedy.L10.X : List (Exit × TS) := [(.exit 0, qx_greedy.L10.X0), (.ret, qx_greedy.L10.X1)]
def qx_greedy.L10.dσ : List D → Option (Bool × Bool × List (List D) × Int × Int × Int × Int × Int)
  | [.bool x0, .bool x1, .seq x2, .int x3, .int x4, .int x5, .int x6, .int x7] => some (x0, x1, x2, x3, x4, x5, x6, x7)
  | _ => none
def qx_greedy.L10.eσ (x : Bool × Bool × List (List D) × Int × Int × Int × Int × Int) : List D := [.bool x.1, .bool x.2.1, .seq x.2.2.1, .int x.2.2.2.1, .int x.2.2.2.2.1, .int x.2.2.2.2.2.1, .int x.2.2.2.2.2.2.1, .int x.2.2.2.2.2.2.2]
def qx_greedy.L10.dτ : Nat → List D → Option ((Bool × Bool × List (List D) × Int × Int × Int × Int) ⊕ (Bool))
  | 0, [.bool y0, .bool y1, .seq y2, .int y3, .int y4, .int y5, .int y6] => some (.inl (y0, y1, y2, y3, y4, y5, y6))
  | 1, [.bool y0] => some (.inr y0)
  | _, _ => none
def qx_greedy.L10.eτ : (Bool × Bool × List (List D) × Int × Int × Int × Int) ⊕ (Bool) → Nat × List D
  | (.inl t) => (0, [.bool t.1, .bool t.2.1, .seq t.2.2.1, .int t.2.2.2.1, .int t.2.2.2.2.1, .int t.2.2.2.2.2.1, .int t.2.2.2.2.2.2])
  | (.inr t) => (1, [.bool t])
def qx_greedy.L10.sel (β : Type) (t : (Bool × Bool × List (List D) × Int × Int × Int × Int) ⊕ (Bool)) (k : Exit → Fr → Hp → Option β) : Option β := match t with
  | (.inl r) => k (.exit 0) (bldS qx_greedy.L10.X0 [.bool r.1, .bool r.2.1, .seq r.2.2.1, .int r.2.2.2.1, .int r.2.2.2.2.1, .int r.2.2.2.2.2.1, .int r.2.2.2.2.2.2]).1 (bldS qx_greedy.L10.X0 [.bool r.1, .bool r.2.1, .seq r.2.2.1, .int r.2.2.2.1, .int r.2.2.2.2.1, .int r.2.2.2.2.2.1, .int r.2.2.2.2.2.2]).2
  | (.inr r) => k (.ret) (bldS qx_greedy.L10.X1 [.bool r]).1 (bldS qx_greedy.L10.X1 [.bool r]).2
theorem qx_greedy.L10.sel_ok (β : Type) (t : (Bool × Bool × List (List D) × Int × Int × Int × Int) ⊕ (Bool)) (k : Exit → Fr → Hp → Option β) : qx_greedy.L10.sel β t k = k (endA qx_greedy.L10.X qx_greedy.L10.eτ t).1 (endA qx_greedy.L10.X qx_greedy.L10.eτ t).2.1 (endA qx_greedy.L10.X qx_greedy.L10.eτ t).2.2 := by rcases t with t | t <;> rfl
theorem qx_greedy.L10.dσ_ok (d : List D) (x : Bool × Bool × List (List D) × Int × Int × Int × Int × Int) (h : qx_greedy.L10.dσ d = some x) : qx_greedy.L10.eσ x = d := by
  unfold qx_greedy.L10.dσ at h
  split at h <;> first | (cases h; rfl) | cases h
theorem qx_greedy.L10.dτ_ok (i : Nat) (d : List D) (t : (Bool × Bool × List (List D) × Int × Int × Int × Int) ⊕ (Bool)) (h : qx_greedy.L10.dτ i d = some t) : qx_greedy.L10.eτ t = (i, d) := by
  unfold qx_greedy.L10.dτ at h
  split at h <;> first | (cases h; rfl) | cases h
def qx_greedy.L10.S (K : Nat) (f10 : Option (Bool)) (f15 : Int → Int → Int → Int → Option (Int × Int)) (f18 : Int → Int → Option (Int)) (f19 : Int → Int → Option (List (List D) × Int)) (f21 : Int → Int → Option (Int × Int × Int)) (f22 : Int → Int → Int → Int → Option (Int)) (f24 : Int → Int → Int → Int → Option (Int × Int × Int)) (f25 : Int → Int → Int → Int → Option (Int × Int × Int)) (rec : (Bool × Bool × List (List D) × Int × Int × Int × Int × Int) → Option ((Bool × Bool × List (List D) × Int × Int × Int × Int) ⊕ (Bool))) (x0 : Bool) (x1 : Bool) (x2 : List (List D)) (x3 : Int) (x4 : Int) (x5 : Int) (x6 : Int) (x7 : Int) : Option ((Bool × Bool × List (List D) × Int × Int × Int × Int) ⊕ (Bool)) :=
  bif decide (x3 ≤ (6 : Int)) then
    (qx_greedy.L13 K f10 f15 f18 f19 f21 f22 f24 f25 K (x0, x1, x2, x3, (0 : Int), x4, x5, x6, x7)).bind fun v1 =>
      Sum.elim
        (fun v2 =>
          rec
            (v2.fst, v2.snd.fst, v2.snd.snd.fst, IntKind.i64.wrap (v2.snd.snd.snd.fst + (1 : Int)),
              v2.snd.snd.snd.snd.snd.fst, v2.snd.snd.snd.snd.snd.snd.fst, v2.snd.snd.snd.snd.snd.snd.snd.fst,
              v2.snd.snd.snd.snd.snd.snd.snd.snd))
        (fun v3 => some (Sum.inr v3)) v1
  else some (Sum.inl (x0, x1, x2, x4, x5, x6, x7))
set_option maxRecDepth 100000 in
theorem qx_greedy.L10.step (K : Nat) (f10 : Option (Bool)) (f15 : Int → Int → Int → Int → Option (Int × Int)) (f18 : Int → Int → Option (Int)) (f19 : Int → Int → Option (List (List D) × Int)) (f21 : Int → Int → Option (Int × Int × Int)) (f22 : Int → Int → Int → Int → Option (Int)) (f24 : Int → Int → Int → Int → Option (Int × Int × Int)) (f25 : Int → Int → Int → Int → Option (Int × Int × Int)) (rec : (Bool × Bool × List (List D) × Int × Int × Int × Int × Int) → Option ((Bool × Bool × List (List D) × Int × Int × Int × Int) ⊕ (Bool))) (x0 : Bool) (x1 : Bool) (x2 : List (List D)) (x3 : Int) (x4 : Int) (x5 : Int) (x6 : Int) (x7 : Int) : execA Tryd.prog lay (qx_greedy.Γ f10 f15 f18 f19 f21 f22 f24 f25) [] (inlA Tryd.prog lay (qx_greedy.Γ f10 f15 f18 f19 f21 f22 f24 f25) [] 3) ⟨qx_greedy.J9, [(13, 0, sumA qx_greedy.L13.T qx_greedy.L13.X qx_greedy.L13.dσ qx_greedy.L13.eτ qx_greedy.L13.sel qx_greedy.L13.sel_ok (qx_greedy.L13 K f10 f15 f18 f19 f21 f22 f24 f25 K))], 0⟩ 0 (loopAt Tryd.f9 0) (bldS qx_greedy.L10.T (qx_greedy.L10.eσ (x0, x1, x2, x3, x4, x5, x6, x7))).1 (bldS qx_greedy.L10.T (qx_greedy.L10.eσ (x0, x1, x2, x3, x4, x5, x6, x7))).2 (contA qx_greedy.L10.T qx_greedy.L10.X qx_greedy.L10.dσ qx_greedy.L10.dτ rec) = qx_greedy.L10.S K f10 f15 f18 f19 f21 f22 f24 f25 rec x0 x1 x2 x3 x4 x5 x6 x7 := by kernel_rfl
def qx_greedy.L10 (K : Nat) (f10 : Option (Bool)) (f15 : Int → Int → Int → Int → Option (Int × Int)) (f18 : Int → Int → Option (Int)) (f19 : Int → Int → Option (List (List D) × Int)) (f21 : Int → Int → Option (Int × Int × Int)) (f22 : Int → Int → Int → Int → Option (Int)) (f24 : Int → Int → Int → Int → Option (Int × Int × Int)) (f25 : Int → Int → Int → Int → Option (Int × Int × Int)) : Nat → (Bool × Bool × List (List D) × Int × Int × Int × Int × Int) → Option ((Bool × Bool × List (List D) × Int × Int × Int × Int) ⊕ (Bool))
  | 0, _ => none
  | k + 1, x => qx_greedy.L10.S K f10 f15 f18 f19 f21 f22 f24 f25 (qx_greedy.L10 K f10 f15 f18 f19 f21 f22 f24 f25 k) x.1 x.2.1 x.2.2.1 x.2.2.2.1 x.2.2.2.2.1 x.2.2.2.2.2.1 x.2.2.2.2.2.2.1 x.2.2.2.2.2.2.2
theorem qx_greedy.L10.ok (K : Nat) (f10 : Option (Bool)) (f15 : Int → Int → Int → Int → Option (Int × Int)) (f18 : Int → Int → Option (Int)) (f19 : Int → Int → Option (List (List D) × Int)) (f21 : Int → Int → Option (Int × Int × Int)) (f22 : Int → Int → Int → Int → Option (Int)) (f24 : Int → Int → Int → Int → Option (Int × Int × Int)) (f25 : Int → Int → Int → Int → Option (Int × Int × Int)) {B : Nat} {wB : World} (stab_ : ∀ w', Bel B wB w' → GW w') (hΓ_ : AllOk Tryd.prog GW lay (qx_greedy.Γ f10 f15 f18 f19 f21 f22 f24 f25)) (Kr : Nat) : LSOk Tryd.prog lay B wB [] 0 (sumA qx_greedy.L10.T qx_greedy.L10.X qx_greedy.L10.dσ qx_greedy.L10.eτ qx_greedy.L10.sel qx_greedy.L10.sel_ok (qx_greedy.L10 K f10 f15 f18 f19 f21 f22 f24 f25 Kr)) (loopAt Tryd.f9 0) :=
  loop_mk (by kernel_rfl) hΓ_ stab_ (inlA_ok (by kernel_rfl) hΓ_ stab_ in_nil 3) (C := ⟨qx_greedy.J9, [(13, 0, sumA qx_greedy.L13.T qx_greedy.L13.X qx_greedy.L13.dσ qx_greedy.L13.eτ qx_greedy.L13.sel qx_greedy.L13.sel_ok (qx_greedy.L13 K f10 f15 f18 f19 f21 f22 f24 f25 K))], 0⟩) (allL_of (l := [loopAt Tryd.f9 1]) (by kernel_rfl) (allL_cons (by kernel_rfl) (qx_greedy.L13.ok K f10 f15 f18 f19 f21 f22 f24 f25 stab_ hΓ_ K) allL_nil)) (by decide) (by decide) qx_greedy.L10.dσ_ok qx_greedy.L10.dτ_ok (fun _ => rfl) (fun k x => (qx_greedy.L10.step K f10 f15 f18 f19 f21 f22 f24 f25 (qx_greedy.L10 K f10 f15 f18 f19 f21 f22 f24 f25 k) x.1 x.2.1 x.2.2.1 x.2.2.2.1 x.2.2.2.2.1 x.2.2.2.2.2.1 x.2.2.2.2.2.2.1 x.2.2.2.2.2.2.2).symm) Kr
def qx_greedy.t (K : Nat) (f10 : Option (Bool)) (f15 : Int → Int → Int → Int → Option (Int × Int)) (f18 : Int → Int → Option (Int)) (f19 : Int → Int → Option (List (List D) × Int)) (f21 : Int → Int → Option (Int × Int × Int)) (f22 : Int → Int → Int → Int → Option (Int)) (f24 : Int → Int → Int → Int → Option (Int × Int × Int)) (f25 : Int → Int → Int → Int → Option (Int × Int × Int)) (a0 : Int) : Option (Bool) :=
  f10.bind fun v1 =>
    bif !v1 then some false
    else
      (f18 a0 (4096 : Int)).bind fun v2 =>
        (f21 (IntKind.i64.wrap ((1 : Int) + v2)) (64 : Int)).bind fun v3 =>
          (f19 v3.fst v3.snd.fst).bind fun v4 =>
            bif !v4.snd == (0 : Int) then some false
            else
              bif (↑v4.fst.length : Int) == (0 : Int) then some false
              else
                if (0 : Int) ≤ (0 : Int) ∧ (0 : Int) < (↑v4.fst.length : Int) then
                  (f15 (D.at v4.fst (Int.toNat (0 : Int)) (0 : Nat)).toInt
                        (D.at v4.fst (Int.toNat (0 : Int)) (1 : Nat)).toInt
                        (D.at v4.fst (Int.toNat (0 : Int)) (2 : Nat)).toInt
                        (D.at v4.fst (Int.toNat (0 : Int)) (3 : Nat)).toInt).bind
                    fun v5 =>
                    (qx_greedy.L10 K f10 f15 f18 f19 f21 f22 f24 f25 K
                          (false, v1, v4.fst, (0 : Int), v3.fst, v3.snd.fst, v5.fst, v5.snd)).bind
                      fun v6 =>
                      Sum.elim
                        (fun v7 =>
                          (f25 v7.snd.snd.snd.fst v7.snd.snd.snd.snd.fst v7.snd.snd.snd.snd.snd.fst
                                v7.snd.snd.snd.snd.snd.snd).bind
                            fun v8 =>
                            bif v8.fst == (0 : Int) then
                              bif v7.snd.fst then some ((↑v7.snd.snd.fst.length : Int) == (1 : Int)) else some false
                            else
                              (f19 v8.fst v8.snd.fst).bind fun v9 =>
                                bif !v9.snd == (0 : Int) then some false
                                else
                                  bif
                                      !(↑v9.fst.length : Int) ==
                                          IntKind.i64.wrap ((↑v7.snd.snd.fst.length : Int) - (1 : Int)) then
                                    some false
                                  else
                                    (qx_greedy.L26 K f10 f15 f18 f19 f21 f22 f24 f25 K
                                          (v7.fst, v7.snd.fst, v7.snd.snd.fst, v9.fst, (0 : Int))).bind
                                      fun v10 => Sum.elim (fun v11 => some v11.snd) (fun v12 => some v12) v10)
                        (fun v13 => some v13) v6
                else none
set_option maxRecDepth 100000 in
theorem qx_greedy.run (K : Nat) (f10 : Option (Bool)) (f15 : Int → Int → Int → Int → Option (Int × Int)) (f18 : Int → Int → Option (Int)) (f19 : Int → Int → Option (List (List D) × Int)) (f21 : Int → Int → Option (Int × Int × Int)) (f22 : Int → Int → Int → Int → Option (Int)) (f24 : Int → Int → Int → Int → Option (Int × Int × Int)) (f25 : Int → Int → Int → Int → Option (Int × Int × Int)) (a0 : Int) : runA Tryd.prog lay (qx_greedy.Γ f10 f15 f18 f19 f21 f22 f24 f25) [] [] 3 ⟨qx_greedy.J9, [(10, 0, sumA qx_greedy.L10.T qx_greedy.L10.X qx_greedy.L10.dσ qx_greedy.L10.eτ qx_greedy.L10.sel qx_greedy.L10.sel_ok (qx_greedy.L10 K f10 f15 f18 f19 f21 f22 f24 f25 K)), (13, 0, sumA qx_greedy.L13.T qx_greedy.L13.X qx_greedy.L13.dσ qx_greedy.L13.eτ qx_greedy.L13.sel qx_greedy.L13.sel_ok (qx_greedy.L13 K f10 f15 f18 f19 f21 f22 f24 f25 K)), (26, 0, sumA qx_greedy.L26.T qx_greedy.L26.X qx_greedy.L26.dσ qx_greedy.L26.eτ qx_greedy.L26.sel qx_greedy.L26.sel_ok (qx_greedy.L26 K f10 f15 f18 f19 f21 f22 f24 f25 K))], 0⟩ Tryd.f9 [.int .i64 a0] [] [.one (.bool)] qx_greedy.dec = qx_greedy.t K f10 f15 f18 f19 f21 f22 f24 f25 a0 := by kernel_rfl
def qx_greedy.f (k : Nat) (a0 : Int) : Option (Bool) := qx_greedy.t k (partitalaw04_examples.f k) (qx_length.f k) (partitalaw04_pick.f) (fun a0 a1 => (value_Split.f k a0 a1).map fun r => (r.1.map row23, r.2)) (ratio_Of.f k) (ratio_Compare.f k) (ratio_Mul.f k) (ratio_Sub.f k) a0
theorem qx_greedy.allOk (k : Nat) : AllOk Tryd.prog GW lay (qx_greedy.Γ (partitalaw04_examples.f k) (qx_length.f k) (partitalaw04_pick.f) (fun a0 a1 => (value_Split.f k a0 a1).map fun r => (r.1.map row23, r.2)) (ratio_Of.f k) (ratio_Compare.f k) (ratio_Mul.f k) (ratio_Sub.f k)) := (allOk_cons (partitalaw04_examples_V4.ok k) (allOk_cons (qx_length.ok k) (allOk_cons (partitalaw04_pick_V4.ok k) (allOk_cons (value_Split_V4.ok k) (allOk_cons (ratio_Of_V4.ok k) (allOk_cons (ratio_Compare_V4.ok k) (allOk_cons (ratio_Mul_V4.ok k) (allOk_cons (ratio_Sub_V4.ok k) allOk_nil))))))))
theorem qx_greedy.walks (k : Nat) (a0 : Int) (h : qx_greedy.f k a0 = some true) {w : World} (hw_ : GW w) {vs : Array Value} {G1 : Gh} (h1_ : G1.lay = lay) (himm_ : ∀ b o, G1.imm b o → b < w.heap.size) (hl_ : AV.isL G1 w [.int .i64 a0] vs.toList) :
    Calls Tryd.prog 9 vs w fun e w' => e = .returned (.bool true) ∧ Below w.heap.size w w' := by
  have hΓ_ := qx_greedy.allOk k
  unfold qx_greedy.f at h
  have hr_ := qx_greedy.run k (partitalaw04_examples.f k) (qx_length.f k) (partitalaw04_pick.f) (fun a0 a1 => (value_Split.f k a0 a1).map fun r => (r.1.map row23, r.2)) (ratio_Of.f k) (ratio_Compare.f k) (ratio_Mul.f k) (ratio_Sub.f k) a0
  rw [h] at hr_
  refine law_mk (by kernel_rfl) hΓ_ Tryd.func9 (fun w w' h hb => h.step hb) no_globals (fun B wB stab_ => in_nil) (C := ⟨qx_greedy.J9, [(10, 0, sumA qx_greedy.L10.T qx_greedy.L10.X qx_greedy.L10.dσ qx_greedy.L10.eτ qx_greedy.L10.sel qx_greedy.L10.sel_ok (qx_greedy.L10 k (partitalaw04_examples.f k) (qx_length.f k) (partitalaw04_pick.f) (fun a0 a1 => (value_Split.f k a0 a1).map fun r => (r.1.map row23, r.2)) (ratio_Of.f k) (ratio_Compare.f k) (ratio_Mul.f k) (ratio_Sub.f k) k)), (13, 0, sumA qx_greedy.L13.T qx_greedy.L13.X qx_greedy.L13.dσ qx_greedy.L13.eτ qx_greedy.L13.sel qx_greedy.L13.sel_ok (qx_greedy.L13 k (partitalaw04_examples.f k) (qx_length.f k) (partitalaw04_pick.f) (fun a0 a1 => (value_Split.f k a0 a1).map fun r => (r.1.map row23, r.2)) (ratio_Of.f k) (ratio_Compare.f k) (ratio_Mul.f k) (ratio_Sub.f k) k)), (26, 0, sumA qx_greedy.L26.T qx_greedy.L26.X qx_greedy.L26.dσ qx_greedy.L26.eτ qx_greedy.L26.sel qx_greedy.L26.sel_ok (qx_greedy.L26 k (partitalaw04_examples.f k) (qx_length.f k) (partitalaw04_pick.f) (fun a0 a1 => (value_Split.f k a0 a1).map fun r => (r.1.map row23, r.2)) (ratio_Of.f k) (ratio_Compare.f k) (ratio_Mul.f k) (ratio_Sub.f k) k))], 0⟩) (fun B wB stab_ => bodyL (allL_of (l := [loopAt Tryd.f9 0, loopAt Tryd.f9 1, loopAt Tryd.f9 2]) (by kernel_rfl) (allL_cons (by kernel_rfl) (qx_greedy.L10.ok k (partitalaw04_examples.f k) (qx_length.f k) (partitalaw04_pick.f) (fun a0 a1 => (value_Split.f k a0 a1).map fun r => (r.1.map row23, r.2)) (ratio_Of.f k) (ratio_Compare.f k) (ratio_Mul.f k) (ratio_Sub.f k) stab_ hΓ_ k) (allL_cons (by kernel_rfl) (qx_greedy.L13.ok k (partitalaw04_examples.f k) (qx_length.f k) (partitalaw04_pick.f) (fun a0 a1 => (value_Split.f k a0 a1).map fun r => (r.1.map row23, r.2)) (ratio_Of.f k) (ratio_Compare.f k) (ratio_Mul.f k) (ratio_Sub.f k) stab_ hΓ_ k) (allL_cons (by kernel_rfl) (qx_greedy.L26.ok k (partitalaw04_examples.f k) (qx_length.f k) (partitalaw04_pick.f) (fun a0 a1 => (value_Split.f k a0 a1).map fun r => (r.1.map row23, r.2)) (ratio_Of.f k) (ratio_Compare.f k) (ratio_Mul.f k) (ratio_Sub.f k) stab_ hΓ_ k) allL_nil))))) (d := 3) (rk := [.one (.bool)]) (dec := qx_greedy.dec) ?hr (fun res h => qx_greedy.dec_ok res _ h) (by kernel_rfl) hw_ h1_ himm_ hl_
  exact hr_
def partitalaw04_ValueGreedy.Pure : Prop := ∀ (a0 : Int), (Lit.int .i64 a0).wf = true → ∃ k, qx_greedy.f k a0 = some true
theorem partitalaw04_ValueGreedy.walk (P : partitalaw04_ValueGreedy.Pure) (a0 : Int) (w : World) (hG_ : GW w) (w0 : (Lit.int .i64 a0).wf = true) :
    Calls Tryd.prog 9 #[.int .i64 a0] w fun e w' => e = .returned (.bool true) ∧ Below w.heap.size w w' := by
  obtain ⟨k, h⟩ := P a0 w0
  exact qx_greedy.walks k a0 h hG_ (G1 := ⟨fun _ => 0, 0, fun _ _ => False, fun _ => undef, fun _ => 0, fun _ => [], lay⟩) rfl (fun _ _ q => q.elim) ((AV.denL_is _ _ [.int .i64 a0] _ rfl).2 rfl)

end Go.Proofs.YtajbnfidcpfonaaDoor.M
