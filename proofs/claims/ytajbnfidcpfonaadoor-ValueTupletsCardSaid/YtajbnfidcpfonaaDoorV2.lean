/- Go functions as the machine tells them. -/
import Derived.Test.YtajbnfidcpfonaaDoorProg
import Derived.Test.YtajbnfidcpfonaaDoorQ10
import Derived.Test.YtajbnfidcpfonaaDoorM0
import Derived.Test.YtajbnfidcpfonaaDoorGSeq
import Derived.Test.YtajbnfidcpfonaaDoorM15
import Derived.Test.YtajbnfidcpfonaaDoorM17
import Derived.Test.YtajbnfidcpfonaaDoorM4
import Derived.Test.YtajbnfidcpfonaaDoorV0
set_option linter.unusedVariables false
set_option linter.unusedSimpArgs false
set_option maxRecDepth 100000
namespace Go.Proofs.YtajbnfidcpfonaaDoor.M
open Go Go.RowKit Go.Proofs Go.Proofs.Qx Go.Proofs.YtajbnfidcpfonaaDoorW.PrintWords Go.Proofs.YtajbnfidcpfonaaDoorW.PrintLast Go.Proofs.YtajbnfidcpfonaaDoorW.PrintMore

/-! ### partita/partitalaw04.ValueTuplets: function 6 -/
def qx_tuplets.out (r : Bool) : Res := .ret (.bool r)
def qx_tuplets.dec : Res → Option (Bool)
  | .ret (.bool y0) => some y0
  | _ => none
theorem qx_tuplets.out_free (r : Bool) : (qx_tuplets.out r).free = true := rfl
def qx_tuplets.sel (β : Type) (r : Bool) (k : Res → Option β) : Option β := k (.ret (.bool r))
theorem qx_tuplets.sel_ok (β : Type) (t : Bool) (k : Res → Option β) : qx_tuplets.sel β t k = k (qx_tuplets.out t) := rfl
theorem qx_tuplets.dec_ok (res : Res) (r : Bool) (h : qx_tuplets.dec res = some r) : res = qx_tuplets.out r := by
  unfold qx_tuplets.dec at h
  split at h <;> first | (cases h; rfl) | cases h
def qx_tuplets.tells (f : Int → Int → Int → Int → Option (Bool)) : Tells
  | [.agg [.int .i64 a0, .int .i64 a1, .int .i64 a2, .int .i64 a3]] => some (.mk (Bool) (f a0 a1 a2 a3) qx_tuplets.out qx_tuplets.sel qx_tuplets.sel_ok)
  | _ => none
def qx_tuplets.ce (f : Int → Int → Int → Int → Option (Bool)) : CE := ⟨[.agg [.int .i64, .int .i64, .int .i64, .int .i64]], .flat, qx_tuplets.tells f⟩
def partitalaw04_examples_V2.out (r : Bool) : Res := .ret (.bool r)
def partitalaw04_examples_V2.dec : Res → Option (Bool)
  | .ret (.bool y0) => some y0
  | _ => none
theorem partitalaw04_examples_V2.out_free (r : Bool) : (partitalaw04_examples_V2.out r).free = true := rfl
def partitalaw04_examples_V2.sel (β : Type) (r : Bool) (k : Res → Option β) : Option β := k (.ret (.bool r))
theorem partitalaw04_examples_V2.sel_ok (β : Type) (t : Bool) (k : Res → Option β) : partitalaw04_examples_V2.sel β t k = k (partitalaw04_examples_V2.out t) := rfl
theorem partitalaw04_examples_V2.dec_ok (res : Res) (r : Bool) (h : partitalaw04_examples_V2.dec res = some r) : res = partitalaw04_examples_V2.out r := by
  unfold partitalaw04_examples_V2.dec at h
  split at h <;> first | (cases h; rfl) | cases h
def partitalaw04_examples_V2.tells (f : Option (Bool)) : Tells
  | [] => some (.mk (Bool) (f ) partitalaw04_examples_V2.out partitalaw04_examples_V2.sel partitalaw04_examples_V2.sel_ok)
  | _ => none
def partitalaw04_examples_V2.ce (f : Option (Bool)) : CE := ⟨[], .flat, partitalaw04_examples_V2.tells f⟩
theorem partitalaw04_examples_V2.ok (k : Nat) : CEOk Tryd.prog GW lay 10 (partitalaw04_examples_V2.ce (partitalaw04_examples.f k)) :=
  tells_simple (fun args w => by kernel_rfl) fun args τ x out sel ok r hs hx => by
    unfold partitalaw04_examples_V2.tells at hs
    split at hs
    · cases hs
      exact ⟨rfl, _, rfl, rfl, fun w hw => partitalaw04_examples.calls k  r w hw hx⟩
    · cases hs
def value_Right_V2.out (r : Bool) : Res := .ret (.bool r)
def value_Right_V2.dec : Res → Option (Bool)
  | .ret (.bool y0) => some y0
  | _ => none
theorem value_Right_V2.out_free (r : Bool) : (value_Right_V2.out r).free = true := rfl
def value_Right_V2.sel (β : Type) (r : Bool) (k : Res → Option β) : Option β := k (.ret (.bool r))
theorem value_Right_V2.sel_ok (β : Type) (t : Bool) (k : Res → Option β) : value_Right_V2.sel β t k = k (value_Right_V2.out t) := rfl
theorem value_Right_V2.dec_ok (res : Res) (r : Bool) (h : value_Right_V2.dec res = some r) : res = value_Right_V2.out r := by
  unfold value_Right_V2.dec at h
  split at h <;> first | (cases h; rfl) | cases h
def value_Right_V2.tells (f : Int → Int → Int → Int → Option (Bool)) : Tells
  | [.agg [.int .i64 a0, .int .i64 a1, .int .i64 a2, .int .i64 a3]] => some (.mk (Bool) (f a0 a1 a2 a3) value_Right_V2.out value_Right_V2.sel value_Right_V2.sel_ok)
  | _ => none
def value_Right_V2.ce (f : Int → Int → Int → Int → Option (Bool)) : CE := ⟨[.agg [.int .i64, .int .i64, .int .i64, .int .i64]], .flat, value_Right_V2.tells f⟩
theorem value_Right_V2.ok (k : Nat) : CEOk Tryd.prog GW lay 13 (value_Right_V2.ce (value_Right.f k)) :=
  tells_simple (fun args w => by kernel_rfl) fun args τ x out sel ok r hs hx => by
    unfold value_Right_V2.tells at hs
    split at hs
    · cases hs
      exact ⟨rfl, _, rfl, rfl, fun w hw => value_Right.calls k _ _ _ _ r w hx⟩
    · cases hs
def partitalaw04_Value_V2.out (r : Int × Int × Int × Int) : Res := .ret (.agg [.int .i64 r.1, .int .i64 r.2.1, .int .i64 r.2.2.1, .int .i64 r.2.2.2])
def partitalaw04_Value_V2.dec : Res → Option (Int × Int × Int × Int)
  | .ret (.agg [.int .i64 y0, .int .i64 y1, .int .i64 y2, .int .i64 y3]) => some (y0, y1, y2, y3)
  | _ => none
theorem partitalaw04_Value_V2.out_free (r : Int × Int × Int × Int) : (partitalaw04_Value_V2.out r).free = true := rfl
def partitalaw04_Value_V2.sel (β : Type) (r : Int × Int × Int × Int) (k : Res → Option β) : Option β := k (.ret (.agg [.int .i64 r.1, .int .i64 r.2.1, .int .i64 r.2.2.1, .int .i64 r.2.2.2]))
theorem partitalaw04_Value_V2.sel_ok (β : Type) (t : Int × Int × Int × Int) (k : Res → Option β) : partitalaw04_Value_V2.sel β t k = k (partitalaw04_Value_V2.out t) := rfl
theorem partitalaw04_Value_V2.dec_ok (res : Res) (r : Int × Int × Int × Int) (h : partitalaw04_Value_V2.dec res = some r) : res = partitalaw04_Value_V2.out r := by
  unfold partitalaw04_Value_V2.dec at h
  split at h <;> first | (cases h; rfl) | cases h
def partitalaw04_Value_V2.tells (f : Int → Int → Int → Int → Option (Int × Int × Int × Int)) : Tells
  | [.agg [.int .i64 a0, .int .i64 a1, .int .i64 a2, .int .i64 a3]] => some (.mk (Int × Int × Int × Int) (f a0 a1 a2 a3) partitalaw04_Value_V2.out partitalaw04_Value_V2.sel partitalaw04_Value_V2.sel_ok)
  | _ => none
def partitalaw04_Value_V2.ce (f : Int → Int → Int → Int → Option (Int × Int × Int × Int)) : CE := ⟨[.agg [.int .i64, .int .i64, .int .i64, .int .i64]], .flat, partitalaw04_Value_V2.tells f⟩
theorem partitalaw04_Value_V2.ok (k : Nat) : CEOk Tryd.prog GW lay 14 (partitalaw04_Value_V2.ce (partitalaw04_Value.f)) :=
  tells_simple (fun args w => by kernel_rfl) fun args τ x out sel ok r hs hx => by
    unfold partitalaw04_Value_V2.tells at hs
    split at hs
    · cases hs
      exact ⟨rfl, _, rfl, rfl, fun w hw => partitalaw04_Value.calls _ _ _ _ r.1 r.2.1 r.2.2.1 r.2.2.2 w hx⟩
    · cases hs
def qx_tuplets.Γ (f10 : Option (Bool)) (f13 : Int → Int → Int → Int → Option (Bool)) (f14 : Int → Int → Int → Int → Option (Int × Int × Int × Int)) (f20 : (List (List D)) → Option (Int × Int × Bool)) : List (Nat × CE) := [(10, partitalaw04_examples_V2.ce f10), (13, value_Right_V2.ce f13), (14, partitalaw04_Value_V2.ce f14), (20, qx_sum.ce f20)]
def qx_tuplets.J6 : List (Nat × List Nat) := [(1, [14]), (2, [15]), (4, [17, 18]), (5, [19, 20, 21, 22, 23]), (6, [24, 25]), (7, [27]), (8, [28]), (12, [29, 30, 31]), (13, [33, 34]), (14, [35, 36, 37, 38]), (16, [39, 40, 41]), (17, [43, 44]), (18, [45, 46, 47, 48]), (19, [49, 50, 51, 52, 53]), (20, [54, 55, 56, 57, 58]), (21, [59, 60, 61, 62, 63, 64, 65, 66, 67, 68, 69, 70, 71, 72, 73, 74, 75, 76, 77, 78]), (1000016, [16]), (1000026, [26]), (1000032, [32]), (1000042, [42])]
def qx_tuplets.L12.T : TS := ⟨[.junk, .junk, .bool, .bool, .ptr 0 0, .ptr 1 0, .rs 2 0, .nil, .int .i64, .junk, .junk, .junk, .junk, .junk, .junk, .junk, .junk, .junk, .junk, .junk, .junk, .junk, .junk, .junk, .junk, .junk, .junk, .junk, .junk, .junk, .junk, .junk, .junk, .junk, .junk, .junk, .junk, .junk, .junk, .junk, .junk, .junk, .junk, .junk, .junk, .junk, .junk, .junk, .junk, .junk, .junk, .junk, .junk, .junk, .junk, .junk, .junk, .junk, .junk, .junk, .junk, .junk, .junk, .junk, .junk, .junk, .junk, .junk, .junk, .junk, .junk, .junk, .junk, .junk, .junk, .junk, .junk, .junk, .junk], [.cells 23 [.int .i64, .int .i64, .int .i64, .int .i64] .own, .cells 23 [.int .i64, .int .i64, .int .i64, .int .i64] .own, .row 23 true 0], 0, [(4, none), (5, none), (6, none)]⟩
def qx_tuplets.L12.X0 : TS := ⟨[.junk, .junk, .bool, .bool, .ptr 0 0, .ptr 1 0, .rs 2 0, .nil, .junk, .junk, .junk, .junk, .junk, .junk, .junk, .junk, .junk, .junk, .junk, .junk, .junk, .junk, .junk, .junk, .junk, .junk, .junk, .junk, .junk, .junk, .junk, .junk, .junk, .junk, .junk, .junk, .junk, .junk, .junk, .junk, .junk, .junk, .junk, .junk, .junk, .junk, .junk, .junk, .junk, .junk, .junk, .junk, .junk, .junk, .junk, .junk, .junk, .junk, .junk, .junk, .junk, .junk, .junk, .junk, .junk, .junk, .junk, .junk, .junk, .junk, .junk, .junk, .junk, .junk, .junk, .junk, .junk, .junk, .junk], [.cells 23 [.int .i64, .int .i64, .int .i64, .int .i64] .own, .cells 23 [.int .i64, .int .i64, .int .i64, .int .i64] .own, .row 23 true 0], 0, [(4, none), (5, none), (6, none)]⟩
def qx_tuplets.L12.X : List (Exit × TS) := [(.exit 0, qx_tuplets.L12.X0)]
def qx_tuplets.L12.dσ : List D → Option (Bool × Bool × Int × Int × Int × Int × Int × Int × Int × Int × Int × List (List D))
  | [.bool x0, .bool x1, .int x2, .int x3, .int x4, .int x5, .int x6, .int x7, .int x8, .int x9, .int x10, .seq x11] => some (x0, x1, x2, x3, x4, x5, x6, x7, x8, x9, x10, x11)
  | _ => none
def qx_tuplets.L12.eσ (x : Bool × Bool × Int × Int × Int × Int × Int × Int × Int × Int × Int × List (List D)) : List D := [.bool x.1, .bool x.2.1, .int x.2.2.1, .int x.2.2.2.1, .int x.2.2.2.2.1, .int x.2.2.2.2.2.1, .int x.2.2.2.2.2.2.1, .int x.2.2.2.2.2.2.2.1, .int x.2.2.2.2.2.2.2.2.1, .int x.2.2.2.2.2.2.2.2.2.1, .int x.2.2.2.2.2.2.2.2.2.2.1, .seq x.2.2.2.2.2.2.2.2.2.2.2]
def qx_tuplets.L12.dτ : Nat → List D → Option (Bool × Bool × Int × Int × Int × Int × Int × Int × Int × Int × List (List D))
  | 0, [.bool y0, .bool y1, .int y2, .int y3, .int y4, .int y5, .int y6, .int y7, .int y8, .int y9, .seq y10] => some (y0, y1, y2, y3, y4, y5, y6, y7, y8, y9, y10)
  | _, _ => none
def qx_tuplets.L12.eτ (t : Bool × Bool × Int × Int × Int × Int × Int × Int × Int × Int × List (List D)) : Nat × List D := (0, [.bool t.1, .bool t.2.1, .int t.2.2.1, .int t.2.2.2.1, .int t.2.2.2.2.1, .int t.2.2.2.2.2.1, .int t.2.2.2.2.2.2.1, .int t.2.2.2.2.2.2.2.1, .int t.2.2.2.2.2.2.2.2.1, .int t.2.2.2.2.2.2.2.2.2.1, .seq t.2.2.2.2.2.2.2.2.2.2])
def qx_tuplets.L12.sel (β : Type) (t : Bool × Bool × Int × Int × Int × Int × Int × Int × Int × Int × List (List D)) (k : Exit → Fr → Hp → Option β) : Option β := k (.exit 0) (bldS qx_tuplets.L12.X0 [.bool t.1, .bool t.2.1, .int t.2.2.1, .int t.2.2.2.1, .int t.2.2.2.2.1, .int t.2.2.2.2.2.1, .int t.2.2.2.2.2.2.1, .int t.2.2.2.2.2.2.2.1, .int t.2.2.2.2.2.2.2.2.1, .int t.2.2.2.2.2.2.2.2.2.1, .seq t.2.2.2.2.2.2.2.2.2.2]).1 (bldS qx_tuplets.L12.X0 [.bool t.1, .bool t.2.1, .int t.2.2.1, .int t.2.2.2.1, .int t.2.2.2.2.1, .int t.2.2.2.2.2.1, .int t.2.2.2.2.2.2.1, .int t.2.2.2.2.2.2.2.1, .int t.2.2.2.2.2.2.2.2.1, .int t.2.2.2.2.2.2.2.2.2.1, .seq t.2.2.2.2.2.2.2.2.2.2]).2
theorem qx_tuplets.L12.sel_ok (β : Type) (t : Bool × Bool × Int × Int × Int × Int × Int × Int × Int × Int × List (List D)) (k : Exit → Fr → Hp → Option β) : qx_tuplets.L12.sel β t k = k (endA qx_tuplets.L12.X qx_tuplets.L12.eτ t).1 (endA qx_tuplets.L12.X qx_tuplets.L12.eτ t).2.1 (endA qx_tuplets.L12.X qx_tuplets.L12.eτ t).2.2 := by rfl
theorem qx_tuplets.L12.dσ_ok (d : List D) (x : Bool × Bool × Int × Int × Int × Int × Int × Int × Int × Int × Int × List (List D)) (h : qx_tuplets.L12.dσ d = some x) : qx_tuplets.L12.eσ x = d := by
  unfold qx_tuplets.L12.dσ at h
  split at h <;> first | (cases h; rfl) | cases h
theorem qx_tuplets.L12.dτ_ok (i : Nat) (d : List D) (t : Bool × Bool × Int × Int × Int × Int × Int × Int × Int × Int × List (List D)) (h : qx_tuplets.L12.dτ i d = some t) : qx_tuplets.L12.eτ t = (i, d) := by
  unfold qx_tuplets.L12.dτ at h
  split at h <;> first | (cases h; rfl) | cases h
def qx_tuplets.L12.S (K : Nat) (f10 : Option (Bool)) (f13 : Int → Int → Int → Int → Option (Bool)) (f14 : Int → Int → Int → Int → Option (Int × Int × Int × Int)) (f20 : (List (List D)) → Option (Int × Int × Bool)) (rec : (Bool × Bool × Int × Int × Int × Int × Int × Int × Int × Int × Int × List (List D)) → Option (Bool × Bool × Int × Int × Int × Int × Int × Int × Int × Int × List (List D))) (x0 : Bool) (x1 : Bool) (x2 : Int) (x3 : Int) (x4 : Int) (x5 : Int) (x6 : Int) (x7 : Int) (x8 : Int) (x9 : Int) (x10 : Int) (x11 : List (List D)) : Option (Bool × Bool × Int × Int × Int × Int × Int × Int × Int × Int × List (List D)) :=
  bif decide (x2 < x5) then
    if x11.length + (1 : Nat) ≤ (1073741824 : Nat) then
      rec
        (x0, x1, IntKind.i64.wrap (x2 + (1 : Int)), x3, x4, x5, x6, x7, x8, x9, x10,
          x11 ++ [[D.int x3, D.int x4, D.int x5, D.int x6]])
    else none
  else some (x0, x1, x3, x4, x5, x6, x7, x8, x9, x10, x11)
set_option maxRecDepth 100000 in
theorem qx_tuplets.L12.step (K : Nat) (f10 : Option (Bool)) (f13 : Int → Int → Int → Int → Option (Bool)) (f14 : Int → Int → Int → Int → Option (Int × Int × Int × Int)) (f20 : (List (List D)) → Option (Int × Int × Bool)) (rec : (Bool × Bool × Int × Int × Int × Int × Int × Int × Int × Int × Int × List (List D)) → Option (Bool × Bool × Int × Int × Int × Int × Int × Int × Int × Int × List (List D))) (x0 : Bool) (x1 : Bool) (x2 : Int) (x3 : Int) (x4 : Int) (x5 : Int) (x6 : Int) (x7 : Int) (x8 : Int) (x9 : Int) (x10 : Int) (x11 : List (List D)) : execA Tryd.prog lay (qx_tuplets.Γ f10 f13 f14 f20) [] (inlA Tryd.prog lay (qx_tuplets.Γ f10 f13 f14 f20) [] 3) ⟨qx_tuplets.J6, [], 0⟩ 0 (loopAt Tryd.f6 0) (bldS qx_tuplets.L12.T (qx_tuplets.L12.eσ (x0, x1, x2, x3, x4, x5, x6, x7, x8, x9, x10, x11))).1 (bldS qx_tuplets.L12.T (qx_tuplets.L12.eσ (x0, x1, x2, x3, x4, x5, x6, x7, x8, x9, x10, x11))).2 (contA qx_tuplets.L12.T qx_tuplets.L12.X qx_tuplets.L12.dσ qx_tuplets.L12.dτ rec) = qx_tuplets.L12.S K f10 f13 f14 f20 rec x0 x1 x2 x3 x4 x5 x6 x7 x8 x9 x10 x11 := by kernel_rfl
def qx_tuplets.L12 (K : Nat) (f10 : Option (Bool)) (f13 : Int → Int → Int → Int → Option (Bool)) (f14 : Int → Int → Int → Int → Option (Int × Int × Int × Int)) (f20 : (List (List D)) → Option (Int × Int × Bool)) : Nat → (Bool × Bool × Int × Int × Int × Int × Int × Int × Int × Int × Int × List (List D)) → Option (Bool × Bool × Int × Int × Int × Int × Int × Int × Int × Int × List (List D))
  | 0, _ => none
  | k + 1, x => qx_tuplets.L12.S K f10 f13 f14 f20 (qx_tuplets.L12 K f10 f13 f14 f20 k) x.1 x.2.1 x.2.2.1 x.2.2.2.1 x.2.2.2.2.1 x.2.2.2.2.2.1 x.2.2.2.2.2.2.1 x.2.2.2.2.2.2.2.1 x.2.2.2.2.2.2.2.2.1 x.2.2.2.2.2.2.2.2.2.1 x.2.2.2.2.2.2.2.2.2.2.1 x.2.2.2.2.2.2.2.2.2.2.2
theorem qx_tuplets.L12.ok (K : Nat) (f10 : Option (Bool)) (f13 : Int → Int → Int → Int → Option (Bool)) (f14 : Int → Int → Int → Int → Option (Int × Int × Int × Int)) (f20 : (List (List D)) → Option (Int × Int × Bool)) {B : Nat} {wB : World} (stab_ : ∀ w', Bel B wB w' → GW w') (hΓ_ : AllOk Tryd.prog GW lay (qx_tuplets.Γ f10 f13 f14 f20)) (Kr : Nat) : LSOk Tryd.prog lay B wB [] 0 (sumA qx_tuplets.L12.T qx_tuplets.L12.X qx_tuplets.L12.dσ qx_tuplets.L12.eτ qx_tuplets.L12.sel qx_tuplets.L12.sel_ok (qx_tuplets.L12 K f10 f13 f14 f20 Kr)) (loopAt Tryd.f6 0) :=
  loop_mk (by kernel_rfl) hΓ_ stab_ (inlA_ok (by kernel_rfl) hΓ_ stab_ in_nil 3) (C := ⟨qx_tuplets.J6, [], 0⟩) (allL_of (l := []) (by kernel_rfl) allL_nil) (by decide) (by decide) qx_tuplets.L12.dσ_ok qx_tuplets.L12.dτ_ok (fun _ => rfl) (fun k x => (qx_tuplets.L12.step K f10 f13 f14 f20 (qx_tuplets.L12 K f10 f13 f14 f20 k) x.1 x.2.1 x.2.2.1 x.2.2.2.1 x.2.2.2.2.1 x.2.2.2.2.2.1 x.2.2.2.2.2.2.1 x.2.2.2.2.2.2.2.1 x.2.2.2.2.2.2.2.2.1 x.2.2.2.2.2.2.2.2.2.1 x.2.2.2.2.2.2.2.2.2.2.1 x.2.2.2.2.2.2.2.2.2.2.2).symm) Kr
def qx_tuplets.L16.T : TS := ⟨[.junk, .junk, .bool, .bool, .ptr 0 0, .ptr 1 0, .rs 2 0, .rs 3 0, .junk, .int .i64, .junk, .junk, .junk, .junk, .junk, .junk, .junk, .junk, .junk, .junk, .junk, .junk, .junk, .junk, .junk, .junk, .junk, .junk, .junk, .junk, .junk, .junk, .junk, .junk, .junk, .junk, .junk, .junk, .junk, .junk, .junk, .junk, .junk, .junk, .junk, .junk, .junk, .junk, .junk, .junk, .junk, .junk, .junk, .junk, .junk, .junk, .junk, .junk, .junk, .junk, .junk, .junk, .junk, .junk, .junk, .junk, .junk, .junk, .junk, .junk, .junk, .junk, .junk, .junk, .junk, .junk, .junk, .junk, .junk], [.cells 23 [.int .i64, .int .i64, .int .i64, .int .i64] .own, .cells 23 [.int .i64, .int .i64, .int .i64, .int .i64] .own, .row 23 true 0, .row 23 true 0], 0, [(4, none), (5, none), (6, none), (7, none)]⟩
def qx_tuplets.L16.X0 : TS := ⟨[.junk, .junk, .bool, .bool, .ptr 0 0, .ptr 1 0, .rs 2 0, .rs 3 0, .junk, .junk, .junk, .junk, .junk, .junk, .junk, .junk, .junk, .junk, .junk, .junk, .junk, .junk, .junk, .junk, .junk, .junk, .junk, .junk, .junk, .junk, .junk, .junk, .junk, .junk, .junk, .junk, .junk, .junk, .junk, .junk, .junk, .junk, .junk, .junk, .junk, .junk, .junk, .junk, .junk, .junk, .junk, .junk, .junk, .junk, .junk, .junk, .junk, .junk, .junk, .junk, .junk, .junk, .junk, .junk, .junk, .junk, .junk, .junk, .junk, .junk, .junk, .junk, .junk, .junk, .junk, .junk, .junk, .junk, .junk], [.cells 23 [.int .i64, .int .i64, .int .i64, .int .i64] .own, .cells 23 [.int .i64, .int .i64, .int .i64, .int .i64] .own, .row 23 true 0, .row 23 true 0], 0, [(4, none), (5, none), (6, none), (7, none)]⟩
def qx_tuplets.L16.X : List (Exit × TS) := [(.exit 2, qx_tuplets.L16.X0)]
def qx_tuplets.L16.dσ : List D → Option (Bool × Bool × Int × Int × Int × Int × Int × Int × Int × Int × Int × List (List D) × List (List D))
  | [.bool x0, .bool x1, .int x2, .int x3, .int x4, .int x5, .int x6, .int x7, .int x8, .int x9, .int x10, .seq x11, .seq x12] => some (x0, x1, x2, x3, x4, x5, x6, x7, x8, x9, x10, x11, x12)
  | _ => none
def qx_tuplets.L16.eσ (x : Bool × Bool × Int × Int × Int × Int × Int × Int × Int × Int × Int × List (List D) × List (List D)) : List D := [.bool x.1, .bool x.2.1, .int x.2.2.1, .int x.2.2.2.1, .int x.2.2.2.2.1, .int x.2.2.2.2.2.1, .int x.2.2.2.2.2.2.1, .int x.2.2.2.2.2.2.2.1, .int x.2.2.2.2.2.2.2.2.1, .int x.2.2.2.2.2.2.2.2.2.1, .int x.2.2.2.2.2.2.2.2.2.2.1, .seq x.2.2.2.2.2.2.2.2.2.2.2.1, .seq x.2.2.2.2.2.2.2.2.2.2.2.2]
def qx_tuplets.L16.dτ : Nat → List D → Option (Bool × Bool × Int × Int × Int × Int × Int × Int × Int × Int × List (List D) × List (List D))
  | 0, [.bool y0, .bool y1, .int y2, .int y3, .int y4, .int y5, .int y6, .int y7, .int y8, .int y9, .seq y10, .seq y11] => some (y0, y1, y2, y3, y4, y5, y6, y7, y8, y9, y10, y11)
  | _, _ => none
def qx_tuplets.L16.eτ (t : Bool × Bool × Int × Int × Int × Int × Int × Int × Int × Int × List (List D) × List (List D)) : Nat × List D := (0, [.bool t.1, .bool t.2.1, .int t.2.2.1, .int t.2.2.2.1, .int t.2.2.2.2.1, .int t.2.2.2.2.2.1, .int t.2.2.2.2.2.2.1, .int t.2.2.2.2.2.2.2.1, .int t.2.2.2.2.2.2.2.2.1, .int t.2.2.2.2.2.2.2.2.2.1, .seq t.2.2.2.2.2.2.2.2.2.2.1, .seq t.2.2.2.2.2.2.2.2.2.2.2])
def qx_tuplets.L16.sel (β : Type) (t : Bool × Bool × Int × Int × Int × Int × Int × Int × Int × Int × List (List D) × List (List D)) (k : Exit → Fr → Hp → Option β) : Option β := k (.exit 2) (bldS qx_tuplets.L16.X0 [.bool t.1, .bool t.2.1, .int t.2.2.1, .int t.2.2.2.1, .int t.2.2.2.2.1, .int t.2.2.2.2.2.1, .int t.2.2.2.2.2.2.1, .int t.2.2.2.2.2.2.2.1, .int t.2.2.2.2.2.2.2.2.1, .int t.2.2.2.2.2.2.2.2.2.1, .seq t.2.2.2.2.2.2.2.2.2.2.1, .seq t.2.2.2.2.2.2.2.2.2.2.2]).1 (bldS qx_tuplets.L16.X0 [.bool t.1, .bool t.2.1, .int t.2.2.1, .int t.2.2.2.1, .int t.2.2.2.2.1, .int t.2.2.2.2.2.1, .int t.2.2.2.2.2.2.1, .int t.2.2.2.2.2.2.2.1, .int t.2.2.2.2.2.2.2.2.1, .int t.2.2.2.2.2.2.2.2.2.1, .seq t.2.2.2.2.2.2.2.2.2.2.1, .seq t.2.2.2.2.2.2.2.2.2.2.2]).2
theorem qx_tuplets.L16.sel_ok (β : Type) (t : Bool × Bool × Int × Int × Int × Int × Int × Int × Int × Int × List (List D) × List (List D)) (k : Exit → Fr → Hp → Option β) : qx_tuplets.L16.sel β t k = k (endA qx_tuplets.L16.X qx_tuplets.L16.eτ t).1 (endA qx_tuplets.L16.X qx_tuplets.L16.eτ t).2.1 (endA qx_tuplets.L16.X qx_tuplets.L16.eτ t).2.2 := by rfl
theorem qx_tuplets.L16.dσ_ok (d : List D) (x : Bool × Bool × Int × Int × Int × Int × Int × Int × Int × Int × Int × List (List D) × List (List D)) (h : qx_tuplets.L16.dσ d = some x) : qx_tuplets.L16.eσ x = d := by
  unfold qx_tuplets.L16.dσ at h
  split at h <;> first | (cases h; rfl) | cases h
theorem qx_tuplets.L16.dτ_ok (i : Nat) (d : List D) (t : Bool × Bool × Int × Int × Int × Int × Int × Int × Int × Int × List (List D) × List (List D)) (h : qx_tuplets.L16.dτ i d = some t) : qx_tuplets.L16.eτ t = (i, d) := by
  unfold qx_tuplets.L16.dτ at h
  split at h <;> first | (cases h; rfl) | cases h
def qx_tuplets.L16.S (K : Nat) (f10 : Option (Bool)) (f13 : Int → Int → Int → Int → Option (Bool)) (f14 : Int → Int → Int → Int → Option (Int × Int × Int × Int)) (f20 : (List (List D)) → Option (Int × Int × Bool)) (rec : (Bool × Bool × Int × Int × Int × Int × Int × Int × Int × Int × Int × List (List D) × List (List D)) → Option (Bool × Bool × Int × Int × Int × Int × Int × Int × Int × Int × List (List D) × List (List D))) (x0 : Bool) (x1 : Bool) (x2 : Int) (x3 : Int) (x4 : Int) (x5 : Int) (x6 : Int) (x7 : Int) (x8 : Int) (x9 : Int) (x10 : Int) (x11 : List (List D)) (x12 : List (List D)) : Option (Bool × Bool × Int × Int × Int × Int × Int × Int × Int × Int × List (List D) × List (List D)) :=
  bif decide (x2 < x6) then
    if x12.length + (1 : Nat) ≤ (1073741824 : Nat) then
      rec
        (x0, x1, IntKind.i64.wrap (x2 + (1 : Int)), x3, x4, x5, x6, x7, x8, x9, x10, x11,
          x12 ++ [[D.int x7, D.int x8, D.int x9, D.int x10]])
    else none
  else some (x0, x1, x3, x4, x5, x6, x7, x8, x9, x10, x11, x12)
set_option maxRecDepth 100000 in
theorem qx_tuplets.L16.step (K : Nat) (f10 : Option (Bool)) (f13 : Int → Int → Int → Int → Option (Bool)) (f14 : Int → Int → Int → Int → Option (Int × Int × Int × Int)) (f20 : (List (List D)) → Option (Int × Int × Bool)) (rec : (Bool × Bool × Int × Int × Int × Int × Int × Int × Int × Int × Int × List (List D) × List (List D)) → Option (Bool × Bool × Int × Int × Int × Int × Int × Int × Int × Int × List (List D) × List (List D))) (x0 : Bool) (x1 : Bool) (x2 : Int) (x3 : Int) (x4 : Int) (x5 : Int) (x6 : Int) (x7 : Int) (x8 : Int) (x9 : Int) (x10 : Int) (x11 : List (List D)) (x12 : List (List D)) : execA Tryd.prog lay (qx_tuplets.Γ f10 f13 f14 f20) [] (inlA Tryd.prog lay (qx_tuplets.Γ f10 f13 f14 f20) [] 3) ⟨qx_tuplets.J6, [], 0⟩ 0 (loopAt Tryd.f6 1) (bldS qx_tuplets.L16.T (qx_tuplets.L16.eσ (x0, x1, x2, x3, x4, x5, x6, x7, x8, x9, x10, x11, x12))).1 (bldS qx_tuplets.L16.T (qx_tuplets.L16.eσ (x0, x1, x2, x3, x4, x5, x6, x7, x8, x9, x10, x11, x12))).2 (contA qx_tuplets.L16.T qx_tuplets.L16.X qx_tuplets.L16.dσ qx_tuplets.L16.dτ rec) = qx_tuplets.L16.S K f10 f13 f14 f20 rec x0 x1 x2 x3 x4 x5 x6 x7 x8 x9 x10 x11 x12 := by kernel_rfl
def qx_tuplets.L16 (K : Nat) (f10 : Option (Bool)) (f13 : Int → Int → Int → Int → Option (Bool)) (f14 : Int → Int → Int → Int → Option (Int × Int × Int × Int)) (f20 : (List (List D)) → Option (Int × Int × Bool)) : Nat → (Bool × Bool × Int × Int × Int × Int × Int × Int × Int × Int × Int × List (List D) × List (List D)) → Option (Bool × Bool × Int × Int × Int × Int × Int × Int × Int × Int × List (List D) × List (List D))
  | 0, _ => none
  | k + 1, x => qx_tuplets.L16.S K f10 f13 f14 f20 (qx_tuplets.L16 K f10 f13 f14 f20 k) x.1 x.2.1 x.2.2.1 x.2.2.2.1 x.2.2.2.2.1 x.2.2.2.2.2.1 x.2.2.2.2.2.2.1 x.2.2.2.2.2.2.2.1 x.2.2.2.2.2.2.2.2.1 x.2.2.2.2.2.2.2.2.2.1 x.2.2.2.2.2.2.2.2.2.2.1 x.2.2.2.2.2.2.2.2.2.2.2.1 x.2.2.2.2.2.2.2.2.2.2.2.2
theorem qx_tuplets.L16.ok (K : Nat) (f10 : Option (Bool)) (f13 : Int → Int → Int → Int → Option (Bool)) (f14 : Int → Int → Int → Int → Option (Int × Int × Int × Int)) (f20 : (List (List D)) → Option (Int × Int × Bool)) {B : Nat} {wB : World} (stab_ : ∀ w', Bel B wB w' → GW w') (hΓ_ : AllOk Tryd.prog GW lay (qx_tuplets.Γ f10 f13 f14 f20)) (Kr : Nat) : LSOk Tryd.prog lay B wB [] 0 (sumA qx_tuplets.L16.T qx_tuplets.L16.X qx_tuplets.L16.dσ qx_tuplets.L16.eτ qx_tuplets.L16.sel qx_tuplets.L16.sel_ok (qx_tuplets.L16 K f10 f13 f14 f20 Kr)) (loopAt Tryd.f6 1) :=
  loop_mk (by kernel_rfl) hΓ_ stab_ (inlA_ok (by kernel_rfl) hΓ_ stab_ in_nil 3) (C := ⟨qx_tuplets.J6, [], 0⟩) (allL_of (l := []) (by kernel_rfl) allL_nil) (by decide) (by decide) qx_tuplets.L16.dσ_ok qx_tuplets.L16.dτ_ok (fun _ => rfl) (fun k x => (qx_tuplets.L16.step K f10 f13 f14 f20 (qx_tuplets.L16 K f10 f13 f14 f20 k) x.1 x.2.1 x.2.2.1 x.2.2.2.1 x.2.2.2.2.1 x.2.2.2.2.2.1 x.2.2.2.2.2.2.1 x.2.2.2.2.2.2.2.1 x.2.2.2.2.2.2.2.2.1 x.2.2.2.2.2.2.2.2.2.1 x.2.2.2.2.2.2.2.2.2.2.1 x.2.2.2.2.2.2.2.2.2.2.2.1 x.2.2.2.2.2.2.2.2.2.2.2.2).symm) Kr
def qx_tuplets.t (K : Nat) (f10 : Option (Bool)) (f13 : Int → Int → Int → Int → Option (Bool)) (f14 : Int → Int → Int → Int → Option (Int × Int × Int × Int)) (f20 : (List (List D)) → Option (Int × Int × Bool)) (a0 : Int) (a1 : Int) (a2 : Int) (a3 : Int) : Option (Bool) :=
  f10.bind fun v1 =>
    bif !v1 then some false
    else
      (f14 a0 a1 a2 a3).bind fun v2 =>
        bif v2.snd.snd.fst == (0 : Int) then
          (qx_tuplets.L12 K f10 f13 f14 f20 K
                (false, v1, (0 : Int), v2.fst, v2.snd.fst, (3 : Int), (2 : Int), v2.fst, v2.snd.fst, (0 : Int), (0 : Int),
                  [])).bind
            fun v9 =>
            (qx_tuplets.L16 K f10 f13 f14 f20 K
                  (v9.fst, v9.snd.fst, (0 : Int), v9.snd.snd.fst, v9.snd.snd.snd.fst, v9.snd.snd.snd.snd.fst,
                    v9.snd.snd.snd.snd.snd.fst, v9.snd.snd.snd.snd.snd.snd.fst, v9.snd.snd.snd.snd.snd.snd.snd.fst,
                    v9.snd.snd.snd.snd.snd.snd.snd.snd.fst, v9.snd.snd.snd.snd.snd.snd.snd.snd.snd.fst,
                    v9.snd.snd.snd.snd.snd.snd.snd.snd.snd.snd, [])).bind
              fun v10 =>
              (f20 v10.snd.snd.snd.snd.snd.snd.snd.snd.snd.snd.fst).bind fun v11 =>
                (f20 v10.snd.snd.snd.snd.snd.snd.snd.snd.snd.snd.snd).bind fun v12 =>
                  bif v10.snd.fst then
                    bif v11.snd.snd then
                      bif v12.snd.snd then
                        bif v11.fst == v12.fst && (v11.snd.fst == v12.snd.fst && true) then
                          (f13 v10.snd.snd.fst v10.snd.snd.snd.fst v10.snd.snd.snd.snd.fst
                                v10.snd.snd.snd.snd.snd.fst).bind
                            fun v13 =>
                            bif v13 then
                              (f13 v10.snd.snd.snd.snd.snd.snd.fst v10.snd.snd.snd.snd.snd.snd.snd.fst
                                    v10.snd.snd.snd.snd.snd.snd.snd.snd.fst
                                    v10.snd.snd.snd.snd.snd.snd.snd.snd.snd.fst).bind
                                fun v14 => some v14
                            else some false
                        else some false
                      else some false
                    else some false
                  else some false
        else
          (qx_tuplets.L12 K f10 f13 f14 f20 K
                (false, v1, (0 : Int), v2.fst, v2.snd.fst, v2.snd.snd.fst, v2.snd.snd.snd, v2.fst, v2.snd.fst, (0 : Int),
                  (0 : Int), [])).bind
            fun v3 =>
            (qx_tuplets.L16 K f10 f13 f14 f20 K
                  (v3.fst, v3.snd.fst, (0 : Int), v3.snd.snd.fst, v3.snd.snd.snd.fst, v3.snd.snd.snd.snd.fst,
                    v3.snd.snd.snd.snd.snd.fst, v3.snd.snd.snd.snd.snd.snd.fst, v3.snd.snd.snd.snd.snd.snd.snd.fst,
                    v3.snd.snd.snd.snd.snd.snd.snd.snd.fst, v3.snd.snd.snd.snd.snd.snd.snd.snd.snd.fst,
                    v3.snd.snd.snd.snd.snd.snd.snd.snd.snd.snd, [])).bind
              fun v4 =>
              (f20 v4.snd.snd.snd.snd.snd.snd.snd.snd.snd.snd.fst).bind fun v5 =>
                (f20 v4.snd.snd.snd.snd.snd.snd.snd.snd.snd.snd.snd).bind fun v6 =>
                  bif v4.snd.fst then
                    bif v5.snd.snd then
                      bif v6.snd.snd then
                        bif v5.fst == v6.fst && (v5.snd.fst == v6.snd.fst && true) then
                          (f13 v4.snd.snd.fst v4.snd.snd.snd.fst v4.snd.snd.snd.snd.fst v4.snd.snd.snd.snd.snd.fst).bind
                            fun v7 =>
                            bif v7 then
                              (f13 v4.snd.snd.snd.snd.snd.snd.fst v4.snd.snd.snd.snd.snd.snd.snd.fst
                                    v4.snd.snd.snd.snd.snd.snd.snd.snd.fst
                                    v4.snd.snd.snd.snd.snd.snd.snd.snd.snd.fst).bind
                                fun v8 => some v8
                            else some false
                        else some false
                      else some false
                    else some false
                  else some false
set_option maxRecDepth 100000 in
theorem qx_tuplets.run (K : Nat) (f10 : Option (Bool)) (f13 : Int → Int → Int → Int → Option (Bool)) (f14 : Int → Int → Int → Int → Option (Int × Int × Int × Int)) (f20 : (List (List D)) → Option (Int × Int × Bool)) (a0 : Int) (a1 : Int) (a2 : Int) (a3 : Int) : runA Tryd.prog lay (qx_tuplets.Γ f10 f13 f14 f20) [] [] 3 ⟨qx_tuplets.J6, [(12, 0, sumA qx_tuplets.L12.T qx_tuplets.L12.X qx_tuplets.L12.dσ qx_tuplets.L12.eτ qx_tuplets.L12.sel qx_tuplets.L12.sel_ok (qx_tuplets.L12 K f10 f13 f14 f20 K)), (16, 0, sumA qx_tuplets.L16.T qx_tuplets.L16.X qx_tuplets.L16.dσ qx_tuplets.L16.eτ qx_tuplets.L16.sel qx_tuplets.L16.sel_ok (qx_tuplets.L16 K f10 f13 f14 f20 K))], 0⟩ Tryd.f6 [.agg [.int .i64 a0, .int .i64 a1, .int .i64 a2, .int .i64 a3]] [] [.one (.bool)] qx_tuplets.dec = qx_tuplets.t K f10 f13 f14 f20 a0 a1 a2 a3 := by kernel_rfl
def qx_tuplets.f (k : Nat) (a0 : Int) (a1 : Int) (a2 : Int) (a3 : Int) : Option (Bool) := qx_tuplets.t k (partitalaw04_examples.f k) (value_Right.f k) (partitalaw04_Value.f) (qx_sum.f k) a0 a1 a2 a3
theorem qx_tuplets.allOk (k : Nat) : AllOk Tryd.prog GW lay (qx_tuplets.Γ (partitalaw04_examples.f k) (value_Right.f k) (partitalaw04_Value.f) (qx_sum.f k)) := (allOk_cons (partitalaw04_examples_V2.ok k) (allOk_cons (value_Right_V2.ok k) (allOk_cons (partitalaw04_Value_V2.ok k) (allOk_cons (qx_sum.ok k) allOk_nil))))
theorem qx_tuplets.walks (k : Nat) (a0 : Int) (a1 : Int) (a2 : Int) (a3 : Int) (h : qx_tuplets.f k a0 a1 a2 a3 = some true) {w : World} (hw_ : GW w) {vs : Array Value} {G1 : Gh} (h1_ : G1.lay = lay) (himm_ : ∀ b o, G1.imm b o → b < w.heap.size) (hl_ : AV.isL G1 w [.agg [.int .i64 a0, .int .i64 a1, .int .i64 a2, .int .i64 a3]] vs.toList) :
    Calls Tryd.prog 6 vs w fun e w' => e = .returned (.bool true) ∧ Below w.heap.size w w' := by
  have hΓ_ := qx_tuplets.allOk k
  unfold qx_tuplets.f at h
  have hr_ := qx_tuplets.run k (partitalaw04_examples.f k) (value_Right.f k) (partitalaw04_Value.f) (qx_sum.f k) a0 a1 a2 a3
  rw [h] at hr_
  exact law_mk (by kernel_rfl) hΓ_ Tryd.func6 (fun w w' h hb => h.step hb) no_globals (fun B wB stab_ => in_nil) (C := ⟨qx_tuplets.J6, [(12, 0, sumA qx_tuplets.L12.T qx_tuplets.L12.X qx_tuplets.L12.dσ qx_tuplets.L12.eτ qx_tuplets.L12.sel qx_tuplets.L12.sel_ok (qx_tuplets.L12 k (partitalaw04_examples.f k) (value_Right.f k) (partitalaw04_Value.f) (qx_sum.f k) k)), (16, 0, sumA qx_tuplets.L16.T qx_tuplets.L16.X qx_tuplets.L16.dσ qx_tuplets.L16.eτ qx_tuplets.L16.sel qx_tuplets.L16.sel_ok (qx_tuplets.L16 k (partitalaw04_examples.f k) (value_Right.f k) (partitalaw04_Value.f) (qx_sum.f k) k))], 0⟩) (fun B wB stab_ => bodyL (allL_of (l := [loopAt Tryd.f6 0, loopAt Tryd.f6 1]) (by kernel_rfl) (allL_cons (by kernel_rfl) (qx_tuplets.L12.ok k (partitalaw04_examples.f k) (value_Right.f k) (partitalaw04_Value.f) (qx_sum.f k) stab_ hΓ_ k) (allL_cons (by kernel_rfl) (qx_tuplets.L16.ok k (partitalaw04_examples.f k) (value_Right.f k) (partitalaw04_Value.f) (qx_sum.f k) stab_ hΓ_ k) allL_nil)))) hr_ (fun res h => qx_tuplets.dec_ok res _ h) (by kernel_rfl) hw_ h1_ himm_ hl_
def partitalaw04_ValueTuplets.Pure : Prop := ∀ (a0 : Int) (a1 : Int) (a2 : Int) (a3 : Int), (Lit.int .i64 a0).wf = true → (Lit.int .i64 a1).wf = true → (Lit.int .i64 a2).wf = true → (Lit.int .i64 a3).wf = true → ∃ k, qx_tuplets.f k a0 a1 a2 a3 = some true
theorem partitalaw04_ValueTuplets.walk (P : partitalaw04_ValueTuplets.Pure) (a0 : Int) (a1 : Int) (a2 : Int) (a3 : Int) (w : World) (hG_ : GW w) (w0 : (Lit.int .i64 a0).wf = true) (w1 : (Lit.int .i64 a1).wf = true) (w2 : (Lit.int .i64 a2).wf = true) (w3 : (Lit.int .i64 a3).wf = true) :
    Calls Tryd.prog 6 #[.agg #[.int .i64 a0, .int .i64 a1, .int .i64 a2, .int .i64 a3]] w fun e w' => e = .returned (.bool true) ∧ Below w.heap.size w w' := by
  obtain ⟨k, h⟩ := P a0 a1 a2 a3 w0 w1 w2 w3
  exact qx_tuplets.walks k a0 a1 a2 a3 h hG_ (G1 := ⟨fun _ => 0, 0, fun _ _ => False, fun _ => undef, fun _ => 0, fun _ => [], lay⟩) rfl (fun _ _ q => q.elim) ((AV.denL_is _ _ [.agg [.int .i64 a0, .int .i64 a1, .int .i64 a2, .int .i64 a3]] _ rfl).2 rfl)

end Go.Proofs.YtajbnfidcpfonaaDoor.M
