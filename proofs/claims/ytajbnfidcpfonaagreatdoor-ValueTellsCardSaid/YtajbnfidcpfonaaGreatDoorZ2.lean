/- Go functions as the machine tells them. -/
import Derived.Test.YtajbnfidcpfonaaGreatDoorProg
import Derived.Test.YtajbnfidcpfonaaGreatDoorQ10
import Derived.Test.YtajbnfidcpfonaaGreatDoorM0
import Derived.Test.YtajbnfidcpfonaaGreatDoorLay
import Derived.Test.YtajbnfidcpfonaaGreatDoorM18
import Derived.Test.YtajbnfidcpfonaaGreatDoorM21
import Derived.Test.YtajbnfidcpfonaaGreatDoorZ0
set_option linter.unusedVariables false
set_option linter.unusedSimpArgs false
set_option maxRecDepth 100000
namespace Go.Proofs.YtajbnfidcpfonaaGreatDoor.M
open Go Go.RowKit Go.Proofs Go.Proofs.Qx Go.Proofs.YtajbnfidcpfonaaGreatDoorW.PrintWords Go.Proofs.YtajbnfidcpfonaaGreatDoorW.PrintLast Go.Proofs.YtajbnfidcpfonaaGreatDoorW.PrintMore

/-! ### partita/partitaref04.Text: function 11 -/
def r4_Text.out (r : ByteArray × Int) : Res := .ret (.tup [.str r.1, .int .i64 r.2])
def r4_Text.dec : Res → Option (ByteArray × Int)
  | .ret (.tup [.str y0, .int .i64 y1]) => some (y0, y1)
  | _ => none
theorem r4_Text.out_free (r : ByteArray × Int) : (r4_Text.out r).free = true := rfl
def r4_Text.sel (β : Type) (r : ByteArray × Int) (k : Res → Option β) : Option β := k (.ret (.tup [.str r.1, .int .i64 r.2]))
theorem r4_Text.sel_ok (β : Type) (t : ByteArray × Int) (k : Res → Option β) : r4_Text.sel β t k = k (r4_Text.out t) := rfl
theorem r4_Text.dec_ok (res : Res) (r : ByteArray × Int) (h : r4_Text.dec res = some r) : res = r4_Text.out r := by
  unfold r4_Text.dec at h
  split at h <;> first | (cases h; rfl) | cases h
def r4_Text.tells (f : Int → Int → Int → Int → Option (ByteArray × Int)) : Tells
  | [.agg [.int .i64 a0, .int .i64 a1, .int .i64 a2, .int .i64 a3]] => some (.mk (ByteArray × Int) (f a0 a1 a2 a3) r4_Text.out r4_Text.sel r4_Text.sel_ok)
  | _ => none
def r4_Text.ce (f : Int → Int → Int → Int → Option (ByteArray × Int)) : CE := ⟨[.agg [.int .i64, .int .i64, .int .i64, .int .i64]], .flat, r4_Text.tells f⟩
def partitaref01_Number_Z2.out (r : ByteArray) : Res := .ret (.str r)
def partitaref01_Number_Z2.dec : Res → Option (ByteArray)
  | .ret (.str y0) => some y0
  | _ => none
theorem partitaref01_Number_Z2.out_free (r : ByteArray) : (partitaref01_Number_Z2.out r).free = true := rfl
def partitaref01_Number_Z2.sel (β : Type) (r : ByteArray) (k : Res → Option β) : Option β := k (.ret (.str r))
theorem partitaref01_Number_Z2.sel_ok (β : Type) (t : ByteArray) (k : Res → Option β) : partitaref01_Number_Z2.sel β t k = k (partitaref01_Number_Z2.out t) := rfl
theorem partitaref01_Number_Z2.dec_ok (res : Res) (r : ByteArray) (h : partitaref01_Number_Z2.dec res = some r) : res = partitaref01_Number_Z2.out r := by
  unfold partitaref01_Number_Z2.dec at h
  split at h <;> first | (cases h; rfl) | cases h
def partitaref01_Number_Z2.tells (f : Int → Option (ByteArray)) : Tells
  | [.int .i64 a0] => some (.mk (ByteArray) (f a0) partitaref01_Number_Z2.out partitaref01_Number_Z2.sel partitaref01_Number_Z2.sel_ok)
  | _ => none
def partitaref01_Number_Z2.ce (f : Int → Option (ByteArray)) : CE := ⟨[.one (.int .i64)], .flat, partitaref01_Number_Z2.tells f⟩
theorem partitaref01_Number_Z2.ok (k : Nat) : CEOk Tryz.prog GW lay 28 (partitaref01_Number_Z2.ce (partitaref01_Number.f k)) :=
  tells_simple (fun args w => by kernel_rfl) fun args τ x out sel ok r hs hx => by
    unfold partitaref01_Number_Z2.tells at hs
    split at hs
    · cases hs
      exact ⟨rfl, _, rfl, rfl, fun w hw => partitaref01_Number.calls k _ r w hx⟩
    · cases hs
def r4_Text.Γ (f13 : Int → Int → Int → Int → Option (Bool)) (f25 : Int → Option (Int)) (f28 : Int → Option (ByteArray)) : List (Nat × CE) := [(13, r4_Right.ce f13), (25, r4_power.ce f25), (28, partitaref01_Number_Z2.ce f28)]
def r4_Text.J11 : List (Nat × List Nat) := [(1, [6, 7]), (3, [9, 10, 11, 12]), (5, [13, 14, 15]), (6, [17, 18]), (7, [19, 20]), (8, [21, 22]), (9, [24, 25, 26, 27, 28, 29, 30, 31, 32, 33, 34]), (10, [35]), (1000008, [8]), (1000016, [16]), (1000023, [23])]
def r4_Text.L5.T : TS := ⟨[.junk, .ptr 0 0, .str, .int .i64, .str, .int .i64, .junk, .junk, .junk, .junk, .junk, .junk, .junk, .junk, .junk, .junk, .junk, .junk, .junk, .junk, .junk, .junk, .junk, .junk, .junk, .junk, .junk, .junk, .junk, .junk, .junk, .junk, .junk, .junk, .junk, .junk], [.cells 23 [.int .i64, .int .i64, .int .i64, .int .i64] .own], 0, [(1, none)]⟩
def r4_Text.L5.X0 : TS := ⟨[.junk, .ptr 0 0, .str, .int .i64, .str, .junk, .junk, .junk, .junk, .junk, .junk, .junk, .junk, .junk, .junk, .junk, .junk, .junk, .junk, .junk, .junk, .junk, .junk, .junk, .junk, .junk, .junk, .junk, .junk, .junk, .junk, .junk, .junk, .junk, .junk, .junk], [.cells 23 [.int .i64, .int .i64, .int .i64, .int .i64] .own], 0, [(1, none)]⟩
def r4_Text.L5.X : List (Exit × TS) := [(.exit 0, r4_Text.L5.X0)]
def r4_Text.L5.dσ : List D → Option (ByteArray × Int × ByteArray × Int × Int × Int × Int × Int)
  | [.str x0, .int x1, .str x2, .int x3, .int x4, .int x5, .int x6, .int x7] => some (x0, x1, x2, x3, x4, x5, x6, x7)
  | _ => none
def r4_Text.L5.eσ (x : ByteArray × Int × ByteArray × Int × Int × Int × Int × Int) : List D := [.str x.1, .int x.2.1, .str x.2.2.1, .int x.2.2.2.1, .int x.2.2.2.2.1, .int x.2.2.2.2.2.1, .int x.2.2.2.2.2.2.1, .int x.2.2.2.2.2.2.2]
def r4_Text.L5.dτ : Nat → List D → Option (ByteArray × Int × ByteArray × Int × Int × Int × Int)
  | 0, [.str y0, .int y1, .str y2, .int y3, .int y4, .int y5, .int y6] => some (y0, y1, y2, y3, y4, y5, y6)
  | _, _ => none
def r4_Text.L5.eτ (t : ByteArray × Int × ByteArray × Int × Int × Int × Int) : Nat × List D := (0, [.str t.1, .int t.2.1, .str t.2.2.1, .int t.2.2.2.1, .int t.2.2.2.2.1, .int t.2.2.2.2.2.1, .int t.2.2.2.2.2.2])
def r4_Text.L5.sel (β : Type) (t : ByteArray × Int × ByteArray × Int × Int × Int × Int) (k : Exit → Fr → Hp → Option β) : Option β := k (.exit 0) (bldS r4_Text.L5.X0 [.str t.1, .int t.2.1, .str t.2.2.1, .int t.2.2.2.1, .int t.2.2.2.2.1, .int t.2.2.2.2.2.1, .int t.2.2.2.2.2.2]).1 (bldS r4_Text.L5.X0 [.str t.1, .int t.2.1, .str t.2.2.1, .int t.2.2.2.1, .int t.2.2.2.2.1, .int t.2.2.2.2.2.1, .int t.2.2.2.2.2.2]).2
theorem r4_Text.L5.sel_ok (β : Type) (t : ByteArray × Int × ByteArray × Int × Int × Int × Int) (k : Exit → Fr → Hp → Option β) : r4_Text.L5.sel β t k = k (endA r4_Text.L5.X r4_Text.L5.eτ t).1 (endA r4_Text.L5.X r4_Text.L5.eτ t).2.1 (endA r4_Text.L5.X r4_Text.L5.eτ t).2.2 := by rfl
theorem r4_Text.L5.dσ_ok (d : List D) (x : ByteArray × Int × ByteArray × Int × Int × Int × Int × Int) (h : r4_Text.L5.dσ d = some x) : r4_Text.L5.eσ x = d := by
  unfold r4_Text.L5.dσ at h
  split at h <;> first | (cases h; rfl) | cases h
theorem r4_Text.L5.dτ_ok (i : Nat) (d : List D) (t : ByteArray × Int × ByteArray × Int × Int × Int × Int) (h : r4_Text.L5.dτ i d = some t) : r4_Text.L5.eτ t = (i, d) := by
  unfold r4_Text.L5.dτ at h
  split at h <;> first | (cases h; rfl) | cases h
def r4_Text.L5.S (K : Nat) (f13 : Int → Int → Int → Int → Option (Bool)) (f25 : Int → Option (Int)) (f28 : Int → Option (ByteArray)) (rec : (ByteArray × Int × ByteArray × Int × Int × Int × Int × Int) → Option (ByteArray × Int × ByteArray × Int × Int × Int × Int)) (x0 : ByteArray) (x1 : Int) (x2 : ByteArray) (x3 : Int) (x4 : Int) (x5 : Int) (x6 : Int) (x7 : Int) : Option (ByteArray × Int × ByteArray × Int × Int × Int × Int) :=
  bif decide (x3 < x5) then if (↑(x2.size + (ByteArray.mk #[(46 : UInt8)]).size) : Int) > IntKind.i64.max then none else rec (x0, x1, x2 ++ ByteArray.mk #[(46 : UInt8)], IntKind.i64.wrap (x3 + (1 : Int)), x4, x5, x6, x7) else some (x0, x1, x2, x4, x5, x6, x7)
set_option maxRecDepth 100000 in
theorem r4_Text.L5.step (K : Nat) (f13 : Int → Int → Int → Int → Option (Bool)) (f25 : Int → Option (Int)) (f28 : Int → Option (ByteArray)) (rec : (ByteArray × Int × ByteArray × Int × Int × Int × Int × Int) → Option (ByteArray × Int × ByteArray × Int × Int × Int × Int)) (x0 : ByteArray) (x1 : Int) (x2 : ByteArray) (x3 : Int) (x4 : Int) (x5 : Int) (x6 : Int) (x7 : Int) : execA Tryz.prog lay (r4_Text.Γ f13 f25 f28) [] (inlA Tryz.prog lay (r4_Text.Γ f13 f25 f28) [] 3) ⟨r4_Text.J11, [], 0⟩ 0 (loopAt Tryz.f11 0) (bldS r4_Text.L5.T (r4_Text.L5.eσ (x0, x1, x2, x3, x4, x5, x6, x7))).1 (bldS r4_Text.L5.T (r4_Text.L5.eσ (x0, x1, x2, x3, x4, x5, x6, x7))).2 (contA r4_Text.L5.T r4_Text.L5.X r4_Text.L5.dσ r4_Text.L5.dτ rec) = r4_Text.L5.S K f13 f25 f28 rec x0 x1 x2 x3 x4 x5 x6 x7 := by kernel_rfl
def r4_Text.L5 (K : Nat) (f13 : Int → Int → Int → Int → Option (Bool)) (f25 : Int → Option (Int)) (f28 : Int → Option (ByteArray)) : Nat → (ByteArray × Int × ByteArray × Int × Int × Int × Int × Int) → Option (ByteArray × Int × ByteArray × Int × Int × Int × Int)
  | 0, _ => none
  | k + 1, x => r4_Text.L5.S K f13 f25 f28 (r4_Text.L5 K f13 f25 f28 k) x.1 x.2.1 x.2.2.1 x.2.2.2.1 x.2.2.2.2.1 x.2.2.2.2.2.1 x.2.2.2.2.2.2.1 x.2.2.2.2.2.2.2
theorem r4_Text.L5.ok (K : Nat) (f13 : Int → Int → Int → Int → Option (Bool)) (f25 : Int → Option (Int)) (f28 : Int → Option (ByteArray)) {B : Nat} {wB : World} (stab_ : ∀ w', Bel B wB w' → GW w') (hΓ_ : AllOk Tryz.prog GW lay (r4_Text.Γ f13 f25 f28)) (Kr : Nat) : LSOk Tryz.prog lay B wB [] 0 (sumA r4_Text.L5.T r4_Text.L5.X r4_Text.L5.dσ r4_Text.L5.eτ r4_Text.L5.sel r4_Text.L5.sel_ok (r4_Text.L5 K f13 f25 f28 Kr)) (loopAt Tryz.f11 0) :=
  loop_mk (by kernel_rfl) hΓ_ stab_ (inlA_ok (by kernel_rfl) hΓ_ stab_ in_nil 3) (C := ⟨r4_Text.J11, [], 0⟩) (allL_of (l := []) (by kernel_rfl) allL_nil) (by decide) (by decide) r4_Text.L5.dσ_ok r4_Text.L5.dτ_ok (fun _ => rfl) (fun k x => (r4_Text.L5.step K f13 f25 f28 (r4_Text.L5 K f13 f25 f28 k) x.1 x.2.1 x.2.2.1 x.2.2.2.1 x.2.2.2.2.1 x.2.2.2.2.2.1 x.2.2.2.2.2.2.1 x.2.2.2.2.2.2.2).symm) Kr
def r4_Text.t (K : Nat) (f13 : Int → Int → Int → Int → Option (Bool)) (f25 : Int → Option (Int)) (f28 : Int → Option (ByteArray)) (a0 : Int) (a1 : Int) (a2 : Int) (a3 : Int) : Option (ByteArray × Int) :=
  (f13 a0 a1 a2 a3).bind fun v1 => bif !v1 then some (ByteArray.mk #[], (40 : Int)) else (f25 a0).bind fun v2 => (f28 v2).bind fun v3 => (r4_Text.L5 K f13 f25 f28 K (ByteArray.mk #[], (0 : Int), v3, (0 : Int), a0, a1, a2, a3)).bind fun v4 => bif decide (v4.snd.snd.snd.snd.snd.fst > (0 : Int)) then if (↑(v4.snd.snd.fst.size + (ByteArray.mk #[(42 : UInt8)]).size) : Int) > IntKind.i64.max then none else (f28 v4.snd.snd.snd.snd.snd.fst).bind fun v5 => if (↑((v4.snd.snd.fst ++ ByteArray.mk #[(42 : UInt8)]).size + v5.size) : Int) > IntKind.i64.max then none else if (↑((v4.snd.snd.fst ++ ByteArray.mk #[(42 : UInt8)] ++ v5).size + (ByteArray.mk #[(58 : UInt8)]).size) : Int) > IntKind.i64.max then none else (f28 v4.snd.snd.snd.snd.snd.snd).bind fun v6 => if (↑((v4.snd.snd.fst ++ ByteArray.mk #[(42 : UInt8)] ++ v5 ++ ByteArray.mk #[(58 : UInt8)]).size + v6.size) : Int) > IntKind.i64.max then none else some (v4.snd.snd.fst ++ ByteArray.mk #[(42 : UInt8)] ++ v5 ++ ByteArray.mk #[(58 : UInt8)] ++ v6, (0 : Int)) else some (v4.snd.snd.fst, (0 : Int))
set_option maxRecDepth 100000 in
theorem r4_Text.run (K : Nat) (f13 : Int → Int → Int → Int → Option (Bool)) (f25 : Int → Option (Int)) (f28 : Int → Option (ByteArray)) (a0 : Int) (a1 : Int) (a2 : Int) (a3 : Int) : runA Tryz.prog lay (r4_Text.Γ f13 f25 f28) [] [] 3 ⟨r4_Text.J11, [(5, 0, sumA r4_Text.L5.T r4_Text.L5.X r4_Text.L5.dσ r4_Text.L5.eτ r4_Text.L5.sel r4_Text.L5.sel_ok (r4_Text.L5 K f13 f25 f28 K))], 0⟩ Tryz.f11 [.agg [.int .i64 a0, .int .i64 a1, .int .i64 a2, .int .i64 a3]] [] [.one (.str), .one (.int .i64)] r4_Text.dec = r4_Text.t K f13 f25 f28 a0 a1 a2 a3 := by kernel_rfl
def r4_Text.f (k : Nat) (a0 : Int) (a1 : Int) (a2 : Int) (a3 : Int) : Option (ByteArray × Int) := r4_Text.t k (r4_Right.f k) (r4_power.f k) (partitaref01_Number.f k) a0 a1 a2 a3
theorem r4_Text.allOk (k : Nat) : AllOk Tryz.prog GW lay (r4_Text.Γ (r4_Right.f k) (r4_power.f k) (partitaref01_Number.f k)) := (allOk_cons (r4_Right.ok k) (allOk_cons (r4_power.ok k) (allOk_cons (partitaref01_Number_Z2.ok k) allOk_nil)))
theorem r4_Text.ok (k : Nat) : CEOk Tryz.prog GW lay 11 (r4_Text.ce (r4_Text.f k)) := by
  have hΓ_ := r4_Text.allOk k
  exact tells_mk (by kernel_rfl) hΓ_ Tryz.func11 (fun args w => by kernel_rfl) (fun w w' h hb => h.step hb) no_globals (fun B wB stab_ => in_nil) (C := ⟨r4_Text.J11, [(5, 0, sumA r4_Text.L5.T r4_Text.L5.X r4_Text.L5.dσ r4_Text.L5.eτ r4_Text.L5.sel r4_Text.L5.sel_ok (r4_Text.L5 k (r4_Right.f k) (r4_power.f k) (partitaref01_Number.f k) k))], 0⟩) (fun B wB stab_ => bodyL (allL_of (l := [loopAt Tryz.f11 0]) (by kernel_rfl) (allL_cons (by kernel_rfl) (r4_Text.L5.ok k (r4_Right.f k) (r4_power.f k) (partitaref01_Number.f k) stab_ hΓ_ k) allL_nil))) (fun args τ x out sel ok r hs hx => by
    unfold r4_Text.tells at hs
    split at hs
    · rename_i a0 a1 a2 a3
      cases hs
      unfold r4_Text.f at hx
      have hr_ := r4_Text.run k (r4_Right.f k) (r4_power.f k) (partitaref01_Number.f k) a0 a1 a2 a3
      rw [hx] at hr_
      exact ⟨rfl, r4_Text.out_free _, 3, [.one (.str), .one (.int .i64)], r4_Text.dec, hr_, fun res h => r4_Text.dec_ok res _ h⟩
    · cases hs)
/-! ### partita/partitaref04.Cut: function 23 -/
def r4_Cut.out (r : ByteArray × ByteArray × Bool) : Res := .ret (.tup [.str r.1, .str r.2.1, .bool r.2.2])
def r4_Cut.dec : Res → Option (ByteArray × ByteArray × Bool)
  | .ret (.tup [.str y0, .str y1, .bool y2]) => some (y0, y1, y2)
  | _ => none
theorem r4_Cut.out_free (r : ByteArray × ByteArray × Bool) : (r4_Cut.out r).free = true := rfl
def r4_Cut.sel (β : Type) (r : ByteArray × ByteArray × Bool) (k : Res → Option β) : Option β := k (.ret (.tup [.str r.1, .str r.2.1, .bool r.2.2]))
theorem r4_Cut.sel_ok (β : Type) (t : ByteArray × ByteArray × Bool) (k : Res → Option β) : r4_Cut.sel β t k = k (r4_Cut.out t) := rfl
theorem r4_Cut.dec_ok (res : Res) (r : ByteArray × ByteArray × Bool) (h : r4_Cut.dec res = some r) : res = r4_Cut.out r := by
  unfold r4_Cut.dec at h
  split at h <;> first | (cases h; rfl) | cases h
def r4_Cut.tells (f : ByteArray → Int → Option (ByteArray × ByteArray × Bool)) : Tells
  | [.str a0, .int .u8 a1] => some (.mk (ByteArray × ByteArray × Bool) (f a0 a1) r4_Cut.out r4_Cut.sel r4_Cut.sel_ok)
  | _ => none
def r4_Cut.ce (f : ByteArray → Int → Option (ByteArray × ByteArray × Bool)) : CE := ⟨[.one (.str), .one (.int .u8)], .flat, r4_Cut.tells f⟩
def r4_Cut.Γ : List (Nat × CE) := []
def r4_Cut.J23 : List (Nat × List Nat) := [(2, [8, 9, 10]), (3, [12, 13]), (4, [14, 15, 16, 17]), (5, [19, 20, 21, 22, 23, 24, 25]), (6, [26]), (1000011, [11]), (1000018, [18])]
def r4_Cut.L2.T : TS := ⟨[.str, .int .u8, .junk, .junk, .str, .str, .bool, .int .i64, .junk, .junk, .junk, .junk, .junk, .junk, .junk, .junk, .junk, .junk, .junk, .junk, .junk, .junk, .junk, .junk, .junk, .junk, .junk], [], 0, []⟩
def r4_Cut.L2.X0 : TS := ⟨[.str, .junk, .junk, .junk, .str, .str, .bool, .junk, .junk, .junk, .junk, .junk, .junk, .junk, .junk, .junk, .junk, .junk, .junk, .junk, .junk, .junk, .junk, .junk, .junk, .junk, .junk], [], 0, []⟩
def r4_Cut.L2.X1 : TS := ⟨[.junk, .junk, .junk, .junk, .str, .str, .bool, .junk, .junk, .junk, .junk, .junk, .junk, .junk, .junk, .junk, .junk, .junk, .junk, .junk, .junk, .junk, .junk, .junk, .junk, .junk, .junk], [], 0, []⟩
def r4_Cut.L2.X : List (Exit × TS) := [(.exit 0, r4_Cut.L2.X0), (.ret, r4_Cut.L2.X1)]
def r4_Cut.L2.dσ : List D → Option (ByteArray × Int × ByteArray × ByteArray × Bool × Int)
  | [.str x0, .int x1, .str x2, .str x3, .bool x4, .int x5] => some (x0, x1, x2, x3, x4, x5)
  | _ => none
def r4_Cut.L2.eσ (x : ByteArray × Int × ByteArray × ByteArray × Bool × Int) : List D := [.str x.1, .int x.2.1, .str x.2.2.1, .str x.2.2.2.1, .bool x.2.2.2.2.1, .int x.2.2.2.2.2]
def r4_Cut.L2.dτ : Nat → List D → Option ((ByteArray × ByteArray × ByteArray × Bool) ⊕ (ByteArray × ByteArray × Bool))
  | 0, [.str y0, .str y1, .str y2, .bool y3] => some (.inl (y0, y1, y2, y3))
  | 1, [.str y0, .str y1, .bool y2] => some (.inr (y0, y1, y2))
  | _, _ => none
def r4_Cut.L2.eτ : (ByteArray × ByteArray × ByteArray × Bool) ⊕ (ByteArray × ByteArray × Bool) → Nat × List D
  | (.inl t) => (0, [.str t.1, .str t.2.1, .str t.2.2.1, .bool t.2.2.2])
  | (.inr t) => (1, [.str t.1, .str t.2.1, .bool t.2.2])
def r4_Cut.L2.sel (β : Type) (t : (ByteArray × ByteArray × ByteArray × Bool) ⊕ (ByteArray × ByteArray × Bool)) (k : Exit → Fr → Hp → Option β) : Option β := match t with
  | (.inl r) => k (.exit 0) (bldS r4_Cut.L2.X0 [.str r.1, .str r.2.1, .str r.2.2.1, .bool r.2.2.2]).1 (bldS r4_Cut.L2.X0 [.str r.1, .str r.2.1, .str r.2.2.1, .bool r.2.2.2]).2
  | (.inr r) => k (.ret) (bldS r4_Cut.L2.X1 [.str r.1, .str r.2.1, .bool r.2.2]).1 (bldS r4_Cut.L2.X1 [.str r.1, .str r.2.1, .bool r.2.2]).2
theorem r4_Cut.L2.sel_ok (β : Type) (t : (ByteArray × ByteArray × ByteArray × Bool) ⊕ (ByteArray × ByteArray × Bool)) (k : Exit → Fr → Hp → Option β) : r4_Cut.L2.sel β t k = k (endA r4_Cut.L2.X r4_Cut.L2.eτ t).1 (endA r4_Cut.L2.X r4_Cut.L2.eτ t).2.1 (endA r4_Cut.L2.X r4_Cut.L2.eτ t).2.2 := by rcases t with t | t <;> rfl
theorem r4_Cut.L2.dσ_ok (d : List D) (x : ByteArray × Int × ByteArray × ByteArray × Bool × Int) (h : r4_Cut.L2.dσ d = some x) : r4_Cut.L2.eσ x = d := by
  unfold r4_Cut.L2.dσ at h
  split at h <;> first | (cases h; rfl) | cases h
theorem r4_Cut.L2.dτ_ok (i : Nat) (d : List D) (t : (ByteArray × ByteArray × ByteArray × Bool) ⊕ (ByteArray × ByteArray × Bool)) (h : r4_Cut.L2.dτ i d = some t) : r4_Cut.L2.eτ t = (i, d) := by
  unfold r4_Cut.L2.dτ at h
  split at h <;> first | (cases h; rfl) | cases h
def r4_Cut.L2.S (K : Nat) (rec : (ByteArray × Int × ByteArray × ByteArray × Bool × Int) → Option ((ByteArray × ByteArray × ByteArray × Bool) ⊕ (ByteArray × ByteArray × Bool))) (x0 : ByteArray) (x1 : Int) (x2 : ByteArray) (x3 : ByteArray) (x4 : Bool) (x5 : Int) : Option ((ByteArray × ByteArray × ByteArray × Bool) ⊕ (ByteArray × ByteArray × Bool)) :=
  bif decide (x5 < (↑x0.size : Int)) then if (0 : Int) ≤ x5 ∧ x5 < (↑x0.size : Int) then bif byteAt x0 x5 == x1 then if (0 : Int) ≤ x5 ∧ x5 ≤ (↑x0.size : Int) then if (0 : Int) ≤ (0 : Int) ∧ (0 : Int) ≤ x5 then if (0 : Int) ≤ (↑x0.size : Int) ∧ (↑x0.size : Int) ≤ (↑x0.size : Int) then if (0 : Int) ≤ IntKind.i64.wrap (x5 + (1 : Int)) ∧ IntKind.i64.wrap (x5 + (1 : Int)) ≤ (↑x0.size : Int) then some (Sum.inr (x0.extract (Int.toNat (0 : Int)) x5.toNat, x0.extract (IntKind.i64.wrap (x5 + (1 : Int))).toNat (↑x0.size : Int).toNat, true)) else none else none else none else none else rec (x0, x1, x2, x3, x4, IntKind.i64.wrap (x5 + (1 : Int))) else none else some (Sum.inl (x0, x2, x3, x4))
set_option maxRecDepth 100000 in
theorem r4_Cut.L2.step (K : Nat) (rec : (ByteArray × Int × ByteArray × ByteArray × Bool × Int) → Option ((ByteArray × ByteArray × ByteArray × Bool) ⊕ (ByteArray × ByteArray × Bool))) (x0 : ByteArray) (x1 : Int) (x2 : ByteArray) (x3 : ByteArray) (x4 : Bool) (x5 : Int) : execA Tryz.prog lay (r4_Cut.Γ) [] (inlA Tryz.prog lay (r4_Cut.Γ) [] 3) ⟨r4_Cut.J23, [], 0⟩ 0 (loopAt Tryz.f23 0) (bldS r4_Cut.L2.T (r4_Cut.L2.eσ (x0, x1, x2, x3, x4, x5))).1 (bldS r4_Cut.L2.T (r4_Cut.L2.eσ (x0, x1, x2, x3, x4, x5))).2 (contA r4_Cut.L2.T r4_Cut.L2.X r4_Cut.L2.dσ r4_Cut.L2.dτ rec) = r4_Cut.L2.S K rec x0 x1 x2 x3 x4 x5 := by kernel_rfl
def r4_Cut.L2 (K : Nat) : Nat → (ByteArray × Int × ByteArray × ByteArray × Bool × Int) → Option ((ByteArray × ByteArray × ByteArray × Bool) ⊕ (ByteArray × ByteArray × Bool))
  | 0, _ => none
  | k + 1, x => r4_Cut.L2.S K (r4_Cut.L2 K k) x.1 x.2.1 x.2.2.1 x.2.2.2.1 x.2.2.2.2.1 x.2.2.2.2.2
theorem r4_Cut.L2.ok (K : Nat) {B : Nat} {wB : World} (stab_ : ∀ w', Bel B wB w' → GW w') (hΓ_ : AllOk Tryz.prog GW lay (r4_Cut.Γ)) (Kr : Nat) : LSOk Tryz.prog lay B wB [] 0 (sumA r4_Cut.L2.T r4_Cut.L2.X r4_Cut.L2.dσ r4_Cut.L2.eτ r4_Cut.L2.sel r4_Cut.L2.sel_ok (r4_Cut.L2 K Kr)) (loopAt Tryz.f23 0) :=
  loop_mk (by kernel_rfl) hΓ_ stab_ (inlA_ok (by kernel_rfl) hΓ_ stab_ in_nil 3) (C := ⟨r4_Cut.J23, [], 0⟩) (allL_of (l := []) (by kernel_rfl) allL_nil) (by decide) (by decide) r4_Cut.L2.dσ_ok r4_Cut.L2.dτ_ok (fun _ => rfl) (fun k x => (r4_Cut.L2.step K (r4_Cut.L2 K k) x.1 x.2.1 x.2.2.1 x.2.2.2.1 x.2.2.2.2.1 x.2.2.2.2.2).symm) Kr
def r4_Cut.t (K : Nat) (a0 : ByteArray) (a1 : Int) : Option (ByteArray × ByteArray × Bool) :=
  (r4_Cut.L2 K K (a0, a1, ByteArray.mk #[], ByteArray.mk #[], false, (0 : Int))).bind fun v1 => Sum.elim (fun v2 => some (v2.fst, ByteArray.mk #[], false)) (fun v3 => some (v3.fst, v3.snd.fst, v3.snd.snd)) v1
set_option maxRecDepth 100000 in
theorem r4_Cut.run (K : Nat) (a0 : ByteArray) (a1 : Int) : runA Tryz.prog lay (r4_Cut.Γ) [] [] 3 ⟨r4_Cut.J23, [(2, 0, sumA r4_Cut.L2.T r4_Cut.L2.X r4_Cut.L2.dσ r4_Cut.L2.eτ r4_Cut.L2.sel r4_Cut.L2.sel_ok (r4_Cut.L2 K K))], 0⟩ Tryz.f23 [.str a0, .int .u8 a1] [] [.one (.str), .one (.str), .one (.bool)] r4_Cut.dec = r4_Cut.t K a0 a1 := by kernel_rfl
def r4_Cut.f (k : Nat) (a0 : ByteArray) (a1 : Int) : Option (ByteArray × ByteArray × Bool) := r4_Cut.t k a0 a1
theorem r4_Cut.allOk (k : Nat) : AllOk Tryz.prog GW lay (r4_Cut.Γ) := allOk_nil
theorem r4_Cut.ok (k : Nat) : CEOk Tryz.prog GW lay 23 (r4_Cut.ce (r4_Cut.f k)) := by
  have hΓ_ := r4_Cut.allOk k
  exact tells_mk (by kernel_rfl) hΓ_ Tryz.func23 (fun args w => by kernel_rfl) (fun w w' h hb => h.step hb) no_globals (fun B wB stab_ => in_nil) (C := ⟨r4_Cut.J23, [(2, 0, sumA r4_Cut.L2.T r4_Cut.L2.X r4_Cut.L2.dσ r4_Cut.L2.eτ r4_Cut.L2.sel r4_Cut.L2.sel_ok (r4_Cut.L2 k k))], 0⟩) (fun B wB stab_ => bodyL (allL_of (l := [loopAt Tryz.f23 0]) (by kernel_rfl) (allL_cons (by kernel_rfl) (r4_Cut.L2.ok k stab_ hΓ_ k) allL_nil))) (fun args τ x out sel ok r hs hx => by
    unfold r4_Cut.tells at hs
    split at hs
    · rename_i a0 a1
      cases hs
      unfold r4_Cut.f at hx
      have hr_ := r4_Cut.run k a0 a1
      rw [hx] at hr_
      exact ⟨rfl, r4_Cut.out_free _, 3, [.one (.str), .one (.str), .one (.bool)], r4_Cut.dec, hr_, fun res h => r4_Cut.dec_ok res _ h⟩
    · cases hs)
/-! ### partita/partitaref04.Read: function 6 -/
def r4_Read.out (r : Int × Int × Int × Int × Int) : Res := .ret (.tup [.agg [.int .i64 r.1, .int .i64 r.2.1, .int .i64 r.2.2.1, .int .i64 r.2.2.2.1], .int .i64 r.2.2.2.2])
def r4_Read.dec : Res → Option (Int × Int × Int × Int × Int)
  | .ret (.tup [.agg [.int .i64 y0, .int .i64 y1, .int .i64 y2, .int .i64 y3], .int .i64 y4]) => some (y0, y1, y2, y3, y4)
  | _ => none
theorem r4_Read.out_free (r : Int × Int × Int × Int × Int) : (r4_Read.out r).free = true := rfl
def r4_Read.sel (β : Type) (r : Int × Int × Int × Int × Int) (k : Res → Option β) : Option β := k (.ret (.tup [.agg [.int .i64 r.1, .int .i64 r.2.1, .int .i64 r.2.2.1, .int .i64 r.2.2.2.1], .int .i64 r.2.2.2.2]))
theorem r4_Read.sel_ok (β : Type) (t : Int × Int × Int × Int × Int) (k : Res → Option β) : r4_Read.sel β t k = k (r4_Read.out t) := rfl
theorem r4_Read.dec_ok (res : Res) (r : Int × Int × Int × Int × Int) (h : r4_Read.dec res = some r) : res = r4_Read.out r := by
  unfold r4_Read.dec at h
  split at h <;> first | (cases h; rfl) | cases h
def r4_Read.tells (f : ByteArray → Option (Int × Int × Int × Int × Int)) : Tells
  | [.str a0] => some (.mk (Int × Int × Int × Int × Int) (f a0) r4_Read.out r4_Read.sel r4_Read.sel_ok)
  | _ => none
def r4_Read.ce (f : ByteArray → Option (Int × Int × Int × Int × Int)) : CE := ⟨[.one (.str)], .flat, r4_Read.tells f⟩
def partitaref01_ReadNumber_Z2.out (r : Int × Bool) : Res := .ret (.tup [.int .i64 r.1, .bool r.2])
def partitaref01_ReadNumber_Z2.dec : Res → Option (Int × Bool)
  | .ret (.tup [.int .i64 y0, .bool y1]) => some (y0, y1)
  | _ => none
theorem partitaref01_ReadNumber_Z2.out_free (r : Int × Bool) : (partitaref01_ReadNumber_Z2.out r).free = true := rfl
def partitaref01_ReadNumber_Z2.sel (β : Type) (r : Int × Bool) (k : Res → Option β) : Option β := k (.ret (.tup [.int .i64 r.1, .bool r.2]))
theorem partitaref01_ReadNumber_Z2.sel_ok (β : Type) (t : Int × Bool) (k : Res → Option β) : partitaref01_ReadNumber_Z2.sel β t k = k (partitaref01_ReadNumber_Z2.out t) := rfl
theorem partitaref01_ReadNumber_Z2.dec_ok (res : Res) (r : Int × Bool) (h : partitaref01_ReadNumber_Z2.dec res = some r) : res = partitaref01_ReadNumber_Z2.out r := by
  unfold partitaref01_ReadNumber_Z2.dec at h
  split at h <;> first | (cases h; rfl) | cases h
def partitaref01_ReadNumber_Z2.tells (f : ByteArray → Option (Int × Bool)) : Tells
  | [.str a0] => some (.mk (Int × Bool) (f a0) partitaref01_ReadNumber_Z2.out partitaref01_ReadNumber_Z2.sel partitaref01_ReadNumber_Z2.sel_ok)
  | _ => none
def partitaref01_ReadNumber_Z2.ce (f : ByteArray → Option (Int × Bool)) : CE := ⟨[.one (.str)], .flat, partitaref01_ReadNumber_Z2.tells f⟩
theorem partitaref01_ReadNumber_Z2.ok (k : Nat) : CEOk Tryz.prog GW lay 24 (partitaref01_ReadNumber_Z2.ce (partitaref01_ReadNumber.f k)) :=
  tells_simple (fun args w => by kernel_rfl) fun args τ x out sel ok r hs hx => by
    unfold partitaref01_ReadNumber_Z2.tells at hs
    split at hs
    · cases hs
      exact ⟨rfl, _, rfl, rfl, fun w hw => partitaref01_ReadNumber.calls k _ r.1 r.2 w hx⟩
    · cases hs
def r4_Read.Γ (f11 : Int → Int → Int → Int → Option (ByteArray × Int)) (f23 : ByteArray → Int → Option (ByteArray × ByteArray × Bool)) (f24 : ByteArray → Option (Int × Bool)) (f25 : Int → Option (Int)) : List (Nat × CE) := [(11, r4_Text.ce f11), (23, r4_Cut.ce f23), (24, partitaref01_ReadNumber_Z2.ce f24), (25, r4_power.ce f25)]
def r4_Read.J6 : List (Nat × List Nat) := [(1, [19, 20, 21, 22, 23, 24]), (2, [25]), (3, [26, 27, 28, 29, 30, 31, 32, 33, 34, 35]), (4, [37, 38, 39, 40]), (5, [41, 42, 43, 44, 45]), (6, [46, 47, 48, 49, 50]), (7, [51, 52, 53, 54, 55, 56, 57, 58, 59]), (8, [61, 62, 63, 64]), (10, [12, 66, 67, 68, 69, 70, 71]), (11, [72, 73, 74, 75, 76]), (12, [77, 78, 79, 80, 81]), (13, [82, 83]), (14, [84, 85]), (15, [86, 87, 88, 89, 90, 91, 92]), (16, [93, 94, 95, 96, 97]), (17, [98, 99, 100, 101, 102, 103, 104, 105, 106, 107]), (18, [109]), (19, [110]), (1000036, [36]), (1000060, [60]), (1000065, [65]), (1000108, [108])]
def r4_Read.L3.T : TS := ⟨[.str, .junk, .ptr 0 0, .int .i64, .str, .str, .bool, .ptr 1 0, .junk, .junk, .junk, .junk, .junk, .junk, .junk, .junk, .junk, .junk, .junk, .junk, .junk, .junk, .junk, .junk, .junk, .junk, .junk, .junk, .junk, .junk, .junk, .junk, .junk, .junk, .junk, .junk, .junk, .junk, .junk, .junk, .junk, .junk, .junk, .junk, .junk, .junk, .junk, .junk, .junk, .junk, .junk, .junk, .junk, .junk, .junk, .junk, .junk, .junk, .junk, .junk, .junk, .junk, .junk, .junk, .junk, .junk, .junk, .junk, .junk, .junk, .junk, .junk, .junk, .junk, .junk, .junk, .junk, .junk, .junk, .junk, .junk, .junk, .junk, .junk, .junk, .junk, .junk, .junk, .junk, .junk, .junk, .junk, .junk, .junk, .junk, .junk, .junk, .junk, .junk, .junk, .junk, .junk, .junk, .junk, .junk, .junk, .junk, .junk, .junk, .junk, .junk], [.cells 23 [.int .i64, .int .i64, .int .i64, .int .i64] .own, .cells 23 [.int .i64, .int .i64, .int .i64, .int .i64] .own], 0, [(2, none), (7, none)]⟩
def r4_Read.L3.X0 : TS := ⟨[.str, .junk, .ptr 0 0, .int .i64, .str, .str, .bool, .ptr 1 0, .junk, .junk, .junk, .junk, .junk, .junk, .junk, .junk, .junk, .junk, .junk, .junk, .junk, .junk, .junk, .junk, .junk, .junk, .junk, .junk, .junk, .junk, .junk, .junk, .junk, .junk, .junk, .junk, .junk, .junk, .junk, .junk, .junk, .junk, .junk, .junk, .junk, .junk, .junk, .junk, .junk, .junk, .junk, .junk, .junk, .junk, .junk, .junk, .junk, .junk, .junk, .junk, .junk, .junk, .junk, .junk, .junk, .junk, .junk, .junk, .junk, .junk, .junk, .junk, .junk, .junk, .junk, .junk, .junk, .junk, .junk, .junk, .junk, .junk, .junk, .junk, .junk, .junk, .junk, .junk, .junk, .junk, .junk, .junk, .junk, .junk, .junk, .junk, .junk, .junk, .junk, .junk, .junk, .junk, .junk, .junk, .junk, .junk, .junk, .junk, .junk, .junk, .junk], [.cells 23 [.int .i64, .int .i64, .int .i64, .int .i64] .own, .cells 23 [.int .i64, .int .i64, .int .i64, .int .i64] .own], 0, [(2, none), (7, none)]⟩
def r4_Read.L3.X : List (Exit × TS) := [(.exit 0, r4_Read.L3.X0)]
def r4_Read.L3.dσ : List D → Option (ByteArray × Int × ByteArray × ByteArray × Bool × Int × Int × Int × Int × Int × Int × Int × Int)
  | [.str x0, .int x1, .str x2, .str x3, .bool x4, .int x5, .int x6, .int x7, .int x8, .int x9, .int x10, .int x11, .int x12] => some (x0, x1, x2, x3, x4, x5, x6, x7, x8, x9, x10, x11, x12)
  | _ => none
def r4_Read.L3.eσ (x : ByteArray × Int × ByteArray × ByteArray × Bool × Int × Int × Int × Int × Int × Int × Int × Int) : List D := [.str x.1, .int x.2.1, .str x.2.2.1, .str x.2.2.2.1, .bool x.2.2.2.2.1, .int x.2.2.2.2.2.1, .int x.2.2.2.2.2.2.1, .int x.2.2.2.2.2.2.2.1, .int x.2.2.2.2.2.2.2.2.1, .int x.2.2.2.2.2.2.2.2.2.1, .int x.2.2.2.2.2.2.2.2.2.2.1, .int x.2.2.2.2.2.2.2.2.2.2.2.1, .int x.2.2.2.2.2.2.2.2.2.2.2.2]
def r4_Read.L3.dτ : Nat → List D → Option (ByteArray × Int × ByteArray × ByteArray × Bool × Int × Int × Int × Int × Int × Int × Int × Int)
  | 0, [.str y0, .int y1, .str y2, .str y3, .bool y4, .int y5, .int y6, .int y7, .int y8, .int y9, .int y10, .int y11, .int y12] => some (y0, y1, y2, y3, y4, y5, y6, y7, y8, y9, y10, y11, y12)
  | _, _ => none
def r4_Read.L3.eτ (t : ByteArray × Int × ByteArray × ByteArray × Bool × Int × Int × Int × Int × Int × Int × Int × Int) : Nat × List D := (0, [.str t.1, .int t.2.1, .str t.2.2.1, .str t.2.2.2.1, .bool t.2.2.2.2.1, .int t.2.2.2.2.2.1, .int t.2.2.2.2.2.2.1, .int t.2.2.2.2.2.2.2.1, .int t.2.2.2.2.2.2.2.2.1, .int t.2.2.2.2.2.2.2.2.2.1, .int t.2.2.2.2.2.2.2.2.2.2.1, .int t.2.2.2.2.2.2.2.2.2.2.2.1, .int t.2.2.2.2.2.2.2.2.2.2.2.2])
def r4_Read.L3.sel (β : Type) (t : ByteArray × Int × ByteArray × ByteArray × Bool × Int × Int × Int × Int × Int × Int × Int × Int) (k : Exit → Fr → Hp → Option β) : Option β := k (.exit 0) (bldS r4_Read.L3.X0 [.str t.1, .int t.2.1, .str t.2.2.1, .str t.2.2.2.1, .bool t.2.2.2.2.1, .int t.2.2.2.2.2.1, .int t.2.2.2.2.2.2.1, .int t.2.2.2.2.2.2.2.1, .int t.2.2.2.2.2.2.2.2.1, .int t.2.2.2.2.2.2.2.2.2.1, .int t.2.2.2.2.2.2.2.2.2.2.1, .int t.2.2.2.2.2.2.2.2.2.2.2.1, .int t.2.2.2.2.2.2.2.2.2.2.2.2]).1 (bldS r4_Read.L3.X0 [.str t.1, .int t.2.1, .str t.2.2.1, .str t.2.2.2.1, .bool t.2.2.2.2.1, .int t.2.2.2.2.2.1, .int t.2.2.2.2.2.2.1, .int t.2.2.2.2.2.2.2.1, .int t.2.2.2.2.2.2.2.2.1, .int t.2.2.2.2.2.2.2.2.2.1, .int t.2.2.2.2.2.2.2.2.2.2.1, .int t.2.2.2.2.2.2.2.2.2.2.2.1, .int t.2.2.2.2.2.2.2.2.2.2.2.2]).2
theorem r4_Read.L3.sel_ok (β : Type) (t : ByteArray × Int × ByteArray × ByteArray × Bool × Int × Int × Int × Int × Int × Int × Int × Int) (k : Exit → Fr → Hp → Option β) : r4_Read.L3.sel β t k = k (endA r4_Read.L3.X r4_Read.L3.eτ t).1 (endA r4_Read.L3.X r4_Read.L3.eτ t).2.1 (endA r4_Read.L3.X r4_Read.L3.eτ t).2.2 := by rfl
theorem r4_Read.L3.dσ_ok (d : List D) (x : ByteArray × Int × ByteArray × ByteArray × Bool × Int × Int × Int × Int × Int × Int × Int × Int) (h : r4_Read.L3.dσ d = some x) : r4_Read.L3.eσ x = d := by
  unfold r4_Read.L3.dσ at h
  split at h <;> first | (cases h; rfl) | cases h
theorem r4_Read.L3.dτ_ok (i : Nat) (d : List D) (t : ByteArray × Int × ByteArray × ByteArray × Bool × Int × Int × Int × Int × Int × Int × Int × Int) (h : r4_Read.L3.dτ i d = some t) : r4_Read.L3.eτ t = (i, d) := by
  unfold r4_Read.L3.dτ at h
  split at h <;> first | (cases h; rfl) | cases h
def r4_Read.L3.S (K : Nat) (f11 : Int → Int → Int → Int → Option (ByteArray × Int)) (f23 : ByteArray → Int → Option (ByteArray × ByteArray × Bool)) (f24 : ByteArray → Option (Int × Bool)) (f25 : Int → Option (Int)) (rec : (ByteArray × Int × ByteArray × ByteArray × Bool × Int × Int × Int × Int × Int × Int × Int × Int) → Option (ByteArray × Int × ByteArray × ByteArray × Bool × Int × Int × Int × Int × Int × Int × Int × Int)) (x0 : ByteArray) (x1 : Int) (x2 : ByteArray) (x3 : ByteArray) (x4 : Bool) (x5 : Int) (x6 : Int) (x7 : Int) (x8 : Int) (x9 : Int) (x10 : Int) (x11 : Int) (x12 : Int) : Option (ByteArray × Int × ByteArray × ByteArray × Bool × Int × Int × Int × Int × Int × Int × Int × Int) :=
  bif decide ((↑x2.size : Int) > (0 : Int)) then if (0 : Int) ≤ IntKind.i64.wrap ((↑x2.size : Int) - (1 : Int)) ∧ IntKind.i64.wrap ((↑x2.size : Int) - (1 : Int)) < (↑x2.size : Int) then bif byteAt x2 (IntKind.i64.wrap ((↑x2.size : Int) - (1 : Int))) == (46 : Int) then if (0 : Int) ≤ IntKind.i64.wrap ((↑x2.size : Int) - (1 : Int)) ∧ IntKind.i64.wrap ((↑x2.size : Int) - (1 : Int)) ≤ (↑x2.size : Int) then if (0 : Int) ≤ (0 : Int) ∧ (0 : Int) ≤ IntKind.i64.wrap ((↑x2.size : Int) - (1 : Int)) then rec (x0, x1, x2.extract (Int.toNat (0 : Int)) (IntKind.i64.wrap ((↑x2.size : Int) - (1 : Int))).toNat, x3, x4, x5, x6, x7, x8, x9, IntKind.i64.wrap (x10 + (1 : Int)), x11, x12) else none else none else some (x0, x1, x2, x3, x4, x5, x6, x7, x8, x9, x10, x11, x12) else none else some (x0, x1, x2, x3, x4, x5, x6, x7, x8, x9, x10, x11, x12)
set_option maxRecDepth 100000 in
theorem r4_Read.L3.step (K : Nat) (f11 : Int → Int → Int → Int → Option (ByteArray × Int)) (f23 : ByteArray → Int → Option (ByteArray × ByteArray × Bool)) (f24 : ByteArray → Option (Int × Bool)) (f25 : Int → Option (Int)) (rec : (ByteArray × Int × ByteArray × ByteArray × Bool × Int × Int × Int × Int × Int × Int × Int × Int) → Option (ByteArray × Int × ByteArray × ByteArray × Bool × Int × Int × Int × Int × Int × Int × Int × Int)) (x0 : ByteArray) (x1 : Int) (x2 : ByteArray) (x3 : ByteArray) (x4 : Bool) (x5 : Int) (x6 : Int) (x7 : Int) (x8 : Int) (x9 : Int) (x10 : Int) (x11 : Int) (x12 : Int) : execA Tryz.prog lay (r4_Read.Γ f11 f23 f24 f25) [] (inlA Tryz.prog lay (r4_Read.Γ f11 f23 f24 f25) [] 3) ⟨r4_Read.J6, [], 0⟩ 0 (loopAt Tryz.f6 0) (bldS r4_Read.L3.T (r4_Read.L3.eσ (x0, x1, x2, x3, x4, x5, x6, x7, x8, x9, x10, x11, x12))).1 (bldS r4_Read.L3.T (r4_Read.L3.eσ (x0, x1, x2, x3, x4, x5, x6, x7, x8, x9, x10, x11, x12))).2 (contA r4_Read.L3.T r4_Read.L3.X r4_Read.L3.dσ r4_Read.L3.dτ rec) = r4_Read.L3.S K f11 f23 f24 f25 rec x0 x1 x2 x3 x4 x5 x6 x7 x8 x9 x10 x11 x12 := by kernel_rfl
def r4_Read.L3 (K : Nat) (f11 : Int → Int → Int → Int → Option (ByteArray × Int)) (f23 : ByteArray → Int → Option (ByteArray × ByteArray × Bool)) (f24 : ByteArray → Option (Int × Bool)) (f25 : Int → Option (Int)) : Nat → (ByteArray × Int × ByteArray × ByteArray × Bool × Int × Int × Int × Int × Int × Int × Int × Int) → Option (ByteArray × Int × ByteArray × ByteArray × Bool × Int × Int × Int × Int × Int × Int × Int × Int)
  | 0, _ => none
  | k + 1, x => r4_Read.L3.S K f11 f23 f24 f25 (r4_Read.L3 K f11 f23 f24 f25 k) x.1 x.2.1 x.2.2.1 x.2.2.2.1 x.2.2.2.2.1 x.2.2.2.2.2.1 x.2.2.2.2.2.2.1 x.2.2.2.2.2.2.2.1 x.2.2.2.2.2.2.2.2.1 x.2.2.2.2.2.2.2.2.2.1 x.2.2.2.2.2.2.2.2.2.2.1 x.2.2.2.2.2.2.2.2.2.2.2.1 x.2.2.2.2.2.2.2.2.2.2.2.2
theorem r4_Read.L3.ok (K : Nat) (f11 : Int → Int → Int → Int → Option (ByteArray × Int)) (f23 : ByteArray → Int → Option (ByteArray × ByteArray × Bool)) (f24 : ByteArray → Option (Int × Bool)) (f25 : Int → Option (Int)) {B : Nat} {wB : World} (stab_ : ∀ w', Bel B wB w' → GW w') (hΓ_ : AllOk Tryz.prog GW lay (r4_Read.Γ f11 f23 f24 f25)) (Kr : Nat) : LSOk Tryz.prog lay B wB [] 0 (sumA r4_Read.L3.T r4_Read.L3.X r4_Read.L3.dσ r4_Read.L3.eτ r4_Read.L3.sel r4_Read.L3.sel_ok (r4_Read.L3 K f11 f23 f24 f25 Kr)) (loopAt Tryz.f6 0) :=
  loop_mk (by kernel_rfl) hΓ_ stab_ (inlA_ok (by kernel_rfl) hΓ_ stab_ in_nil 3) (C := ⟨r4_Read.J6, [], 0⟩) (allL_of (l := []) (by kernel_rfl) allL_nil) (by decide) (by decide) r4_Read.L3.dσ_ok r4_Read.L3.dτ_ok (fun _ => rfl) (fun k x => (r4_Read.L3.step K f11 f23 f24 f25 (r4_Read.L3 K f11 f23 f24 f25 k) x.1 x.2.1 x.2.2.1 x.2.2.2.1 x.2.2.2.2.1 x.2.2.2.2.2.1 x.2.2.2.2.2.2.1 x.2.2.2.2.2.2.2.1 x.2.2.2.2.2.2.2.2.1 x.2.2.2.2.2.2.2.2.2.1 x.2.2.2.2.2.2.2.2.2.2.1 x.2.2.2.2.2.2.2.2.2.2.2.1 x.2.2.2.2.2.2.2.2.2.2.2.2).symm) Kr
def r4_Read.L7.T : TS := ⟨[.str, .junk, .ptr 0 0, .int .i64, .junk, .str, .bool, .ptr 1 0, .int .i64, .bool, .junk, .junk, .junk, .junk, .junk, .junk, .junk, .junk, .junk, .junk, .junk, .junk, .junk, .junk, .junk, .junk, .junk, .junk, .junk, .junk, .junk, .junk, .junk, .junk, .junk, .junk, .junk, .junk, .junk, .junk, .junk, .junk, .junk, .junk, .junk, .junk, .junk, .junk, .junk, .junk, .junk, .junk, .junk, .junk, .junk, .junk, .junk, .junk, .junk, .junk, .junk, .junk, .junk, .junk, .junk, .junk, .junk, .junk, .junk, .junk, .junk, .junk, .junk, .junk, .junk, .junk, .junk, .junk, .junk, .junk, .junk, .junk, .junk, .junk, .junk, .junk, .junk, .junk, .junk, .junk, .junk, .junk, .junk, .junk, .junk, .junk, .junk, .junk, .junk, .junk, .junk, .junk, .junk, .junk, .junk, .junk, .junk, .junk, .junk, .junk, .junk], [.cells 23 [.int .i64, .int .i64, .int .i64, .int .i64] .own, .cells 23 [.int .i64, .int .i64, .int .i64, .int .i64] .own], 0, [(2, none), (7, none)]⟩
def r4_Read.L7.X0 : TS := ⟨[.str, .junk, .ptr 0 0, .int .i64, .junk, .str, .bool, .ptr 1 0, .junk, .bool, .junk, .junk, .junk, .junk, .junk, .junk, .junk, .junk, .junk, .junk, .junk, .junk, .junk, .junk, .junk, .junk, .junk, .junk, .junk, .junk, .junk, .junk, .junk, .junk, .junk, .junk, .junk, .junk, .junk, .junk, .junk, .junk, .junk, .junk, .junk, .junk, .junk, .junk, .junk, .junk, .junk, .junk, .junk, .junk, .junk, .junk, .junk, .junk, .junk, .junk, .junk, .junk, .junk, .junk, .junk, .junk, .junk, .junk, .junk, .junk, .junk, .junk, .junk, .junk, .junk, .junk, .junk, .junk, .junk, .junk, .junk, .junk, .junk, .junk, .junk, .junk, .junk, .junk, .junk, .junk, .junk, .junk, .junk, .junk, .junk, .junk, .junk, .junk, .junk, .junk, .junk, .junk, .junk, .junk, .junk, .junk, .junk, .junk, .junk, .junk, .junk], [.cells 23 [.int .i64, .int .i64, .int .i64, .int .i64] .own, .cells 23 [.int .i64, .int .i64, .int .i64, .int .i64] .own], 0, [(2, none), (7, none)]⟩
def r4_Read.L7.X : List (Exit × TS) := [(.exit 2, r4_Read.L7.X0)]
def r4_Read.L7.dσ : List D → Option (ByteArray × Int × ByteArray × Bool × Int × Bool × Int × Int × Int × Int × Int × Int × Int × Int)
  | [.str x0, .int x1, .str x2, .bool x3, .int x4, .bool x5, .int x6, .int x7, .int x8, .int x9, .int x10, .int x11, .int x12, .int x13] => some (x0, x1, x2, x3, x4, x5, x6, x7, x8, x9, x10, x11, x12, x13)
  | _ => none
def r4_Read.L7.eσ (x : ByteArray × Int × ByteArray × Bool × Int × Bool × Int × Int × Int × Int × Int × Int × Int × Int) : List D := [.str x.1, .int x.2.1, .str x.2.2.1, .bool x.2.2.2.1, .int x.2.2.2.2.1, .bool x.2.2.2.2.2.1, .int x.2.2.2.2.2.2.1, .int x.2.2.2.2.2.2.2.1, .int x.2.2.2.2.2.2.2.2.1, .int x.2.2.2.2.2.2.2.2.2.1, .int x.2.2.2.2.2.2.2.2.2.2.1, .int x.2.2.2.2.2.2.2.2.2.2.2.1, .int x.2.2.2.2.2.2.2.2.2.2.2.2.1, .int x.2.2.2.2.2.2.2.2.2.2.2.2.2]
def r4_Read.L7.dτ : Nat → List D → Option (ByteArray × Int × ByteArray × Bool × Bool × Int × Int × Int × Int × Int × Int × Int × Int)
  | 0, [.str y0, .int y1, .str y2, .bool y3, .bool y4, .int y5, .int y6, .int y7, .int y8, .int y9, .int y10, .int y11, .int y12] => some (y0, y1, y2, y3, y4, y5, y6, y7, y8, y9, y10, y11, y12)
  | _, _ => none
def r4_Read.L7.eτ (t : ByteArray × Int × ByteArray × Bool × Bool × Int × Int × Int × Int × Int × Int × Int × Int) : Nat × List D := (0, [.str t.1, .int t.2.1, .str t.2.2.1, .bool t.2.2.2.1, .bool t.2.2.2.2.1, .int t.2.2.2.2.2.1, .int t.2.2.2.2.2.2.1, .int t.2.2.2.2.2.2.2.1, .int t.2.2.2.2.2.2.2.2.1, .int t.2.2.2.2.2.2.2.2.2.1, .int t.2.2.2.2.2.2.2.2.2.2.1, .int t.2.2.2.2.2.2.2.2.2.2.2.1, .int t.2.2.2.2.2.2.2.2.2.2.2.2])
def r4_Read.L7.sel (β : Type) (t : ByteArray × Int × ByteArray × Bool × Bool × Int × Int × Int × Int × Int × Int × Int × Int) (k : Exit → Fr → Hp → Option β) : Option β := k (.exit 2) (bldS r4_Read.L7.X0 [.str t.1, .int t.2.1, .str t.2.2.1, .bool t.2.2.2.1, .bool t.2.2.2.2.1, .int t.2.2.2.2.2.1, .int t.2.2.2.2.2.2.1, .int t.2.2.2.2.2.2.2.1, .int t.2.2.2.2.2.2.2.2.1, .int t.2.2.2.2.2.2.2.2.2.1, .int t.2.2.2.2.2.2.2.2.2.2.1, .int t.2.2.2.2.2.2.2.2.2.2.2.1, .int t.2.2.2.2.2.2.2.2.2.2.2.2]).1 (bldS r4_Read.L7.X0 [.str t.1, .int t.2.1, .str t.2.2.1, .bool t.2.2.2.1, .bool t.2.2.2.2.1, .int t.2.2.2.2.2.1, .int t.2.2.2.2.2.2.1, .int t.2.2.2.2.2.2.2.1, .int t.2.2.2.2.2.2.2.2.1, .int t.2.2.2.2.2.2.2.2.2.1, .int t.2.2.2.2.2.2.2.2.2.2.1, .int t.2.2.2.2.2.2.2.2.2.2.2.1, .int t.2.2.2.2.2.2.2.2.2.2.2.2]).2
theorem r4_Read.L7.sel_ok (β : Type) (t : ByteArray × Int × ByteArray × Bool × Bool × Int × Int × Int × Int × Int × Int × Int × Int) (k : Exit → Fr → Hp → Option β) : r4_Read.L7.sel β t k = k (endA r4_Read.L7.X r4_Read.L7.eτ t).1 (endA r4_Read.L7.X r4_Read.L7.eτ t).2.1 (endA r4_Read.L7.X r4_Read.L7.eτ t).2.2 := by rfl
theorem r4_Read.L7.dσ_ok (d : List D) (x : ByteArray × Int × ByteArray × Bool × Int × Bool × Int × Int × Int × Int × Int × Int × Int × Int) (h : r4_Read.L7.dσ d = some x) : r4_Read.L7.eσ x = d := by
  unfold r4_Read.L7.dσ at h
  split at h <;> first | (cases h; rfl) | cases h
theorem r4_Read.L7.dτ_ok (i : Nat) (d : List D) (t : ByteArray × Int × ByteArray × Bool × Bool × Int × Int × Int × Int × Int × Int × Int × Int) (h : r4_Read.L7.dτ i d = some t) : r4_Read.L7.eτ t = (i, d) := by
  unfold r4_Read.L7.dτ at h
  split at h <;> first | (cases h; rfl) | cases h
def r4_Read.L7.S (K : Nat) (f11 : Int → Int → Int → Int → Option (ByteArray × Int)) (f23 : ByteArray → Int → Option (ByteArray × ByteArray × Bool)) (f24 : ByteArray → Option (Int × Bool)) (f25 : Int → Option (Int)) (rec : (ByteArray × Int × ByteArray × Bool × Int × Bool × Int × Int × Int × Int × Int × Int × Int × Int) → Option (ByteArray × Int × ByteArray × Bool × Bool × Int × Int × Int × Int × Int × Int × Int × Int)) (x0 : ByteArray) (x1 : Int) (x2 : ByteArray) (x3 : Bool) (x4 : Int) (x5 : Bool) (x6 : Int) (x7 : Int) (x8 : Int) (x9 : Int) (x10 : Int) (x11 : Int) (x12 : Int) (x13 : Int) : Option (ByteArray × Int × ByteArray × Bool × Bool × Int × Int × Int × Int × Int × Int × Int × Int) :=
  bif decide (x10 < (6 : Int)) then (f25 x10).bind fun v1 => bif decide (v1 < x4) then rec (x0, x1, x2, x3, x4, x5, x6, x7, x8, x9, IntKind.i64.wrap (x10 + (1 : Int)), x11, x12, x13) else some (x0, x1, x2, x3, x5, x6, x7, x8, x9, x10, x11, x12, x13) else some (x0, x1, x2, x3, x5, x6, x7, x8, x9, x10, x11, x12, x13)
set_option maxRecDepth 100000 in
theorem r4_Read.L7.step (K : Nat) (f11 : Int → Int → Int → Int → Option (ByteArray × Int)) (f23 : ByteArray → Int → Option (ByteArray × ByteArray × Bool)) (f24 : ByteArray → Option (Int × Bool)) (f25 : Int → Option (Int)) (rec : (ByteArray × Int × ByteArray × Bool × Int × Bool × Int × Int × Int × Int × Int × Int × Int × Int) → Option (ByteArray × Int × ByteArray × Bool × Bool × Int × Int × Int × Int × Int × Int × Int × Int)) (x0 : ByteArray) (x1 : Int) (x2 : ByteArray) (x3 : Bool) (x4 : Int) (x5 : Bool) (x6 : Int) (x7 : Int) (x8 : Int) (x9 : Int) (x10 : Int) (x11 : Int) (x12 : Int) (x13 : Int) : execA Tryz.prog lay (r4_Read.Γ f11 f23 f24 f25) [] (inlA Tryz.prog lay (r4_Read.Γ f11 f23 f24 f25) [] 3) ⟨r4_Read.J6, [], 0⟩ 0 (loopAt Tryz.f6 1) (bldS r4_Read.L7.T (r4_Read.L7.eσ (x0, x1, x2, x3, x4, x5, x6, x7, x8, x9, x10, x11, x12, x13))).1 (bldS r4_Read.L7.T (r4_Read.L7.eσ (x0, x1, x2, x3, x4, x5, x6, x7, x8, x9, x10, x11, x12, x13))).2 (contA r4_Read.L7.T r4_Read.L7.X r4_Read.L7.dσ r4_Read.L7.dτ rec) = r4_Read.L7.S K f11 f23 f24 f25 rec x0 x1 x2 x3 x4 x5 x6 x7 x8 x9 x10 x11 x12 x13 := by kernel_rfl
def r4_Read.L7 (K : Nat) (f11 : Int → Int → Int → Int → Option (ByteArray × Int)) (f23 : ByteArray → Int → Option (ByteArray × ByteArray × Bool)) (f24 : ByteArray → Option (Int × Bool)) (f25 : Int → Option (Int)) : Nat → (ByteArray × Int × ByteArray × Bool × Int × Bool × Int × Int × Int × Int × Int × Int × Int × Int) → Option (ByteArray × Int × ByteArray × Bool × Bool × Int × Int × Int × Int × Int × Int × Int × Int)
  | 0, _ => none
  | k + 1, x => r4_Read.L7.S K f11 f23 f24 f25 (r4_Read.L7 K f11 f23 f24 f25 k) x.1 x.2.1 x.2.2.1 x.2.2.2.1 x.2.2.2.2.1 x.2.2.2.2.2.1 x.2.2.2.2.2.2.1 x.2.2.2.2.2.2.2.1 x.2.2.2.2.2.2.2.2.1 x.2.2.2.2.2.2.2.2.2.1 x.2.2.2.2.2.2.2.2.2.2.1 x.2.2.2.2.2.2.2.2.2.2.2.1 x.2.2.2.2.2.2.2.2.2.2.2.2.1 x.2.2.2.2.2.2.2.2.2.2.2.2.2
theorem r4_Read.L7.ok (K : Nat) (f11 : Int → Int → Int → Int → Option (ByteArray × Int)) (f23 : ByteArray → Int → Option (ByteArray × ByteArray × Bool)) (f24 : ByteArray → Option (Int × Bool)) (f25 : Int → Option (Int)) {B : Nat} {wB : World} (stab_ : ∀ w', Bel B wB w' → GW w') (hΓ_ : AllOk Tryz.prog GW lay (r4_Read.Γ f11 f23 f24 f25)) (Kr : Nat) : LSOk Tryz.prog lay B wB [] 0 (sumA r4_Read.L7.T r4_Read.L7.X r4_Read.L7.dσ r4_Read.L7.eτ r4_Read.L7.sel r4_Read.L7.sel_ok (r4_Read.L7 K f11 f23 f24 f25 Kr)) (loopAt Tryz.f6 1) :=
  loop_mk (by kernel_rfl) hΓ_ stab_ (inlA_ok (by kernel_rfl) hΓ_ stab_ in_nil 3) (C := ⟨r4_Read.J6, [], 0⟩) (allL_of (l := []) (by kernel_rfl) allL_nil) (by decide) (by decide) r4_Read.L7.dσ_ok r4_Read.L7.dτ_ok (fun _ => rfl) (fun k x => (r4_Read.L7.step K f11 f23 f24 f25 (r4_Read.L7 K f11 f23 f24 f25 k) x.1 x.2.1 x.2.2.1 x.2.2.2.1 x.2.2.2.2.1 x.2.2.2.2.2.1 x.2.2.2.2.2.2.1 x.2.2.2.2.2.2.2.1 x.2.2.2.2.2.2.2.2.1 x.2.2.2.2.2.2.2.2.2.1 x.2.2.2.2.2.2.2.2.2.2.1 x.2.2.2.2.2.2.2.2.2.2.2.1 x.2.2.2.2.2.2.2.2.2.2.2.2.1 x.2.2.2.2.2.2.2.2.2.2.2.2.2).symm) Kr
def r4_Read.t.J4 (f11 : Int → Int → Int → Int → Option (ByteArray × Int)) (v4 : ByteArray × Int × ByteArray × Bool × Bool × Int × Int × Int × Int × Int × Int × Int × Int) (v7 : Int × Bool) (v8 : Int × Bool) : Option (Int × Int × Int × Int × Int) :=
  (f11 v4.snd.snd.snd.snd.snd.snd.snd.snd.snd.fst v4.snd.snd.snd.snd.snd.snd.snd.snd.snd.snd.fst v7.fst v8.fst).bind fun v9 => some ((0 : Int), (0 : Int), (0 : Int), (0 : Int), (12 : Int))
def r4_Read.t (K : Nat) (f11 : Int → Int → Int → Int → Option (ByteArray × Int)) (f23 : ByteArray → Int → Option (ByteArray × ByteArray × Bool)) (f24 : ByteArray → Option (Int × Bool)) (f25 : Int → Option (Int)) (a0 : ByteArray) : Option (Int × Int × Int × Int × Int) :=
  (f23 a0 (42 : Int)).bind fun v1 => (r4_Read.L3 K f11 f23 f24 f25 K (a0, (0 : Int), v1.fst, v1.snd.fst, v1.snd.snd, (0 : Int), (0 : Int), (0 : Int), (0 : Int), (0 : Int), (0 : Int), (0 : Int), (0 : Int))).bind fun v2 => (f24 v2.snd.snd.fst).bind fun v3 => (r4_Read.L7 K f11 f23 f24 f25 K (v2.fst, v2.snd.fst, v2.snd.snd.snd.fst, v2.snd.snd.snd.snd.fst, v3.fst, v3.snd, v2.snd.snd.snd.snd.snd.fst, v2.snd.snd.snd.snd.snd.snd.fst, v2.snd.snd.snd.snd.snd.snd.snd.fst, v2.snd.snd.snd.snd.snd.snd.snd.snd.fst, v2.snd.snd.snd.snd.snd.snd.snd.snd.snd.fst, v2.snd.snd.snd.snd.snd.snd.snd.snd.snd.snd.fst, v2.snd.snd.snd.snd.snd.snd.snd.snd.snd.snd.snd.fst, v2.snd.snd.snd.snd.snd.snd.snd.snd.snd.snd.snd.snd)).bind fun v4 => bif v4.snd.snd.snd.fst then (f23 v4.snd.snd.fst (58 : Int)).bind fun v6 => (f24 v6.fst).bind fun v7 => (f24 v6.snd.fst).bind fun v8 => bif v4.snd.snd.snd.snd.fst then bif v7.snd then (f11 v4.snd.snd.snd.snd.snd.snd.snd.snd.snd.fst v4.snd.snd.snd.snd.snd.snd.snd.snd.snd.snd.fst v7.fst v8.fst).bind fun v10 => bif !v8.snd then some ((0 : Int), (0 : Int), (0 : Int), (0 : Int), (12 : Int)) else bif !v10.snd == (0 : Int) then some ((0 : Int), (0 : Int), (0 : Int), (0 : Int), (12 : Int)) else bif !v10.fst.toList == v4.fst.toList then some ((0 : Int), (0 : Int), (0 : Int), (0 : Int), (12 : Int)) else some (v4.snd.snd.snd.snd.snd.snd.snd.snd.snd.fst, v4.snd.snd.snd.snd.snd.snd.snd.snd.snd.snd.fst, v7.fst, v8.fst, (0 : Int)) else r4_Read.t.J4 f11 v4 v7 v8 else r4_Read.t.J4 f11 v4 v7 v8 else (f11 v4.snd.snd.snd.snd.snd.snd.snd.snd.snd.fst v4.snd.snd.snd.snd.snd.snd.snd.snd.snd.snd.fst v4.snd.snd.snd.snd.snd.snd.snd.snd.snd.snd.snd.fst v4.snd.snd.snd.snd.snd.snd.snd.snd.snd.snd.snd.snd).bind fun v5 => bif !v4.snd.snd.snd.snd.fst then some ((0 : Int), (0 : Int), (0 : Int), (0 : Int), (12 : Int)) else bif !v5.snd == (0 : Int) then some ((0 : Int), (0 : Int), (0 : Int), (0 : Int), (12 : Int)) else bif !v5.fst.toList == v4.fst.toList then some ((0 : Int), (0 : Int), (0 : Int), (0 : Int), (12 : Int)) else some (v4.snd.snd.snd.snd.snd.snd.snd.snd.snd.fst, v4.snd.snd.snd.snd.snd.snd.snd.snd.snd.snd.fst, v4.snd.snd.snd.snd.snd.snd.snd.snd.snd.snd.snd.fst, v4.snd.snd.snd.snd.snd.snd.snd.snd.snd.snd.snd.snd, (0 : Int))
set_option maxRecDepth 100000 in
theorem r4_Read.run (K : Nat) (f11 : Int → Int → Int → Int → Option (ByteArray × Int)) (f23 : ByteArray → Int → Option (ByteArray × ByteArray × Bool)) (f24 : ByteArray → Option (Int × Bool)) (f25 : Int → Option (Int)) (a0 : ByteArray) : runA Tryz.prog lay (r4_Read.Γ f11 f23 f24 f25) [] [] 3 ⟨r4_Read.J6, [(3, 0, sumA r4_Read.L3.T r4_Read.L3.X r4_Read.L3.dσ r4_Read.L3.eτ r4_Read.L3.sel r4_Read.L3.sel_ok (r4_Read.L3 K f11 f23 f24 f25 K)), (7, 0, sumA r4_Read.L7.T r4_Read.L7.X r4_Read.L7.dσ r4_Read.L7.eτ r4_Read.L7.sel r4_Read.L7.sel_ok (r4_Read.L7 K f11 f23 f24 f25 K))], 0⟩ Tryz.f6 [.str a0] [] [.agg [.int .i64, .int .i64, .int .i64, .int .i64], .one (.int .i64)] r4_Read.dec = r4_Read.t K f11 f23 f24 f25 a0 := by kernel_rfl
def r4_Read.f (k : Nat) (a0 : ByteArray) : Option (Int × Int × Int × Int × Int) := r4_Read.t k (r4_Text.f k) (r4_Cut.f k) (partitaref01_ReadNumber.f k) (r4_power.f k) a0
theorem r4_Read.allOk (k : Nat) : AllOk Tryz.prog GW lay (r4_Read.Γ (r4_Text.f k) (r4_Cut.f k) (partitaref01_ReadNumber.f k) (r4_power.f k)) := (allOk_cons (r4_Text.ok k) (allOk_cons (r4_Cut.ok k) (allOk_cons (partitaref01_ReadNumber_Z2.ok k) (allOk_cons (r4_power.ok k) allOk_nil))))
theorem r4_Read.ok (k : Nat) : CEOk Tryz.prog GW lay 6 (r4_Read.ce (r4_Read.f k)) := by
  have hΓ_ := r4_Read.allOk k
  exact tells_mk (by kernel_rfl) hΓ_ Tryz.func6 (fun args w => by kernel_rfl) (fun w w' h hb => h.step hb) no_globals (fun B wB stab_ => in_nil) (C := ⟨r4_Read.J6, [(3, 0, sumA r4_Read.L3.T r4_Read.L3.X r4_Read.L3.dσ r4_Read.L3.eτ r4_Read.L3.sel r4_Read.L3.sel_ok (r4_Read.L3 k (r4_Text.f k) (r4_Cut.f k) (partitaref01_ReadNumber.f k) (r4_power.f k) k)), (7, 0, sumA r4_Read.L7.T r4_Read.L7.X r4_Read.L7.dσ r4_Read.L7.eτ r4_Read.L7.sel r4_Read.L7.sel_ok (r4_Read.L7 k (r4_Text.f k) (r4_Cut.f k) (partitaref01_ReadNumber.f k) (r4_power.f k) k))], 0⟩) (fun B wB stab_ => bodyL (allL_of (l := [loopAt Tryz.f6 0, loopAt Tryz.f6 1]) (by kernel_rfl) (allL_cons (by kernel_rfl) (r4_Read.L3.ok k (r4_Text.f k) (r4_Cut.f k) (partitaref01_ReadNumber.f k) (r4_power.f k) stab_ hΓ_ k) (allL_cons (by kernel_rfl) (r4_Read.L7.ok k (r4_Text.f k) (r4_Cut.f k) (partitaref01_ReadNumber.f k) (r4_power.f k) stab_ hΓ_ k) allL_nil)))) (fun args τ x out sel ok r hs hx => by
    unfold r4_Read.tells at hs
    split at hs
    · rename_i a0
      cases hs
      unfold r4_Read.f at hx
      have hr_ := r4_Read.run k (r4_Text.f k) (r4_Cut.f k) (partitaref01_ReadNumber.f k) (r4_power.f k) a0
      rw [hx] at hr_
      exact ⟨rfl, r4_Read.out_free _, 3, [.agg [.int .i64, .int .i64, .int .i64, .int .i64], .one (.int .i64)], r4_Read.dec, hr_, fun res h => r4_Read.dec_ok res _ h⟩
    · cases hs)

end Go.Proofs.YtajbnfidcpfonaaGreatDoor.M
