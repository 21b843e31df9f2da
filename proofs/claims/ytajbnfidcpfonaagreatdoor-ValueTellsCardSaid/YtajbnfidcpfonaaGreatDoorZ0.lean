/- Go functions as the machine tells them. -/
import Derived.Test.YtajbnfidcpfonaaGreatDoorProg
import Derived.Test.YtajbnfidcpfonaaGreatDoorQ10
import Derived.Test.YtajbnfidcpfonaaGreatDoorM0
import Derived.Test.YtajbnfidcpfonaaGreatDoorLay
import Derived.Test.YtajbnfidcpfonaaGreatDoorM26
set_option linter.unusedVariables false
set_option linter.unusedSimpArgs false
set_option maxRecDepth 100000
namespace Go.Proofs.YtajbnfidcpfonaaGreatDoor.M
open Go Go.RowKit Go.Proofs Go.Proofs.Qx Go.Proofs.YtajbnfidcpfonaaGreatDoorW.PrintWords Go.Proofs.YtajbnfidcpfonaaGreatDoorW.PrintLast Go.Proofs.YtajbnfidcpfonaaGreatDoorW.PrintMore

/-! ### partita/partitaref01.Right: function 56 -/
def r1_Right.out (r : Bool) : Res := .ret (.bool r)
def r1_Right.dec : Res → Option (Bool)
  | .ret (.bool y0) => some y0
  | _ => none
theorem r1_Right.out_free (r : Bool) : (r1_Right.out r).free = true := rfl
def r1_Right.sel (β : Type) (r : Bool) (k : Res → Option β) : Option β := k (.ret (.bool r))
theorem r1_Right.sel_ok (β : Type) (t : Bool) (k : Res → Option β) : r1_Right.sel β t k = k (r1_Right.out t) := rfl
theorem r1_Right.dec_ok (res : Res) (r : Bool) (h : r1_Right.dec res = some r) : res = r1_Right.out r := by
  unfold r1_Right.dec at h
  split at h <;> first | (cases h; rfl) | cases h
def r1_Right.tells (f : Int → Int → Option (Bool)) : Tells
  | [.agg [.int .i64 a0, .int .i64 a1]] => some (.mk (Bool) (f a0 a1) r1_Right.out r1_Right.sel r1_Right.sel_ok)
  | _ => none
def r1_Right.ce (f : Int → Int → Option (Bool)) : CE := ⟨[.agg [.int .i64, .int .i64]], .flat, r1_Right.tells f⟩
def partitaref01_Of_Z0.out (r : Int × Int × Int) : Res := .ret (.tup [.agg [.int .i64 r.1, .int .i64 r.2.1], .int .i64 r.2.2])
def partitaref01_Of_Z0.dec : Res → Option (Int × Int × Int)
  | .ret (.tup [.agg [.int .i64 y0, .int .i64 y1], .int .i64 y2]) => some (y0, y1, y2)
  | _ => none
theorem partitaref01_Of_Z0.out_free (r : Int × Int × Int) : (partitaref01_Of_Z0.out r).free = true := rfl
def partitaref01_Of_Z0.sel (β : Type) (r : Int × Int × Int) (k : Res → Option β) : Option β := k (.ret (.tup [.agg [.int .i64 r.1, .int .i64 r.2.1], .int .i64 r.2.2]))
theorem partitaref01_Of_Z0.sel_ok (β : Type) (t : Int × Int × Int) (k : Res → Option β) : partitaref01_Of_Z0.sel β t k = k (partitaref01_Of_Z0.out t) := rfl
theorem partitaref01_Of_Z0.dec_ok (res : Res) (r : Int × Int × Int) (h : partitaref01_Of_Z0.dec res = some r) : res = partitaref01_Of_Z0.out r := by
  unfold partitaref01_Of_Z0.dec at h
  split at h <;> first | (cases h; rfl) | cases h
def partitaref01_Of_Z0.tells (f : Int → Int → Option (Int × Int × Int)) : Tells
  | [.int .i64 a0, .int .i64 a1] => some (.mk (Int × Int × Int) (f a0 a1) partitaref01_Of_Z0.out partitaref01_Of_Z0.sel partitaref01_Of_Z0.sel_ok)
  | _ => none
def partitaref01_Of_Z0.ce (f : Int → Int → Option (Int × Int × Int)) : CE := ⟨[.one (.int .i64), .one (.int .i64)], .flat, partitaref01_Of_Z0.tells f⟩
theorem partitaref01_Of_Z0.ok (k : Nat) : CEOk Tryz.prog GW lay 15 (partitaref01_Of_Z0.ce (partitaref01_Of.f k)) :=
  tells_simple (fun args w => by kernel_rfl) fun args τ x out sel ok r hs hx => by
    unfold partitaref01_Of_Z0.tells at hs
    split at hs
    · cases hs
      exact ⟨rfl, _, rfl, rfl, fun w hw => partitaref01_Of.calls k _ _ r.1 r.2.1 r.2.2 w hx⟩
    · cases hs
def r1_Right.Γ (f15 : Int → Int → Option (Int × Int × Int)) : List (Nat × CE) := [(15, partitaref01_Of_Z0.ce f15)]
def r1_Right.J56 : List (Nat × List Nat) := [(1, [5, 6]), (3, [8, 9, 10, 11, 12, 13, 14, 15]), (4, [16, 17, 18, 19, 20, 21, 22]), (1000007, [7])]
def r1_Right.t (K : Nat) (f15 : Int → Int → Option (Int × Int × Int)) (a0 : Int) (a1 : Int) : Option (Bool) :=
  bif decide (a1 < (1 : Int)) then some false else (f15 a0 a1).bind fun v1 => bif v1.snd.snd == (0 : Int) then some (a0 == v1.fst && (a1 == v1.snd.fst && true)) else some false
set_option maxRecDepth 100000 in
theorem r1_Right.run (K : Nat) (f15 : Int → Int → Option (Int × Int × Int)) (a0 : Int) (a1 : Int) : runA Tryz.prog lay (r1_Right.Γ f15) [] [] 3 ⟨r1_Right.J56, [], 0⟩ Tryz.f56 [.agg [.int .i64 a0, .int .i64 a1]] [] [.one (.bool)] r1_Right.dec = r1_Right.t K f15 a0 a1 := by kernel_rfl
def r1_Right.f (k : Nat) (a0 : Int) (a1 : Int) : Option (Bool) := r1_Right.t k (partitaref01_Of.f k) a0 a1
theorem r1_Right.allOk (k : Nat) : AllOk Tryz.prog GW lay (r1_Right.Γ (partitaref01_Of.f k)) := (allOk_cons (partitaref01_Of_Z0.ok k) allOk_nil)
theorem r1_Right.ok (k : Nat) : CEOk Tryz.prog GW lay 56 (r1_Right.ce (r1_Right.f k)) := by
  have hΓ_ := r1_Right.allOk k
  exact tells_mk (by kernel_rfl) hΓ_ Tryz.func56 (fun args w => by kernel_rfl) (fun w w' h hb => h.step hb) no_globals (fun B wB stab_ => in_nil) (C := ⟨r1_Right.J56, [], 0⟩) (fun B wB stab_ => bodyL (allL_of (l := []) (by kernel_rfl) allL_nil)) (fun args τ x out sel ok r hs hx => by
    unfold r1_Right.tells at hs
    split at hs
    · rename_i a0 a1
      cases hs
      unfold r1_Right.f at hx
      have hr_ := r1_Right.run k (partitaref01_Of.f k) a0 a1
      rw [hx] at hr_
      exact ⟨rfl, r1_Right.out_free _, 3, [.one (.bool)], r1_Right.dec, hr_, fun res h => r1_Right.dec_ok res _ h⟩
    · cases hs)
/-! ### partita/partitaref01.both: function 75 -/
def r1_both.out (r : Bool) : Res := .ret (.bool r)
def r1_both.dec : Res → Option (Bool)
  | .ret (.bool y0) => some y0
  | _ => none
theorem r1_both.out_free (r : Bool) : (r1_both.out r).free = true := rfl
def r1_both.sel (β : Type) (r : Bool) (k : Res → Option β) : Option β := k (.ret (.bool r))
theorem r1_both.sel_ok (β : Type) (t : Bool) (k : Res → Option β) : r1_both.sel β t k = k (r1_both.out t) := rfl
theorem r1_both.dec_ok (res : Res) (r : Bool) (h : r1_both.dec res = some r) : res = r1_both.out r := by
  unfold r1_both.dec at h
  split at h <;> first | (cases h; rfl) | cases h
def r1_both.tells (f : Int → Int → Int → Int → Option (Bool)) : Tells
  | [.agg [.int .i64 a0, .int .i64 a1], .agg [.int .i64 a2, .int .i64 a3]] => some (.mk (Bool) (f a0 a1 a2 a3) r1_both.out r1_both.sel r1_both.sel_ok)
  | _ => none
def r1_both.ce (f : Int → Int → Int → Int → Option (Bool)) : CE := ⟨[.agg [.int .i64, .int .i64], .agg [.int .i64, .int .i64]], .flat, r1_both.tells f⟩
def r1_both.Γ (f56 : Int → Int → Option (Bool)) : List (Nat × CE) := [(56, r1_Right.ce f56)]
def r1_both.J75 : List (Nat × List Nat) := [(1, [5, 6, 7, 8, 9, 10])]
def r1_both.t (K : Nat) (f56 : Int → Int → Option (Bool)) (a0 : Int) (a1 : Int) (a2 : Int) (a3 : Int) : Option (Bool) :=
  (f56 a0 a1).bind fun v1 => bif v1 then (f56 a2 a3).bind fun v2 => some v2 else some false
set_option maxRecDepth 100000 in
theorem r1_both.run (K : Nat) (f56 : Int → Int → Option (Bool)) (a0 : Int) (a1 : Int) (a2 : Int) (a3 : Int) : runA Tryz.prog lay (r1_both.Γ f56) [] [] 3 ⟨r1_both.J75, [], 0⟩ Tryz.f75 [.agg [.int .i64 a0, .int .i64 a1], .agg [.int .i64 a2, .int .i64 a3]] [] [.one (.bool)] r1_both.dec = r1_both.t K f56 a0 a1 a2 a3 := by kernel_rfl
def r1_both.f (k : Nat) (a0 : Int) (a1 : Int) (a2 : Int) (a3 : Int) : Option (Bool) := r1_both.t k (r1_Right.f k) a0 a1 a2 a3
theorem r1_both.allOk (k : Nat) : AllOk Tryz.prog GW lay (r1_both.Γ (r1_Right.f k)) := (allOk_cons (r1_Right.ok k) allOk_nil)
theorem r1_both.ok (k : Nat) : CEOk Tryz.prog GW lay 75 (r1_both.ce (r1_both.f k)) := by
  have hΓ_ := r1_both.allOk k
  exact tells_mk (by kernel_rfl) hΓ_ Tryz.func75 (fun args w => by kernel_rfl) (fun w w' h hb => h.step hb) no_globals (fun B wB stab_ => in_nil) (C := ⟨r1_both.J75, [], 0⟩) (fun B wB stab_ => bodyL (allL_of (l := []) (by kernel_rfl) allL_nil)) (fun args τ x out sel ok r hs hx => by
    unfold r1_both.tells at hs
    split at hs
    · rename_i a0 a1 a2 a3
      cases hs
      unfold r1_both.f at hx
      have hr_ := r1_both.run k (r1_Right.f k) a0 a1 a2 a3
      rw [hx] at hr_
      exact ⟨rfl, r1_both.out_free _, 3, [.one (.bool)], r1_both.dec, hr_, fun res h => r1_both.dec_ok res _ h⟩
    · cases hs)
/-! ### partita/partitaref01.Compare: function 57 -/
def r1_Compare.out (r : Int) : Res := .ret (.int .i64 r)
def r1_Compare.dec : Res → Option (Int)
  | .ret (.int .i64 y0) => some y0
  | _ => none
theorem r1_Compare.out_free (r : Int) : (r1_Compare.out r).free = true := rfl
def r1_Compare.sel (β : Type) (r : Int) (k : Res → Option β) : Option β := k (.ret (.int .i64 r))
theorem r1_Compare.sel_ok (β : Type) (t : Int) (k : Res → Option β) : r1_Compare.sel β t k = k (r1_Compare.out t) := rfl
theorem r1_Compare.dec_ok (res : Res) (r : Int) (h : r1_Compare.dec res = some r) : res = r1_Compare.out r := by
  unfold r1_Compare.dec at h
  split at h <;> first | (cases h; rfl) | cases h
def r1_Compare.tells (f : Int → Int → Int → Int → Option (Int)) : Tells
  | [.agg [.int .i64 a0, .int .i64 a1], .agg [.int .i64 a2, .int .i64 a3]] => some (.mk (Int) (f a0 a1 a2 a3) r1_Compare.out r1_Compare.sel r1_Compare.sel_ok)
  | _ => none
def r1_Compare.ce (f : Int → Int → Int → Int → Option (Int)) : CE := ⟨[.agg [.int .i64, .int .i64], .agg [.int .i64, .int .i64]], .flat, r1_Compare.tells f⟩
def r1_Compare.Γ (f75 : Int → Int → Int → Int → Option (Bool)) : List (Nat × CE) := [(75, r1_both.ce f75)]
def r1_Compare.J57 : List (Nat × List Nat) := [(1, [7, 8, 9]), (3, [11, 12, 13, 14, 15]), (4, [16, 17, 18, 19, 20]), (5, [22, 23, 24]), (7, [26, 27, 28]), (1000010, [10]), (1000021, [21]), (1000025, [25])]
def r1_Compare.t (K : Nat) (f75 : Int → Int → Int → Int → Option (Bool)) (a0 : Int) (a1 : Int) (a2 : Int) (a3 : Int) : Option (Int) :=
  (f75 a0 a1 a2 a3).bind fun v1 => bif !v1 then some (0 : Int) else bif decide (IntKind.i64.wrap (a0 * a3) < IntKind.i64.wrap (a2 * a1)) then some (-1 : Int) else bif decide (IntKind.i64.wrap (a0 * a3) > IntKind.i64.wrap (a2 * a1)) then some (1 : Int) else some (0 : Int)
set_option maxRecDepth 100000 in
theorem r1_Compare.run (K : Nat) (f75 : Int → Int → Int → Int → Option (Bool)) (a0 : Int) (a1 : Int) (a2 : Int) (a3 : Int) : runA Tryz.prog lay (r1_Compare.Γ f75) [] [] 3 ⟨r1_Compare.J57, [], 0⟩ Tryz.f57 [.agg [.int .i64 a0, .int .i64 a1], .agg [.int .i64 a2, .int .i64 a3]] [] [.one (.int .i64)] r1_Compare.dec = r1_Compare.t K f75 a0 a1 a2 a3 := by kernel_rfl
def r1_Compare.f (k : Nat) (a0 : Int) (a1 : Int) (a2 : Int) (a3 : Int) : Option (Int) := r1_Compare.t k (r1_both.f k) a0 a1 a2 a3
theorem r1_Compare.allOk (k : Nat) : AllOk Tryz.prog GW lay (r1_Compare.Γ (r1_both.f k)) := (allOk_cons (r1_both.ok k) allOk_nil)
theorem r1_Compare.ok (k : Nat) : CEOk Tryz.prog GW lay 57 (r1_Compare.ce (r1_Compare.f k)) := by
  have hΓ_ := r1_Compare.allOk k
  exact tells_mk (by kernel_rfl) hΓ_ Tryz.func57 (fun args w => by kernel_rfl) (fun w w' h hb => h.step hb) no_globals (fun B wB stab_ => in_nil) (C := ⟨r1_Compare.J57, [], 0⟩) (fun B wB stab_ => bodyL (allL_of (l := []) (by kernel_rfl) allL_nil)) (fun args τ x out sel ok r hs hx => by
    unfold r1_Compare.tells at hs
    split at hs
    · rename_i a0 a1 a2 a3
      cases hs
      unfold r1_Compare.f at hx
      have hr_ := r1_Compare.run k (r1_both.f k) a0 a1 a2 a3
      rw [hx] at hr_
      exact ⟨rfl, r1_Compare.out_free _, 3, [.one (.int .i64)], r1_Compare.dec, hr_, fun res h => r1_Compare.dec_ok res _ h⟩
    · cases hs)
/-! ### partita/partitaref04.Right: function 13 -/
def r4_Right.out (r : Bool) : Res := .ret (.bool r)
def r4_Right.dec : Res → Option (Bool)
  | .ret (.bool y0) => some y0
  | _ => none
theorem r4_Right.out_free (r : Bool) : (r4_Right.out r).free = true := rfl
def r4_Right.sel (β : Type) (r : Bool) (k : Res → Option β) : Option β := k (.ret (.bool r))
theorem r4_Right.sel_ok (β : Type) (t : Bool) (k : Res → Option β) : r4_Right.sel β t k = k (r4_Right.out t) := rfl
theorem r4_Right.dec_ok (res : Res) (r : Bool) (h : r4_Right.dec res = some r) : res = r4_Right.out r := by
  unfold r4_Right.dec at h
  split at h <;> first | (cases h; rfl) | cases h
def r4_Right.tells (f : Int → Int → Int → Int → Option (Bool)) : Tells
  | [.agg [.int .i64 a0, .int .i64 a1, .int .i64 a2, .int .i64 a3]] => some (.mk (Bool) (f a0 a1 a2 a3) r4_Right.out r4_Right.sel r4_Right.sel_ok)
  | _ => none
def r4_Right.ce (f : Int → Int → Int → Int → Option (Bool)) : CE := ⟨[.agg [.int .i64, .int .i64, .int .i64, .int .i64]], .flat, r4_Right.tells f⟩
def r4_Right.Γ : List (Nat × CE) := []
def r4_Right.J13 : List (Nat × List Nat) := [(1, [3, 4, 5, 6, 7, 8, 9, 10, 11, 12, 13, 14, 15, 16, 17, 18, 19]), (3, [21, 22, 23, 24, 25, 26, 27]), (5, [29, 30, 31, 32, 33, 34, 35, 36, 37, 38, 39, 40, 41, 42, 43, 44, 45, 46, 47, 48, 49, 50, 51, 52, 53]), (1000020, [20]), (1000028, [28])]
def r4_Right.t.J3 (a2 : Int) (a3 : Int) : Option (Bool) :=
  bif decide (a2 ≥ (2 : Int)) then bif decide (a2 ≤ (15 : Int)) then bif decide (a3 ≥ (1 : Int)) then bif decide (a3 ≤ (15 : Int)) then some !a2 == a3 else some false else some false else some false else some false
def r4_Right.t (K : Nat) (a0 : Int) (a1 : Int) (a2 : Int) (a3 : Int) : Option (Bool) :=
  bif decide (a0 < (0 : Int)) then some false else bif decide (a0 > (6 : Int)) then some false else bif decide (a1 < (0 : Int)) then some false else bif decide (a1 > (2 : Int)) then some false else bif a2 == (0 : Int) then bif a3 == (0 : Int) then some true else r4_Right.t.J3 a2 a3 else r4_Right.t.J3 a2 a3
set_option maxRecDepth 100000 in
theorem r4_Right.run (K : Nat) (a0 : Int) (a1 : Int) (a2 : Int) (a3 : Int) : runA Tryz.prog lay (r4_Right.Γ) [] [] 3 ⟨r4_Right.J13, [], 0⟩ Tryz.f13 [.agg [.int .i64 a0, .int .i64 a1, .int .i64 a2, .int .i64 a3]] [] [.one (.bool)] r4_Right.dec = r4_Right.t K a0 a1 a2 a3 := by kernel_rfl
def r4_Right.f (k : Nat) (a0 : Int) (a1 : Int) (a2 : Int) (a3 : Int) : Option (Bool) := r4_Right.t k a0 a1 a2 a3
theorem r4_Right.allOk (k : Nat) : AllOk Tryz.prog GW lay (r4_Right.Γ) := allOk_nil
theorem r4_Right.ok (k : Nat) : CEOk Tryz.prog GW lay 13 (r4_Right.ce (r4_Right.f k)) := by
  have hΓ_ := r4_Right.allOk k
  exact tells_mk (by kernel_rfl) hΓ_ Tryz.func13 (fun args w => by kernel_rfl) (fun w w' h hb => h.step hb) no_globals (fun B wB stab_ => in_nil) (C := ⟨r4_Right.J13, [], 0⟩) (fun B wB stab_ => bodyL (allL_of (l := []) (by kernel_rfl) allL_nil)) (fun args τ x out sel ok r hs hx => by
    unfold r4_Right.tells at hs
    split at hs
    · rename_i a0 a1 a2 a3
      cases hs
      unfold r4_Right.f at hx
      have hr_ := r4_Right.run k a0 a1 a2 a3
      rw [hx] at hr_
      exact ⟨rfl, r4_Right.out_free _, 3, [.one (.bool)], r4_Right.dec, hr_, fun res h => r4_Right.dec_ok res _ h⟩
    · cases hs)
/-! ### partita/partitaref04.power: function 25 -/
def r4_power.out (r : Int) : Res := .ret (.int .i64 r)
def r4_power.dec : Res → Option (Int)
  | .ret (.int .i64 y0) => some y0
  | _ => none
theorem r4_power.out_free (r : Int) : (r4_power.out r).free = true := rfl
def r4_power.sel (β : Type) (r : Int) (k : Res → Option β) : Option β := k (.ret (.int .i64 r))
theorem r4_power.sel_ok (β : Type) (t : Int) (k : Res → Option β) : r4_power.sel β t k = k (r4_power.out t) := rfl
theorem r4_power.dec_ok (res : Res) (r : Int) (h : r4_power.dec res = some r) : res = r4_power.out r := by
  unfold r4_power.dec at h
  split at h <;> first | (cases h; rfl) | cases h
def r4_power.tells (f : Int → Option (Int)) : Tells
  | [.int .i64 a0] => some (.mk (Int) (f a0) r4_power.out r4_power.sel r4_power.sel_ok)
  | _ => none
def r4_power.ce (f : Int → Option (Int)) : CE := ⟨[.one (.int .i64)], .flat, r4_power.tells f⟩
def r4_power.Γ : List (Nat × CE) := []
def r4_power.J25 : List (Nat × List Nat) := [(3, [5, 6]), (4, [8, 9]), (5, [10, 11]), (6, [12]), (1000007, [7])]
def r4_power.L3.T : TS := ⟨[.int .i64, .junk, .int .i64, .int .i64, .int .i64, .junk, .junk, .junk, .junk, .junk, .junk, .junk, .junk], [], 0, []⟩
def r4_power.L3.X0 : TS := ⟨[.junk, .junk, .int .i64, .int .i64, .junk, .junk, .junk, .junk, .junk, .junk, .junk, .junk, .junk], [], 0, []⟩
def r4_power.L3.X : List (Exit × TS) := [(.exit 0, r4_power.L3.X0)]
def r4_power.L3.dσ : List D → Option (Int × Int × Int × Int)
  | [.int x0, .int x1, .int x2, .int x3] => some (x0, x1, x2, x3)
  | _ => none
def r4_power.L3.eσ (x : Int × Int × Int × Int) : List D := [.int x.1, .int x.2.1, .int x.2.2.1, .int x.2.2.2]
def r4_power.L3.dτ : Nat → List D → Option (Int × Int)
  | 0, [.int y0, .int y1] => some (y0, y1)
  | _, _ => none
def r4_power.L3.eτ (t : Int × Int) : Nat × List D := (0, [.int t.1, .int t.2])
def r4_power.L3.sel (β : Type) (t : Int × Int) (k : Exit → Fr → Hp → Option β) : Option β := k (.exit 0) (bldS r4_power.L3.X0 [.int t.1, .int t.2]).1 (bldS r4_power.L3.X0 [.int t.1, .int t.2]).2
theorem r4_power.L3.sel_ok (β : Type) (t : Int × Int) (k : Exit → Fr → Hp → Option β) : r4_power.L3.sel β t k = k (endA r4_power.L3.X r4_power.L3.eτ t).1 (endA r4_power.L3.X r4_power.L3.eτ t).2.1 (endA r4_power.L3.X r4_power.L3.eτ t).2.2 := by rfl
theorem r4_power.L3.dσ_ok (d : List D) (x : Int × Int × Int × Int) (h : r4_power.L3.dσ d = some x) : r4_power.L3.eσ x = d := by
  unfold r4_power.L3.dσ at h
  split at h <;> first | (cases h; rfl) | cases h
theorem r4_power.L3.dτ_ok (i : Nat) (d : List D) (t : Int × Int) (h : r4_power.L3.dτ i d = some t) : r4_power.L3.eτ t = (i, d) := by
  unfold r4_power.L3.dτ at h
  split at h <;> first | (cases h; rfl) | cases h
def r4_power.L3.S (K : Nat) (rec : (Int × Int × Int × Int) → Option (Int × Int)) (x0 : Int) (x1 : Int) (x2 : Int) (x3 : Int) : Option (Int × Int) :=
  bif decide (x3 < x0) then rec (x0, x1, IntKind.i64.wrap ((2 : Int) * x2), IntKind.i64.wrap (x3 + (1 : Int))) else some (x1, x2)
set_option maxRecDepth 100000 in
theorem r4_power.L3.step (K : Nat) (rec : (Int × Int × Int × Int) → Option (Int × Int)) (x0 : Int) (x1 : Int) (x2 : Int) (x3 : Int) : execA Tryz.prog lay (r4_power.Γ) [] (inlA Tryz.prog lay (r4_power.Γ) [] 3) ⟨r4_power.J25, [], 0⟩ 0 (loopAt Tryz.f25 0) (bldS r4_power.L3.T (r4_power.L3.eσ (x0, x1, x2, x3))).1 (bldS r4_power.L3.T (r4_power.L3.eσ (x0, x1, x2, x3))).2 (contA r4_power.L3.T r4_power.L3.X r4_power.L3.dσ r4_power.L3.dτ rec) = r4_power.L3.S K rec x0 x1 x2 x3 := by kernel_rfl
def r4_power.L3 (K : Nat) : Nat → (Int × Int × Int × Int) → Option (Int × Int)
  | 0, _ => none
  | k + 1, x => r4_power.L3.S K (r4_power.L3 K k) x.1 x.2.1 x.2.2.1 x.2.2.2
theorem r4_power.L3.ok (K : Nat) {B : Nat} {wB : World} (stab_ : ∀ w', Bel B wB w' → GW w') (hΓ_ : AllOk Tryz.prog GW lay (r4_power.Γ)) (Kr : Nat) : LSOk Tryz.prog lay B wB [] 0 (sumA r4_power.L3.T r4_power.L3.X r4_power.L3.dσ r4_power.L3.eτ r4_power.L3.sel r4_power.L3.sel_ok (r4_power.L3 K Kr)) (loopAt Tryz.f25 0) :=
  loop_mk (by kernel_rfl) hΓ_ stab_ (inlA_ok (by kernel_rfl) hΓ_ stab_ in_nil 3) (C := ⟨r4_power.J25, [], 0⟩) (allL_of (l := []) (by kernel_rfl) allL_nil) (by decide) (by decide) r4_power.L3.dσ_ok r4_power.L3.dτ_ok (fun _ => rfl) (fun k x => (r4_power.L3.step K (r4_power.L3 K k) x.1 x.2.1 x.2.2.1 x.2.2.2).symm) Kr
def r4_power.t (K : Nat) (a0 : Int) : Option (Int) :=
  (r4_power.L3 K K (a0, (0 : Int), (1 : Int), (0 : Int))).bind fun v1 => some v1.snd
set_option maxRecDepth 100000 in
theorem r4_power.run (K : Nat) (a0 : Int) : runA Tryz.prog lay (r4_power.Γ) [] [] 3 ⟨r4_power.J25, [(3, 0, sumA r4_power.L3.T r4_power.L3.X r4_power.L3.dσ r4_power.L3.eτ r4_power.L3.sel r4_power.L3.sel_ok (r4_power.L3 K K))], 0⟩ Tryz.f25 [.int .i64 a0] [] [.one (.int .i64)] r4_power.dec = r4_power.t K a0 := by kernel_rfl
def r4_power.f (k : Nat) (a0 : Int) : Option (Int) := r4_power.t k a0
theorem r4_power.allOk (k : Nat) : AllOk Tryz.prog GW lay (r4_power.Γ) := allOk_nil
theorem r4_power.ok (k : Nat) : CEOk Tryz.prog GW lay 25 (r4_power.ce (r4_power.f k)) := by
  have hΓ_ := r4_power.allOk k
  exact tells_mk (by kernel_rfl) hΓ_ Tryz.func25 (fun args w => by kernel_rfl) (fun w w' h hb => h.step hb) no_globals (fun B wB stab_ => in_nil) (C := ⟨r4_power.J25, [(3, 0, sumA r4_power.L3.T r4_power.L3.X r4_power.L3.dσ r4_power.L3.eτ r4_power.L3.sel r4_power.L3.sel_ok (r4_power.L3 k k))], 0⟩) (fun B wB stab_ => bodyL (allL_of (l := [loopAt Tryz.f25 0]) (by kernel_rfl) (allL_cons (by kernel_rfl) (r4_power.L3.ok k stab_ hΓ_ k) allL_nil))) (fun args τ x out sel ok r hs hx => by
    unfold r4_power.tells at hs
    split at hs
    · rename_i a0
      cases hs
      unfold r4_power.f at hx
      have hr_ := r4_power.run k a0
      rw [hx] at hr_
      exact ⟨rfl, r4_power.out_free _, 3, [.one (.int .i64)], r4_power.dec, hr_, fun res h => r4_power.dec_ok res _ h⟩
    · cases hs)
/-! ### partita/partitaref04.Length: function 9 -/
def r4_Length.out (r : Int × Int × Int) : Res := .ret (.tup [.agg [.int .i64 r.1, .int .i64 r.2.1], .int .i64 r.2.2])
def r4_Length.dec : Res → Option (Int × Int × Int)
  | .ret (.tup [.agg [.int .i64 y0, .int .i64 y1], .int .i64 y2]) => some (y0, y1, y2)
  | _ => none
theorem r4_Length.out_free (r : Int × Int × Int) : (r4_Length.out r).free = true := rfl
def r4_Length.sel (β : Type) (r : Int × Int × Int) (k : Res → Option β) : Option β := k (.ret (.tup [.agg [.int .i64 r.1, .int .i64 r.2.1], .int .i64 r.2.2]))
theorem r4_Length.sel_ok (β : Type) (t : Int × Int × Int) (k : Res → Option β) : r4_Length.sel β t k = k (r4_Length.out t) := rfl
theorem r4_Length.dec_ok (res : Res) (r : Int × Int × Int) (h : r4_Length.dec res = some r) : res = r4_Length.out r := by
  unfold r4_Length.dec at h
  split at h <;> first | (cases h; rfl) | cases h
def r4_Length.tells (f : Int → Int → Int → Int → Option (Int × Int × Int)) : Tells
  | [.agg [.int .i64 a0, .int .i64 a1, .int .i64 a2, .int .i64 a3]] => some (.mk (Int × Int × Int) (f a0 a1 a2 a3) r4_Length.out r4_Length.sel r4_Length.sel_ok)
  | _ => none
def r4_Length.ce (f : Int → Int → Int → Int → Option (Int × Int × Int)) : CE := ⟨[.agg [.int .i64, .int .i64, .int .i64, .int .i64]], .flat, r4_Length.tells f⟩
def r4_Length.Γ (f13 : Int → Int → Int → Int → Option (Bool)) (f15 : Int → Int → Option (Int × Int × Int)) (f25 : Int → Option (Int)) : List (Nat × CE) := [(13, r4_Right.ce f13), (15, partitaref01_Of_Z0.ce f15), (25, r4_power.ce f25)]
def r4_Length.J9 : List (Nat × List Nat) := [(1, [6, 7]), (2, [9]), (3, [10, 11, 12, 13, 14]), (4, [15, 16, 17, 18, 19, 20, 21]), (5, [22, 23]), (6, [25, 26, 27, 28]), (7, [29, 30, 31, 32]), (8, [33, 34, 35, 36, 37]), (1000008, [8]), (1000024, [24])]
def r4_Length.t (K : Nat) (f13 : Int → Int → Int → Int → Option (Bool)) (f15 : Int → Int → Option (Int × Int × Int)) (f25 : Int → Option (Int)) (a0 : Int) (a1 : Int) (a2 : Int) (a3 : Int) : Option (Int × Int × Int) :=
  (f13 a0 a1 a2 a3).bind fun v1 => bif !v1 then some ((0 : Int), (0 : Int), (40 : Int)) else (f25 (IntKind.i64.wrap (a1 + (1 : Int)))).bind fun v2 => (f25 a0).bind fun v3 => (f25 a1).bind fun v4 => bif decide (a2 > (0 : Int)) then (f15 (IntKind.i64.wrap (IntKind.i64.wrap (v2 - (1 : Int)) * a3)) (IntKind.i64.wrap (IntKind.i64.wrap (v3 * v4) * a2))).bind fun v6 => some (v6.fst, v6.snd.fst, v6.snd.snd) else (f15 (IntKind.i64.wrap (v2 - (1 : Int))) (IntKind.i64.wrap (v3 * v4))).bind fun v5 => some (v5.fst, v5.snd.fst, v5.snd.snd)
set_option maxRecDepth 100000 in
theorem r4_Length.run (K : Nat) (f13 : Int → Int → Int → Int → Option (Bool)) (f15 : Int → Int → Option (Int × Int × Int)) (f25 : Int → Option (Int)) (a0 : Int) (a1 : Int) (a2 : Int) (a3 : Int) : runA Tryz.prog lay (r4_Length.Γ f13 f15 f25) [] [] 3 ⟨r4_Length.J9, [], 0⟩ Tryz.f9 [.agg [.int .i64 a0, .int .i64 a1, .int .i64 a2, .int .i64 a3]] [] [.agg [.int .i64, .int .i64], .one (.int .i64)] r4_Length.dec = r4_Length.t K f13 f15 f25 a0 a1 a2 a3 := by kernel_rfl
def r4_Length.f (k : Nat) (a0 : Int) (a1 : Int) (a2 : Int) (a3 : Int) : Option (Int × Int × Int) := r4_Length.t k (r4_Right.f k) (partitaref01_Of.f k) (r4_power.f k) a0 a1 a2 a3
theorem r4_Length.allOk (k : Nat) : AllOk Tryz.prog GW lay (r4_Length.Γ (r4_Right.f k) (partitaref01_Of.f k) (r4_power.f k)) := (allOk_cons (r4_Right.ok k) (allOk_cons (partitaref01_Of_Z0.ok k) (allOk_cons (r4_power.ok k) allOk_nil)))
theorem r4_Length.ok (k : Nat) : CEOk Tryz.prog GW lay 9 (r4_Length.ce (r4_Length.f k)) := by
  have hΓ_ := r4_Length.allOk k
  exact tells_mk (by kernel_rfl) hΓ_ Tryz.func9 (fun args w => by kernel_rfl) (fun w w' h hb => h.step hb) no_globals (fun B wB stab_ => in_nil) (C := ⟨r4_Length.J9, [], 0⟩) (fun B wB stab_ => bodyL (allL_of (l := []) (by kernel_rfl) allL_nil)) (fun args τ x out sel ok r hs hx => by
    unfold r4_Length.tells at hs
    split at hs
    · rename_i a0 a1 a2 a3
      cases hs
      unfold r4_Length.f at hx
      have hr_ := r4_Length.run k (r4_Right.f k) (partitaref01_Of.f k) (r4_power.f k) a0 a1 a2 a3
      rw [hx] at hr_
      exact ⟨rfl, r4_Length.out_free _, 3, [.agg [.int .i64, .int .i64], .one (.int .i64)], r4_Length.dec, hr_, fun res h => r4_Length.dec_ok res _ h⟩
    · cases hs)
/-! ### partita/partitaref04.units: function 58 -/
def r4_units.out (r : Int) : Res := .ret (.int .i64 r)
def r4_units.dec : Res → Option (Int)
  | .ret (.int .i64 y0) => some y0
  | _ => none
theorem r4_units.out_free (r : Int) : (r4_units.out r).free = true := rfl
def r4_units.sel (β : Type) (r : Int) (k : Res → Option β) : Option β := k (.ret (.int .i64 r))
theorem r4_units.sel_ok (β : Type) (t : Int) (k : Res → Option β) : r4_units.sel β t k = k (r4_units.out t) := rfl
theorem r4_units.dec_ok (res : Res) (r : Int) (h : r4_units.dec res = some r) : res = r4_units.out r := by
  unfold r4_units.dec at h
  split at h <;> first | (cases h; rfl) | cases h
def r4_units.tells (f : Int → Int → Int → Int → Int → Int → Option (Int)) : Tells
  | [.agg [.int .i64 a0, .int .i64 a1], .agg [.int .i64 a2, .int .i64 a3, .int .i64 a4, .int .i64 a5]] => some (.mk (Int) (f a0 a1 a2 a3 a4 a5) r4_units.out r4_units.sel r4_units.sel_ok)
  | _ => none
def r4_units.ce (f : Int → Int → Int → Int → Int → Int → Option (Int)) : CE := ⟨[.agg [.int .i64, .int .i64], .agg [.int .i64, .int .i64, .int .i64, .int .i64]], .flat, r4_units.tells f⟩
def r4_units.Γ : List (Nat × CE) := []
def r4_units.J58 : List (Nat × List Nat) := [(1, [7, 8, 9]), (2, [10, 11]), (3, [12, 13]), (4, [15, 16, 17, 18]), (5, [19, 20, 21, 22]), (6, [23, 24, 25]), (8, [27, 28, 29]), (1000014, [14]), (1000026, [26])]
def r4_units.t (K : Nat) (a0 : Int) (a1 : Int) (a2 : Int) (a3 : Int) (a4 : Int) (a5 : Int) : Option (Int) :=
  bif decide (a4 > (0 : Int)) then if IntKind.i64.wrap (a1 * a5) = (0 : Int) then none else bif !(IntKind.i64.wrap (IntKind.i64.wrap (a0 * (64 : Int)) * a4)).tmod (IntKind.i64.wrap (a1 * a5)) == (0 : Int) then some (0 : Int) else if IntKind.i64.wrap (a1 * a5) = (0 : Int) then none else some (IntKind.i64.wrap ((IntKind.i64.wrap (IntKind.i64.wrap (a0 * (64 : Int)) * a4)).tdiv (IntKind.i64.wrap (a1 * a5)))) else if a1 = (0 : Int) then none else bif !(IntKind.i64.wrap (a0 * (64 : Int))).tmod a1 == (0 : Int) then some (0 : Int) else if a1 = (0 : Int) then none else some (IntKind.i64.wrap ((IntKind.i64.wrap (a0 * (64 : Int))).tdiv a1))
set_option maxRecDepth 100000 in
theorem r4_units.run (K : Nat) (a0 : Int) (a1 : Int) (a2 : Int) (a3 : Int) (a4 : Int) (a5 : Int) : runA Tryz.prog lay (r4_units.Γ) [] [] 3 ⟨r4_units.J58, [], 0⟩ Tryz.f58 [.agg [.int .i64 a0, .int .i64 a1], .agg [.int .i64 a2, .int .i64 a3, .int .i64 a4, .int .i64 a5]] [] [.one (.int .i64)] r4_units.dec = r4_units.t K a0 a1 a2 a3 a4 a5 := by kernel_rfl
def r4_units.f (k : Nat) (a0 : Int) (a1 : Int) (a2 : Int) (a3 : Int) (a4 : Int) (a5 : Int) : Option (Int) := r4_units.t k a0 a1 a2 a3 a4 a5
theorem r4_units.allOk (k : Nat) : AllOk Tryz.prog GW lay (r4_units.Γ) := allOk_nil
theorem r4_units.ok (k : Nat) : CEOk Tryz.prog GW lay 58 (r4_units.ce (r4_units.f k)) := by
  have hΓ_ := r4_units.allOk k
  exact tells_mk (by kernel_rfl) hΓ_ Tryz.func58 (fun args w => by kernel_rfl) (fun w w' h hb => h.step hb) no_globals (fun B wB stab_ => in_nil) (C := ⟨r4_units.J58, [], 0⟩) (fun B wB stab_ => bodyL (allL_of (l := []) (by kernel_rfl) allL_nil)) (fun args τ x out sel ok r hs hx => by
    unfold r4_units.tells at hs
    split at hs
    · rename_i a0 a1 a2 a3 a4 a5
      cases hs
      unfold r4_units.f at hx
      have hr_ := r4_units.run k a0 a1 a2 a3 a4 a5
      rw [hx] at hr_
      exact ⟨rfl, r4_units.out_free _, 3, [.one (.int .i64)], r4_units.dec, hr_, fun res h => r4_units.dec_ok res _ h⟩
    · cases hs)
/-! ### partita/partitaref04.longest: function 59 -/
def r4_longest.out (r : Int × Int × Int × Int × Int) : Res := .ret (.tup [.agg [.int .i64 r.1, .int .i64 r.2.1, .int .i64 r.2.2.1, .int .i64 r.2.2.2.1], .int .i64 r.2.2.2.2])
def r4_longest.dec : Res → Option (Int × Int × Int × Int × Int)
  | .ret (.tup [.agg [.int .i64 y0, .int .i64 y1, .int .i64 y2, .int .i64 y3], .int .i64 y4]) => some (y0, y1, y2, y3, y4)
  | _ => none
theorem r4_longest.out_free (r : Int × Int × Int × Int × Int) : (r4_longest.out r).free = true := rfl
def r4_longest.sel (β : Type) (r : Int × Int × Int × Int × Int) (k : Res → Option β) : Option β := k (.ret (.tup [.agg [.int .i64 r.1, .int .i64 r.2.1, .int .i64 r.2.2.1, .int .i64 r.2.2.2.1], .int .i64 r.2.2.2.2]))
theorem r4_longest.sel_ok (β : Type) (t : Int × Int × Int × Int × Int) (k : Res → Option β) : r4_longest.sel β t k = k (r4_longest.out t) := rfl
theorem r4_longest.dec_ok (res : Res) (r : Int × Int × Int × Int × Int) (h : r4_longest.dec res = some r) : res = r4_longest.out r := by
  unfold r4_longest.dec at h
  split at h <;> first | (cases h; rfl) | cases h
def r4_longest.tells (f : Int → Option (Int × Int × Int × Int × Int)) : Tells
  | [.int .i64 a0] => some (.mk (Int × Int × Int × Int × Int) (f a0) r4_longest.out r4_longest.sel r4_longest.sel_ok)
  | _ => none
def r4_longest.ce (f : Int → Option (Int × Int × Int × Int × Int)) : CE := ⟨[.one (.int .i64)], .flat, r4_longest.tells f⟩
def r4_longest.Γ (f25 : Int → Option (Int)) (f58 : Int → Int → Int → Int → Int → Int → Option (Int)) : List (Nat × CE) := [(25, r4_power.ce f25), (58, r4_units.ce f58)]
def r4_longest.J59 : List (Nat × List Nat) := [(1, [9]), (4, [10]), (5, [12, 13]), (7, [14]), (8, [16, 17]), (9, [18, 19, 20, 21, 22, 23, 24, 25, 26, 27, 28, 29]), (10, [30, 31, 32, 33, 34, 35, 36]), (11, [38, 39, 40]), (12, [41]), (13, [42, 43]), (1000011, [11]), (1000015, [15]), (1000037, [37])]
def r4_longest.L7.T : TS := ⟨[.int .i64, .junk, .ptr 0 0, .int .i64, .ptr 1 0, .int .i64, .int .i64, .int .i64, .junk, .junk, .junk, .junk, .junk, .junk, .junk, .junk, .junk, .junk, .junk, .junk, .junk, .junk, .junk, .junk, .junk, .junk, .junk, .junk, .junk, .junk, .junk, .junk, .junk, .junk, .junk, .junk, .junk, .junk, .junk, .junk, .junk, .junk, .junk, .junk], [.cells 23 [.int .i64, .int .i64, .int .i64, .int .i64] .own, .cells 23 [.int .i64, .int .i64, .int .i64, .int .i64] .own], 0, [(2, none), (4, none)]⟩
def r4_longest.L7.X0 : TS := ⟨[.int .i64, .junk, .ptr 0 0, .int .i64, .ptr 1 0, .int .i64, .int .i64, .int .i64, .junk, .junk, .junk, .junk, .junk, .junk, .junk, .junk, .junk, .junk, .junk, .junk, .junk, .junk, .junk, .junk, .junk, .junk, .junk, .junk, .junk, .junk, .junk, .junk, .junk, .junk, .junk, .junk, .junk, .junk, .junk, .junk, .junk, .junk, .junk, .junk], [.cells 23 [.int .i64, .int .i64, .int .i64, .int .i64] .own, .cells 23 [.int .i64, .int .i64, .int .i64, .int .i64] .own], 0, [(2, none), (4, none)]⟩
def r4_longest.L7.X : List (Exit × TS) := [(.exit 2, r4_longest.L7.X0)]
def r4_longest.L7.dσ : List D → Option (Int × Int × Int × Int × Int × Int × Int × Int × Int × Int × Int × Int × Int)
  | [.int x0, .int x1, .int x2, .int x3, .int x4, .int x5, .int x6, .int x7, .int x8, .int x9, .int x10, .int x11, .int x12] => some (x0, x1, x2, x3, x4, x5, x6, x7, x8, x9, x10, x11, x12)
  | _ => none
def r4_longest.L7.eσ (x : Int × Int × Int × Int × Int × Int × Int × Int × Int × Int × Int × Int × Int) : List D := [.int x.1, .int x.2.1, .int x.2.2.1, .int x.2.2.2.1, .int x.2.2.2.2.1, .int x.2.2.2.2.2.1, .int x.2.2.2.2.2.2.1, .int x.2.2.2.2.2.2.2.1, .int x.2.2.2.2.2.2.2.2.1, .int x.2.2.2.2.2.2.2.2.2.1, .int x.2.2.2.2.2.2.2.2.2.2.1, .int x.2.2.2.2.2.2.2.2.2.2.2.1, .int x.2.2.2.2.2.2.2.2.2.2.2.2]
def r4_longest.L7.dτ : Nat → List D → Option (Int × Int × Int × Int × Int × Int × Int × Int × Int × Int × Int × Int × Int)
  | 0, [.int y0, .int y1, .int y2, .int y3, .int y4, .int y5, .int y6, .int y7, .int y8, .int y9, .int y10, .int y11, .int y12] => some (y0, y1, y2, y3, y4, y5, y6, y7, y8, y9, y10, y11, y12)
  | _, _ => none
def r4_longest.L7.eτ (t : Int × Int × Int × Int × Int × Int × Int × Int × Int × Int × Int × Int × Int) : Nat × List D := (0, [.int t.1, .int t.2.1, .int t.2.2.1, .int t.2.2.2.1, .int t.2.2.2.2.1, .int t.2.2.2.2.2.1, .int t.2.2.2.2.2.2.1, .int t.2.2.2.2.2.2.2.1, .int t.2.2.2.2.2.2.2.2.1, .int t.2.2.2.2.2.2.2.2.2.1, .int t.2.2.2.2.2.2.2.2.2.2.1, .int t.2.2.2.2.2.2.2.2.2.2.2.1, .int t.2.2.2.2.2.2.2.2.2.2.2.2])
def r4_longest.L7.sel (β : Type) (t : Int × Int × Int × Int × Int × Int × Int × Int × Int × Int × Int × Int × Int) (k : Exit → Fr → Hp → Option β) : Option β := k (.exit 2) (bldS r4_longest.L7.X0 [.int t.1, .int t.2.1, .int t.2.2.1, .int t.2.2.2.1, .int t.2.2.2.2.1, .int t.2.2.2.2.2.1, .int t.2.2.2.2.2.2.1, .int t.2.2.2.2.2.2.2.1, .int t.2.2.2.2.2.2.2.2.1, .int t.2.2.2.2.2.2.2.2.2.1, .int t.2.2.2.2.2.2.2.2.2.2.1, .int t.2.2.2.2.2.2.2.2.2.2.2.1, .int t.2.2.2.2.2.2.2.2.2.2.2.2]).1 (bldS r4_longest.L7.X0 [.int t.1, .int t.2.1, .int t.2.2.1, .int t.2.2.2.1, .int t.2.2.2.2.1, .int t.2.2.2.2.2.1, .int t.2.2.2.2.2.2.1, .int t.2.2.2.2.2.2.2.1, .int t.2.2.2.2.2.2.2.2.1, .int t.2.2.2.2.2.2.2.2.2.1, .int t.2.2.2.2.2.2.2.2.2.2.1, .int t.2.2.2.2.2.2.2.2.2.2.2.1, .int t.2.2.2.2.2.2.2.2.2.2.2.2]).2
theorem r4_longest.L7.sel_ok (β : Type) (t : Int × Int × Int × Int × Int × Int × Int × Int × Int × Int × Int × Int × Int) (k : Exit → Fr → Hp → Option β) : r4_longest.L7.sel β t k = k (endA r4_longest.L7.X r4_longest.L7.eτ t).1 (endA r4_longest.L7.X r4_longest.L7.eτ t).2.1 (endA r4_longest.L7.X r4_longest.L7.eτ t).2.2 := by rfl
theorem r4_longest.L7.dσ_ok (d : List D) (x : Int × Int × Int × Int × Int × Int × Int × Int × Int × Int × Int × Int × Int) (h : r4_longest.L7.dσ d = some x) : r4_longest.L7.eσ x = d := by
  unfold r4_longest.L7.dσ at h
  split at h <;> first | (cases h; rfl) | cases h
theorem r4_longest.L7.dτ_ok (i : Nat) (d : List D) (t : Int × Int × Int × Int × Int × Int × Int × Int × Int × Int × Int × Int × Int) (h : r4_longest.L7.dτ i d = some t) : r4_longest.L7.eτ t = (i, d) := by
  unfold r4_longest.L7.dτ at h
  split at h <;> first | (cases h; rfl) | cases h
def r4_longest.L7.S (K : Nat) (f25 : Int → Option (Int)) (f58 : Int → Int → Int → Int → Int → Int → Option (Int)) (rec : (Int × Int × Int × Int × Int × Int × Int × Int × Int × Int × Int × Int × Int) → Option (Int × Int × Int × Int × Int × Int × Int × Int × Int × Int × Int × Int × Int)) (x0 : Int) (x1 : Int) (x2 : Int) (x3 : Int) (x4 : Int) (x5 : Int) (x6 : Int) (x7 : Int) (x8 : Int) (x9 : Int) (x10 : Int) (x11 : Int) (x12 : Int) : Option (Int × Int × Int × Int × Int × Int × Int × Int × Int × Int × Int × Int × Int) :=
  bif decide (x4 ≤ (2 : Int)) then (f25 (IntKind.i64.wrap (x4 + (1 : Int)))).bind fun v1 => (f25 x3).bind fun v2 => (f25 x4).bind fun v3 => (f58 (IntKind.i64.wrap (v1 - (1 : Int))) (IntKind.i64.wrap (v2 * v3)) (0 : Int) (0 : Int) (0 : Int) (0 : Int)).bind fun v4 => bif decide (v4 > x2) then bif decide (v4 ≤ x0) then rec (x0, x1, v4, x3, IntKind.i64.wrap (x4 + (1 : Int)), x5, x6, x7, x8, x3, x4, (0 : Int), (0 : Int)) else rec (x0, x1, x2, x3, IntKind.i64.wrap (x4 + (1 : Int)), x5, x6, x7, x8, x9, x10, x11, x12) else rec (x0, x1, x2, x3, IntKind.i64.wrap (x4 + (1 : Int)), x5, x6, x7, x8, x9, x10, x11, x12) else some (x0, x1, x2, x3, x4, x5, x6, x7, x8, x9, x10, x11, x12)
set_option maxRecDepth 100000 in
theorem r4_longest.L7.step (K : Nat) (f25 : Int → Option (Int)) (f58 : Int → Int → Int → Int → Int → Int → Option (Int)) (rec : (Int × Int × Int × Int × Int × Int × Int × Int × Int × Int × Int × Int × Int) → Option (Int × Int × Int × Int × Int × Int × Int × Int × Int × Int × Int × Int × Int)) (x0 : Int) (x1 : Int) (x2 : Int) (x3 : Int) (x4 : Int) (x5 : Int) (x6 : Int) (x7 : Int) (x8 : Int) (x9 : Int) (x10 : Int) (x11 : Int) (x12 : Int) : execA Tryz.prog lay (r4_longest.Γ f25 f58) [] (inlA Tryz.prog lay (r4_longest.Γ f25 f58) [] 3) ⟨r4_longest.J59, [], 0⟩ 0 (loopAt Tryz.f59 1) (bldS r4_longest.L7.T (r4_longest.L7.eσ (x0, x1, x2, x3, x4, x5, x6, x7, x8, x9, x10, x11, x12))).1 (bldS r4_longest.L7.T (r4_longest.L7.eσ (x0, x1, x2, x3, x4, x5, x6, x7, x8, x9, x10, x11, x12))).2 (contA r4_longest.L7.T r4_longest.L7.X r4_longest.L7.dσ r4_longest.L7.dτ rec) = r4_longest.L7.S K f25 f58 rec x0 x1 x2 x3 x4 x5 x6 x7 x8 x9 x10 x11 x12 := by kernel_rfl
def r4_longest.L7 (K : Nat) (f25 : Int → Option (Int)) (f58 : Int → Int → Int → Int → Int → Int → Option (Int)) : Nat → (Int × Int × Int × Int × Int × Int × Int × Int × Int × Int × Int × Int × Int) → Option (Int × Int × Int × Int × Int × Int × Int × Int × Int × Int × Int × Int × Int)
  | 0, _ => none
  | k + 1, x => r4_longest.L7.S K f25 f58 (r4_longest.L7 K f25 f58 k) x.1 x.2.1 x.2.2.1 x.2.2.2.1 x.2.2.2.2.1 x.2.2.2.2.2.1 x.2.2.2.2.2.2.1 x.2.2.2.2.2.2.2.1 x.2.2.2.2.2.2.2.2.1 x.2.2.2.2.2.2.2.2.2.1 x.2.2.2.2.2.2.2.2.2.2.1 x.2.2.2.2.2.2.2.2.2.2.2.1 x.2.2.2.2.2.2.2.2.2.2.2.2
theorem r4_longest.L7.ok (K : Nat) (f25 : Int → Option (Int)) (f58 : Int → Int → Int → Int → Int → Int → Option (Int)) {B : Nat} {wB : World} (stab_ : ∀ w', Bel B wB w' → GW w') (hΓ_ : AllOk Tryz.prog GW lay (r4_longest.Γ f25 f58)) (Kr : Nat) : LSOk Tryz.prog lay B wB [] 0 (sumA r4_longest.L7.T r4_longest.L7.X r4_longest.L7.dσ r4_longest.L7.eτ r4_longest.L7.sel r4_longest.L7.sel_ok (r4_longest.L7 K f25 f58 Kr)) (loopAt Tryz.f59 1) :=
  loop_mk (by kernel_rfl) hΓ_ stab_ (inlA_ok (by kernel_rfl) hΓ_ stab_ in_nil 3) (C := ⟨r4_longest.J59, [], 0⟩) (allL_of (l := []) (by kernel_rfl) allL_nil) (by decide) (by decide) r4_longest.L7.dσ_ok r4_longest.L7.dτ_ok (fun _ => rfl) (fun k x => (r4_longest.L7.step K f25 f58 (r4_longest.L7 K f25 f58 k) x.1 x.2.1 x.2.2.1 x.2.2.2.1 x.2.2.2.2.1 x.2.2.2.2.2.1 x.2.2.2.2.2.2.1 x.2.2.2.2.2.2.2.1 x.2.2.2.2.2.2.2.2.1 x.2.2.2.2.2.2.2.2.2.1 x.2.2.2.2.2.2.2.2.2.2.1 x.2.2.2.2.2.2.2.2.2.2.2.1 x.2.2.2.2.2.2.2.2.2.2.2.2).symm) Kr
def r4_longest.L4.T : TS := ⟨[.int .i64, .junk, .ptr 0 0, .int .i64, .ptr 1 0, .int .i64, .int .i64, .junk, .junk, .junk, .junk, .junk, .junk, .junk, .junk, .junk, .junk, .junk, .junk, .junk, .junk, .junk, .junk, .junk, .junk, .junk, .junk, .junk, .junk, .junk, .junk, .junk, .junk, .junk, .junk, .junk, .junk, .junk, .junk, .junk, .junk, .junk, .junk, .junk], [.cells 23 [.int .i64, .int .i64, .int .i64, .int .i64] .own, .cells 23 [.int .i64, .int .i64, .int .i64, .int .i64] .own], 0, [(2, none), (4, none)]⟩
def r4_longest.L4.X0 : TS := ⟨[.junk, .junk, .ptr 0 0, .int .i64, .ptr 1 0, .int .i64, .junk, .junk, .junk, .junk, .junk, .junk, .junk, .junk, .junk, .junk, .junk, .junk, .junk, .junk, .junk, .junk, .junk, .junk, .junk, .junk, .junk, .junk, .junk, .junk, .junk, .junk, .junk, .junk, .junk, .junk, .junk, .junk, .junk, .junk, .junk, .junk, .junk, .junk], [.cells 23 [.int .i64, .int .i64, .int .i64, .int .i64] .own, .cells 23 [.int .i64, .int .i64, .int .i64, .int .i64] .own], 0, [(2, none), (4, none)]⟩
def r4_longest.L4.X : List (Exit × TS) := [(.exit 0, r4_longest.L4.X0)]
def r4_longest.L4.dσ : List D → Option (Int × Int × Int × Int × Int × Int × Int × Int × Int × Int × Int × Int)
  | [.int x0, .int x1, .int x2, .int x3, .int x4, .int x5, .int x6, .int x7, .int x8, .int x9, .int x10, .int x11] => some (x0, x1, x2, x3, x4, x5, x6, x7, x8, x9, x10, x11)
  | _ => none
def r4_longest.L4.eσ (x : Int × Int × Int × Int × Int × Int × Int × Int × Int × Int × Int × Int) : List D := [.int x.1, .int x.2.1, .int x.2.2.1, .int x.2.2.2.1, .int x.2.2.2.2.1, .int x.2.2.2.2.2.1, .int x.2.2.2.2.2.2.1, .int x.2.2.2.2.2.2.2.1, .int x.2.2.2.2.2.2.2.2.1, .int x.2.2.2.2.2.2.2.2.2.1, .int x.2.2.2.2.2.2.2.2.2.2.1, .int x.2.2.2.2.2.2.2.2.2.2.2]
def r4_longest.L4.dτ : Nat → List D → Option (Int × Int × Int × Int × Int × Int × Int × Int × Int × Int)
  | 0, [.int y0, .int y1, .int y2, .int y3, .int y4, .int y5, .int y6, .int y7, .int y8, .int y9] => some (y0, y1, y2, y3, y4, y5, y6, y7, y8, y9)
  | _, _ => none
def r4_longest.L4.eτ (t : Int × Int × Int × Int × Int × Int × Int × Int × Int × Int) : Nat × List D := (0, [.int t.1, .int t.2.1, .int t.2.2.1, .int t.2.2.2.1, .int t.2.2.2.2.1, .int t.2.2.2.2.2.1, .int t.2.2.2.2.2.2.1, .int t.2.2.2.2.2.2.2.1, .int t.2.2.2.2.2.2.2.2.1, .int t.2.2.2.2.2.2.2.2.2])
def r4_longest.L4.sel (β : Type) (t : Int × Int × Int × Int × Int × Int × Int × Int × Int × Int) (k : Exit → Fr → Hp → Option β) : Option β := k (.exit 0) (bldS r4_longest.L4.X0 [.int t.1, .int t.2.1, .int t.2.2.1, .int t.2.2.2.1, .int t.2.2.2.2.1, .int t.2.2.2.2.2.1, .int t.2.2.2.2.2.2.1, .int t.2.2.2.2.2.2.2.1, .int t.2.2.2.2.2.2.2.2.1, .int t.2.2.2.2.2.2.2.2.2]).1 (bldS r4_longest.L4.X0 [.int t.1, .int t.2.1, .int t.2.2.1, .int t.2.2.2.1, .int t.2.2.2.2.1, .int t.2.2.2.2.2.1, .int t.2.2.2.2.2.2.1, .int t.2.2.2.2.2.2.2.1, .int t.2.2.2.2.2.2.2.2.1, .int t.2.2.2.2.2.2.2.2.2]).2
theorem r4_longest.L4.sel_ok (β : Type) (t : Int × Int × Int × Int × Int × Int × Int × Int × Int × Int) (k : Exit → Fr → Hp → Option β) : r4_longest.L4.sel β t k = k (endA r4_longest.L4.X r4_longest.L4.eτ t).1 (endA r4_longest.L4.X r4_longest.L4.eτ t).2.1 (endA r4_longest.L4.X r4_longest.L4.eτ t).2.2 := by rfl
theorem r4_longest.L4.dσ_ok (d : List D) (x : Int × Int × Int × Int × Int × Int × Int × Int × Int × Int × Int × Int) (h : r4_longest.L4.dσ d = some x) : r4_longest.L4.eσ x = d := by
  unfold r4_longest.L4.dσ at h
  split at h <;> first | (cases h; rfl) | cases h
theorem r4_longest.L4.dτ_ok (i : Nat) (d : List D) (t : Int × Int × Int × Int × Int × Int × Int × Int × Int × Int) (h : r4_longest.L4.dτ i d = some t) : r4_longest.L4.eτ t = (i, d) := by
  unfold r4_longest.L4.dτ at h
  split at h <;> first | (cases h; rfl) | cases h
def r4_longest.L4.S (K : Nat) (f25 : Int → Option (Int)) (f58 : Int → Int → Int → Int → Int → Int → Option (Int)) (rec : (Int × Int × Int × Int × Int × Int × Int × Int × Int × Int × Int × Int) → Option (Int × Int × Int × Int × Int × Int × Int × Int × Int × Int)) (x0 : Int) (x1 : Int) (x2 : Int) (x3 : Int) (x4 : Int) (x5 : Int) (x6 : Int) (x7 : Int) (x8 : Int) (x9 : Int) (x10 : Int) (x11 : Int) : Option (Int × Int × Int × Int × Int × Int × Int × Int × Int × Int) :=
  bif decide (x3 ≤ (6 : Int)) then (r4_longest.L7 K f25 f58 K (x0, x1, x2, x3, (0 : Int), x4, x5, x6, x7, x8, x9, x10, x11)).bind fun v1 => rec (v1.fst, v1.snd.fst, v1.snd.snd.fst, IntKind.i64.wrap (v1.snd.snd.snd.fst + (1 : Int)), v1.snd.snd.snd.snd.snd.fst, v1.snd.snd.snd.snd.snd.snd.fst, v1.snd.snd.snd.snd.snd.snd.snd.fst, v1.snd.snd.snd.snd.snd.snd.snd.snd.fst, v1.snd.snd.snd.snd.snd.snd.snd.snd.snd.fst, v1.snd.snd.snd.snd.snd.snd.snd.snd.snd.snd.fst, v1.snd.snd.snd.snd.snd.snd.snd.snd.snd.snd.snd.fst, v1.snd.snd.snd.snd.snd.snd.snd.snd.snd.snd.snd.snd) else some (x1, x2, x4, x5, x6, x7, x8, x9, x10, x11)
set_option maxRecDepth 100000 in
theorem r4_longest.L4.step (K : Nat) (f25 : Int → Option (Int)) (f58 : Int → Int → Int → Int → Int → Int → Option (Int)) (rec : (Int × Int × Int × Int × Int × Int × Int × Int × Int × Int × Int × Int) → Option (Int × Int × Int × Int × Int × Int × Int × Int × Int × Int)) (x0 : Int) (x1 : Int) (x2 : Int) (x3 : Int) (x4 : Int) (x5 : Int) (x6 : Int) (x7 : Int) (x8 : Int) (x9 : Int) (x10 : Int) (x11 : Int) : execA Tryz.prog lay (r4_longest.Γ f25 f58) [] (inlA Tryz.prog lay (r4_longest.Γ f25 f58) [] 3) ⟨r4_longest.J59, [(7, 0, sumA r4_longest.L7.T r4_longest.L7.X r4_longest.L7.dσ r4_longest.L7.eτ r4_longest.L7.sel r4_longest.L7.sel_ok (r4_longest.L7 K f25 f58 K))], 0⟩ 0 (loopAt Tryz.f59 0) (bldS r4_longest.L4.T (r4_longest.L4.eσ (x0, x1, x2, x3, x4, x5, x6, x7, x8, x9, x10, x11))).1 (bldS r4_longest.L4.T (r4_longest.L4.eσ (x0, x1, x2, x3, x4, x5, x6, x7, x8, x9, x10, x11))).2 (contA r4_longest.L4.T r4_longest.L4.X r4_longest.L4.dσ r4_longest.L4.dτ rec) = r4_longest.L4.S K f25 f58 rec x0 x1 x2 x3 x4 x5 x6 x7 x8 x9 x10 x11 := by kernel_rfl
def r4_longest.L4 (K : Nat) (f25 : Int → Option (Int)) (f58 : Int → Int → Int → Int → Int → Int → Option (Int)) : Nat → (Int × Int × Int × Int × Int × Int × Int × Int × Int × Int × Int × Int) → Option (Int × Int × Int × Int × Int × Int × Int × Int × Int × Int)
  | 0, _ => none
  | k + 1, x => r4_longest.L4.S K f25 f58 (r4_longest.L4 K f25 f58 k) x.1 x.2.1 x.2.2.1 x.2.2.2.1 x.2.2.2.2.1 x.2.2.2.2.2.1 x.2.2.2.2.2.2.1 x.2.2.2.2.2.2.2.1 x.2.2.2.2.2.2.2.2.1 x.2.2.2.2.2.2.2.2.2.1 x.2.2.2.2.2.2.2.2.2.2.1 x.2.2.2.2.2.2.2.2.2.2.2
theorem r4_longest.L4.ok (K : Nat) (f25 : Int → Option (Int)) (f58 : Int → Int → Int → Int → Int → Int → Option (Int)) {B : Nat} {wB : World} (stab_ : ∀ w', Bel B wB w' → GW w') (hΓ_ : AllOk Tryz.prog GW lay (r4_longest.Γ f25 f58)) (Kr : Nat) : LSOk Tryz.prog lay B wB [] 0 (sumA r4_longest.L4.T r4_longest.L4.X r4_longest.L4.dσ r4_longest.L4.eτ r4_longest.L4.sel r4_longest.L4.sel_ok (r4_longest.L4 K f25 f58 Kr)) (loopAt Tryz.f59 0) :=
  loop_mk (by kernel_rfl) hΓ_ stab_ (inlA_ok (by kernel_rfl) hΓ_ stab_ in_nil 3) (C := ⟨r4_longest.J59, [(7, 0, sumA r4_longest.L7.T r4_longest.L7.X r4_longest.L7.dσ r4_longest.L7.eτ r4_longest.L7.sel r4_longest.L7.sel_ok (r4_longest.L7 K f25 f58 K))], 0⟩) (allL_of (l := [loopAt Tryz.f59 1]) (by kernel_rfl) (allL_cons (by kernel_rfl) (r4_longest.L7.ok K f25 f58 stab_ hΓ_ K) allL_nil)) (by decide) (by decide) r4_longest.L4.dσ_ok r4_longest.L4.dτ_ok (fun _ => rfl) (fun k x => (r4_longest.L4.step K f25 f58 (r4_longest.L4 K f25 f58 k) x.1 x.2.1 x.2.2.1 x.2.2.2.1 x.2.2.2.2.1 x.2.2.2.2.2.1 x.2.2.2.2.2.2.1 x.2.2.2.2.2.2.2.1 x.2.2.2.2.2.2.2.2.1 x.2.2.2.2.2.2.2.2.2.1 x.2.2.2.2.2.2.2.2.2.2.1 x.2.2.2.2.2.2.2.2.2.2.2).symm) Kr
def r4_longest.t (K : Nat) (f25 : Int → Option (Int)) (f58 : Int → Int → Int → Int → Int → Int → Option (Int)) (a0 : Int) : Option (Int × Int × Int × Int × Int) :=
  (r4_longest.L4 K f25 f58 K (a0, (0 : Int), (0 : Int), (0 : Int), (0 : Int), (0 : Int), (0 : Int), (0 : Int), (0 : Int), (0 : Int), (0 : Int), (0 : Int))).bind fun v1 => some (v1.snd.snd.snd.snd.snd.snd.fst, v1.snd.snd.snd.snd.snd.snd.snd.fst, v1.snd.snd.snd.snd.snd.snd.snd.snd.fst, v1.snd.snd.snd.snd.snd.snd.snd.snd.snd, v1.snd.fst)
set_option maxRecDepth 100000 in
theorem r4_longest.run (K : Nat) (f25 : Int → Option (Int)) (f58 : Int → Int → Int → Int → Int → Int → Option (Int)) (a0 : Int) : runA Tryz.prog lay (r4_longest.Γ f25 f58) [] [] 3 ⟨r4_longest.J59, [(4, 0, sumA r4_longest.L4.T r4_longest.L4.X r4_longest.L4.dσ r4_longest.L4.eτ r4_longest.L4.sel r4_longest.L4.sel_ok (r4_longest.L4 K f25 f58 K)), (7, 0, sumA r4_longest.L7.T r4_longest.L7.X r4_longest.L7.dσ r4_longest.L7.eτ r4_longest.L7.sel r4_longest.L7.sel_ok (r4_longest.L7 K f25 f58 K))], 0⟩ Tryz.f59 [.int .i64 a0] [] [.agg [.int .i64, .int .i64, .int .i64, .int .i64], .one (.int .i64)] r4_longest.dec = r4_longest.t K f25 f58 a0 := by kernel_rfl
def r4_longest.f (k : Nat) (a0 : Int) : Option (Int × Int × Int × Int × Int) := r4_longest.t k (r4_power.f k) (r4_units.f k) a0
theorem r4_longest.allOk (k : Nat) : AllOk Tryz.prog GW lay (r4_longest.Γ (r4_power.f k) (r4_units.f k)) := (allOk_cons (r4_power.ok k) (allOk_cons (r4_units.ok k) allOk_nil))
theorem r4_longest.ok (k : Nat) : CEOk Tryz.prog GW lay 59 (r4_longest.ce (r4_longest.f k)) := by
  have hΓ_ := r4_longest.allOk k
  exact tells_mk (by kernel_rfl) hΓ_ Tryz.func59 (fun args w => by kernel_rfl) (fun w w' h hb => h.step hb) no_globals (fun B wB stab_ => in_nil) (C := ⟨r4_longest.J59, [(4, 0, sumA r4_longest.L4.T r4_longest.L4.X r4_longest.L4.dσ r4_longest.L4.eτ r4_longest.L4.sel r4_longest.L4.sel_ok (r4_longest.L4 k (r4_power.f k) (r4_units.f k) k)), (7, 0, sumA r4_longest.L7.T r4_longest.L7.X r4_longest.L7.dσ r4_longest.L7.eτ r4_longest.L7.sel r4_longest.L7.sel_ok (r4_longest.L7 k (r4_power.f k) (r4_units.f k) k))], 0⟩) (fun B wB stab_ => bodyL (allL_of (l := [loopAt Tryz.f59 0, loopAt Tryz.f59 1]) (by kernel_rfl) (allL_cons (by kernel_rfl) (r4_longest.L4.ok k (r4_power.f k) (r4_units.f k) stab_ hΓ_ k) (allL_cons (by kernel_rfl) (r4_longest.L7.ok k (r4_power.f k) (r4_units.f k) stab_ hΓ_ k) allL_nil)))) (fun args τ x out sel ok r hs hx => by
    unfold r4_longest.tells at hs
    split at hs
    · rename_i a0
      cases hs
      unfold r4_longest.f at hx
      have hr_ := r4_longest.run k (r4_power.f k) (r4_units.f k) a0
      rw [hx] at hr_
      exact ⟨rfl, r4_longest.out_free _, 3, [.agg [.int .i64, .int .i64, .int .i64, .int .i64], .one (.int .i64)], r4_longest.dec, hr_, fun res h => r4_longest.dec_ok res _ h⟩
    · cases hs)

end Go.Proofs.YtajbnfidcpfonaaGreatDoor.M
