/- Go functions as the machine tells them. -/
import Derived.Test.YtajbnfidcpfonaaGreatDoorProg
import Derived.Test.YtajbnfidcpfonaaGreatDoorQ10
import Derived.Test.YtajbnfidcpfonaaGreatDoorM0
import Derived.Test.YtajbnfidcpfonaaGreatDoorLay
import Derived.Test.YtajbnfidcpfonaaGreatDoorZ0
set_option linter.unusedVariables false
set_option linter.unusedSimpArgs false
set_option maxRecDepth 100000
namespace Go.Proofs.YtajbnfidcpfonaaGreatDoor.M
open Go Go.RowKit Go.Proofs Go.Proofs.Qx Go.Proofs.YtajbnfidcpfonaaGreatDoorW.PrintWords Go.Proofs.YtajbnfidcpfonaaGreatDoorW.PrintLast Go.Proofs.YtajbnfidcpfonaaGreatDoorW.PrintMore

/-! ### partita/partitaref04.kinds: function 55 -/
def r4_kinds.out (r : List (List D)) : Res := .ret (.seq 23 r)
def r4_kinds.dec : Res → Option (List (List D))
  | .ret (.seq 23 y0) => some y0
  | _ => none
theorem r4_kinds.out_free (r : List (List D)) : (r4_kinds.out r).free = true := rfl
def r4_kinds.sel (β : Type) (r : List (List D)) (k : Res → Option β) : Option β := k (.ret (.seq 23 r))
theorem r4_kinds.sel_ok (β : Type) (t : List (List D)) (k : Res → Option β) : r4_kinds.sel β t k = k (r4_kinds.out t) := rfl
theorem r4_kinds.dec_ok (res : Res) (r : List (List D)) (h : r4_kinds.dec res = some r) : res = r4_kinds.out r := by
  unfold r4_kinds.dec at h
  split at h <;> first | (cases h; rfl) | cases h
def r4_kinds.tells (f : Option (List (List D))) : Tells
  | [] => some (.mk (List (List D)) (f ) r4_kinds.out r4_kinds.sel r4_kinds.sel_ok)
  | _ => none
def r4_kinds.ce (f : Option (List (List D))) : CE := ⟨[], .froz, r4_kinds.tells f⟩
def r4_kinds.Γ : List (Nat × CE) := []
def r4_kinds.J55 : List (Nat × List Nat) := [(1, [1, 2, 3, 4, 5])]
def r4_kinds.t (K : Nat) : Option (List (List D)) :=
  some [[D.int (0 : Int), D.int (0 : Int), D.int (0 : Int), D.int (0 : Int)], [D.int (0 : Int), D.int (0 : Int), D.int (3 : Int), D.int (2 : Int)], [D.int (0 : Int), D.int (0 : Int), D.int (5 : Int), D.int (4 : Int)], [D.int (0 : Int), D.int (0 : Int), D.int (7 : Int), D.int (4 : Int)]]
set_option maxRecDepth 100000 in
theorem r4_kinds.run (K : Nat) : runA Tryz.prog lay (r4_kinds.Γ) [] [] 3 ⟨r4_kinds.J55, [], 0⟩ Tryz.f55 [] [] [.one (.seq 23)] r4_kinds.dec = r4_kinds.t K := by kernel_rfl
def r4_kinds.f (k : Nat) : Option (List (List D)) := r4_kinds.t k
theorem r4_kinds.allOk (k : Nat) : AllOk Tryz.prog GW lay (r4_kinds.Γ) := allOk_nil
theorem r4_kinds.ok (k : Nat) : CEOk Tryz.prog GW lay 55 (r4_kinds.ce (r4_kinds.f k)) := by
  have hΓ_ := r4_kinds.allOk k
  exact tells_mk (by kernel_rfl) hΓ_ Tryz.func55 (fun args w => by kernel_rfl) (fun w w' h hb => h.step hb) no_globals (fun B wB stab_ => in_nil) (C := ⟨r4_kinds.J55, [], 0⟩) (fun B wB stab_ => bodyL (allL_of (l := []) (by kernel_rfl) allL_nil)) (fun args τ x out sel ok r hs hx => by
    unfold r4_kinds.tells at hs
    split at hs
    · cases hs
      unfold r4_kinds.f at hx
      have hr_ := r4_kinds.run k 
      rw [hx] at hr_
      exact ⟨rfl, r4_kinds.out_free _, 3, [.one (.seq 23)], r4_kinds.dec, hr_, fun res h => r4_kinds.dec_ok res _ h⟩
    · cases hs)
/-! ### partita/partitaref04.Find: function 30 -/
def r4_Find.out (r : Int × Int × Int × Int × Bool) : Res := .ret (.tup [.agg [.int .i64 r.1, .int .i64 r.2.1, .int .i64 r.2.2.1, .int .i64 r.2.2.2.1], .bool r.2.2.2.2])
def r4_Find.dec : Res → Option (Int × Int × Int × Int × Bool)
  | .ret (.tup [.agg [.int .i64 y0, .int .i64 y1, .int .i64 y2, .int .i64 y3], .bool y4]) => some (y0, y1, y2, y3, y4)
  | _ => none
theorem r4_Find.out_free (r : Int × Int × Int × Int × Bool) : (r4_Find.out r).free = true := rfl
def r4_Find.sel (β : Type) (r : Int × Int × Int × Int × Bool) (k : Res → Option β) : Option β := k (.ret (.tup [.agg [.int .i64 r.1, .int .i64 r.2.1, .int .i64 r.2.2.1, .int .i64 r.2.2.2.1], .bool r.2.2.2.2]))
theorem r4_Find.sel_ok (β : Type) (t : Int × Int × Int × Int × Bool) (k : Res → Option β) : r4_Find.sel β t k = k (r4_Find.out t) := rfl
theorem r4_Find.dec_ok (res : Res) (r : Int × Int × Int × Int × Bool) (h : r4_Find.dec res = some r) : res = r4_Find.out r := by
  unfold r4_Find.dec at h
  split at h <;> first | (cases h; rfl) | cases h
def r4_Find.tells (f : Int → Int → Option (Int × Int × Int × Int × Bool)) : Tells
  | [.agg [.int .i64 a0, .int .i64 a1]] => some (.mk (Int × Int × Int × Int × Bool) (f a0 a1) r4_Find.out r4_Find.sel r4_Find.sel_ok)
  | _ => none
def r4_Find.ce (f : Int → Int → Option (Int × Int × Int × Int × Bool)) : CE := ⟨[.agg [.int .i64, .int .i64]], .flat, r4_Find.tells f⟩
def r4_Find.Γ (f9 : Int → Int → Int → Int → Option (Int × Int × Int)) (f55 : Option (List (List D))) : List (Nat × CE) := [(9, r4_Length.ce f9), (55, r4_kinds.ce f55)]
def r4_Find.J30 : List (Nat × List Nat) := [(1, [11]), (3, [12, 13, 14]), (4, [16, 17]), (6, [18]), (7, [20, 21]), (9, [22]), (10, [24, 25]), (11, [26, 27, 28, 29, 30, 31, 32, 33, 34, 35, 36, 37, 38]), (12, [10, 39, 40, 41, 42, 43]), (13, [44, 45]), (14, [47]), (15, [48]), (1000015, [15]), (1000019, [19]), (1000023, [23]), (1000046, [46])]
def r4_Find.L9.T : TS := ⟨[.junk, .ptr 0 0, .ptr 1 0, .bool, .seq 23, .int .i64, .int .i64, .int .i64, .junk, .junk, .junk, .junk, .junk, .junk, .junk, .junk, .junk, .junk, .junk, .junk, .junk, .junk, .junk, .junk, .junk, .junk, .junk, .junk, .junk, .junk, .junk, .junk, .junk, .junk, .junk, .junk, .junk, .junk, .junk, .junk, .junk, .junk, .junk, .junk, .junk, .junk, .junk, .junk, .junk], [.cells 25 [.int .i64, .int .i64] .own, .cells 23 [.int .i64, .int .i64, .int .i64, .int .i64] .own], 0, [(1, none), (2, none)]⟩
def r4_Find.L9.X0 : TS := ⟨[.junk, .ptr 0 0, .ptr 1 0, .bool, .seq 23, .int .i64, .int .i64, .int .i64, .junk, .junk, .junk, .junk, .junk, .junk, .junk, .junk, .junk, .junk, .junk, .junk, .junk, .junk, .junk, .junk, .junk, .junk, .junk, .junk, .junk, .junk, .junk, .junk, .junk, .junk, .junk, .junk, .junk, .junk, .junk, .junk, .junk, .junk, .junk, .junk, .junk, .junk, .junk, .junk, .junk], [.cells 25 [.int .i64, .int .i64] .own, .cells 23 [.int .i64, .int .i64, .int .i64, .int .i64] .own], 0, [(1, none), (2, none)]⟩
def r4_Find.L9.X1 : TS := ⟨[.junk, .junk, .ptr 0 0, .bool, .junk, .junk, .junk, .junk, .junk, .junk, .junk, .junk, .junk, .junk, .junk, .junk, .junk, .junk, .junk, .junk, .junk, .junk, .junk, .junk, .junk, .junk, .junk, .junk, .junk, .junk, .junk, .junk, .junk, .junk, .junk, .junk, .junk, .junk, .junk, .junk, .junk, .junk, .junk, .junk, .junk, .junk, .junk, .junk, .junk], [.cells 23 [.int .i64, .int .i64, .int .i64, .int .i64] .own], 0, [(2, none)]⟩
def r4_Find.L9.X : List (Exit × TS) := [(.exit 4, r4_Find.L9.X0), (.ret, r4_Find.L9.X1)]
def r4_Find.L9.dσ : List D → Option (Bool × List (List D) × Int × Int × Int × Int × Int × Int × Int × Int × Int)
  | [.bool x0, .seq x1, .int x2, .int x3, .int x4, .int x5, .int x6, .int x7, .int x8, .int x9, .int x10] => some (x0, x1, x2, x3, x4, x5, x6, x7, x8, x9, x10)
  | _ => none
def r4_Find.L9.eσ (x : Bool × List (List D) × Int × Int × Int × Int × Int × Int × Int × Int × Int) : List D := [.bool x.1, .seq x.2.1, .int x.2.2.1, .int x.2.2.2.1, .int x.2.2.2.2.1, .int x.2.2.2.2.2.1, .int x.2.2.2.2.2.2.1, .int x.2.2.2.2.2.2.2.1, .int x.2.2.2.2.2.2.2.2.1, .int x.2.2.2.2.2.2.2.2.2.1, .int x.2.2.2.2.2.2.2.2.2.2]
def r4_Find.L9.dτ : Nat → List D → Option ((Bool × List (List D) × Int × Int × Int × Int × Int × Int × Int × Int × Int) ⊕ (Bool × Int × Int × Int × Int))
  | 0, [.bool y0, .seq y1, .int y2, .int y3, .int y4, .int y5, .int y6, .int y7, .int y8, .int y9, .int y10] => some (.inl (y0, y1, y2, y3, y4, y5, y6, y7, y8, y9, y10))
  | 1, [.bool y0, .int y1, .int y2, .int y3, .int y4] => some (.inr (y0, y1, y2, y3, y4))
  | _, _ => none
def r4_Find.L9.eτ : (Bool × List (List D) × Int × Int × Int × Int × Int × Int × Int × Int × Int) ⊕ (Bool × Int × Int × Int × Int) → Nat × List D
  | (.inl t) => (0, [.bool t.1, .seq t.2.1, .int t.2.2.1, .int t.2.2.2.1, .int t.2.2.2.2.1, .int t.2.2.2.2.2.1, .int t.2.2.2.2.2.2.1, .int t.2.2.2.2.2.2.2.1, .int t.2.2.2.2.2.2.2.2.1, .int t.2.2.2.2.2.2.2.2.2.1, .int t.2.2.2.2.2.2.2.2.2.2])
  | (.inr t) => (1, [.bool t.1, .int t.2.1, .int t.2.2.1, .int t.2.2.2.1, .int t.2.2.2.2])
def r4_Find.L9.sel (β : Type) (t : (Bool × List (List D) × Int × Int × Int × Int × Int × Int × Int × Int × Int) ⊕ (Bool × Int × Int × Int × Int)) (k : Exit → Fr → Hp → Option β) : Option β := match t with
  | (.inl r) => k (.exit 4) (bldS r4_Find.L9.X0 [.bool r.1, .seq r.2.1, .int r.2.2.1, .int r.2.2.2.1, .int r.2.2.2.2.1, .int r.2.2.2.2.2.1, .int r.2.2.2.2.2.2.1, .int r.2.2.2.2.2.2.2.1, .int r.2.2.2.2.2.2.2.2.1, .int r.2.2.2.2.2.2.2.2.2.1, .int r.2.2.2.2.2.2.2.2.2.2]).1 (bldS r4_Find.L9.X0 [.bool r.1, .seq r.2.1, .int r.2.2.1, .int r.2.2.2.1, .int r.2.2.2.2.1, .int r.2.2.2.2.2.1, .int r.2.2.2.2.2.2.1, .int r.2.2.2.2.2.2.2.1, .int r.2.2.2.2.2.2.2.2.1, .int r.2.2.2.2.2.2.2.2.2.1, .int r.2.2.2.2.2.2.2.2.2.2]).2
  | (.inr r) => k (.ret) (bldS r4_Find.L9.X1 [.bool r.1, .int r.2.1, .int r.2.2.1, .int r.2.2.2.1, .int r.2.2.2.2]).1 (bldS r4_Find.L9.X1 [.bool r.1, .int r.2.1, .int r.2.2.1, .int r.2.2.2.1, .int r.2.2.2.2]).2
theorem r4_Find.L9.sel_ok (β : Type) (t : (Bool × List (List D) × Int × Int × Int × Int × Int × Int × Int × Int × Int) ⊕ (Bool × Int × Int × Int × Int)) (k : Exit → Fr → Hp → Option β) : r4_Find.L9.sel β t k = k (endA r4_Find.L9.X r4_Find.L9.eτ t).1 (endA r4_Find.L9.X r4_Find.L9.eτ t).2.1 (endA r4_Find.L9.X r4_Find.L9.eτ t).2.2 := by rcases t with t | t <;> rfl
theorem r4_Find.L9.dσ_ok (d : List D) (x : Bool × List (List D) × Int × Int × Int × Int × Int × Int × Int × Int × Int) (h : r4_Find.L9.dσ d = some x) : r4_Find.L9.eσ x = d := by
  unfold r4_Find.L9.dσ at h
  split at h <;> first | (cases h; rfl) | cases h
theorem r4_Find.L9.dτ_ok (i : Nat) (d : List D) (t : (Bool × List (List D) × Int × Int × Int × Int × Int × Int × Int × Int × Int) ⊕ (Bool × Int × Int × Int × Int)) (h : r4_Find.L9.dτ i d = some t) : r4_Find.L9.eτ t = (i, d) := by
  unfold r4_Find.L9.dτ at h
  split at h <;> first | (cases h; rfl) | cases h
def r4_Find.L9.S (K : Nat) (f9 : Int → Int → Int → Int → Option (Int × Int × Int)) (f55 : Option (List (List D))) (rec : (Bool × List (List D) × Int × Int × Int × Int × Int × Int × Int × Int × Int) → Option ((Bool × List (List D) × Int × Int × Int × Int × Int × Int × Int × Int × Int) ⊕ (Bool × Int × Int × Int × Int))) (x0 : Bool) (x1 : List (List D)) (x2 : Int) (x3 : Int) (x4 : Int) (x5 : Int) (x6 : Int) (x7 : Int) (x8 : Int) (x9 : Int) (x10 : Int) : Option ((Bool × List (List D) × Int × Int × Int × Int × Int × Int × Int × Int × Int) ⊕ (Bool × Int × Int × Int × Int)) :=
  bif decide (x4 ≤ (2 : Int)) then if (0 : Int) ≤ x2 ∧ x2 < (↑x1.length : Int) then if (0 : Int) ≤ x2 ∧ x2 < (↑x1.length : Int) then (f9 x3 x4 (D.at x1 x2.toNat (2 : Nat)).toInt (D.at x1 x2.toNat (3 : Nat)).toInt).bind fun v1 => bif v1.fst == x5 && (v1.snd.fst == x6 && true) then some (Sum.inr (true, x3, x4, (D.at x1 x2.toNat (2 : Nat)).toInt, (D.at x1 x2.toNat (3 : Nat)).toInt)) else rec (x0, x1, x2, x3, IntKind.i64.wrap (x4 + (1 : Int)), x5, x6, x7, x8, x9, x10) else none else none else some (Sum.inl (x0, x1, x2, x3, x4, x5, x6, x7, x8, x9, x10))
set_option maxRecDepth 100000 in
theorem r4_Find.L9.step (K : Nat) (f9 : Int → Int → Int → Int → Option (Int × Int × Int)) (f55 : Option (List (List D))) (rec : (Bool × List (List D) × Int × Int × Int × Int × Int × Int × Int × Int × Int) → Option ((Bool × List (List D) × Int × Int × Int × Int × Int × Int × Int × Int × Int) ⊕ (Bool × Int × Int × Int × Int))) (x0 : Bool) (x1 : List (List D)) (x2 : Int) (x3 : Int) (x4 : Int) (x5 : Int) (x6 : Int) (x7 : Int) (x8 : Int) (x9 : Int) (x10 : Int) : execA Tryz.prog lay (r4_Find.Γ f9 f55) [] (inlA Tryz.prog lay (r4_Find.Γ f9 f55) [] 3) ⟨r4_Find.J30, [], 0⟩ 0 (loopAt Tryz.f30 2) (bldS r4_Find.L9.T (r4_Find.L9.eσ (x0, x1, x2, x3, x4, x5, x6, x7, x8, x9, x10))).1 (bldS r4_Find.L9.T (r4_Find.L9.eσ (x0, x1, x2, x3, x4, x5, x6, x7, x8, x9, x10))).2 (contA r4_Find.L9.T r4_Find.L9.X r4_Find.L9.dσ r4_Find.L9.dτ rec) = r4_Find.L9.S K f9 f55 rec x0 x1 x2 x3 x4 x5 x6 x7 x8 x9 x10 := by kernel_rfl
def r4_Find.L9 (K : Nat) (f9 : Int → Int → Int → Int → Option (Int × Int × Int)) (f55 : Option (List (List D))) : Nat → (Bool × List (List D) × Int × Int × Int × Int × Int × Int × Int × Int × Int) → Option ((Bool × List (List D) × Int × Int × Int × Int × Int × Int × Int × Int × Int) ⊕ (Bool × Int × Int × Int × Int))
  | 0, _ => none
  | k + 1, x => r4_Find.L9.S K f9 f55 (r4_Find.L9 K f9 f55 k) x.1 x.2.1 x.2.2.1 x.2.2.2.1 x.2.2.2.2.1 x.2.2.2.2.2.1 x.2.2.2.2.2.2.1 x.2.2.2.2.2.2.2.1 x.2.2.2.2.2.2.2.2.1 x.2.2.2.2.2.2.2.2.2.1 x.2.2.2.2.2.2.2.2.2.2
theorem r4_Find.L9.ok (K : Nat) (f9 : Int → Int → Int → Int → Option (Int × Int × Int)) (f55 : Option (List (List D))) {B : Nat} {wB : World} (stab_ : ∀ w', Bel B wB w' → GW w') (hΓ_ : AllOk Tryz.prog GW lay (r4_Find.Γ f9 f55)) (Kr : Nat) : LSOk Tryz.prog lay B wB [] 0 (sumA r4_Find.L9.T r4_Find.L9.X r4_Find.L9.dσ r4_Find.L9.eτ r4_Find.L9.sel r4_Find.L9.sel_ok (r4_Find.L9 K f9 f55 Kr)) (loopAt Tryz.f30 2) :=
  loop_mk (by kernel_rfl) hΓ_ stab_ (inlA_ok (by kernel_rfl) hΓ_ stab_ in_nil 3) (C := ⟨r4_Find.J30, [], 0⟩) (allL_of (l := []) (by kernel_rfl) allL_nil) (by decide) (by decide) r4_Find.L9.dσ_ok r4_Find.L9.dτ_ok (fun _ => rfl) (fun k x => (r4_Find.L9.step K f9 f55 (r4_Find.L9 K f9 f55 k) x.1 x.2.1 x.2.2.1 x.2.2.2.1 x.2.2.2.2.1 x.2.2.2.2.2.1 x.2.2.2.2.2.2.1 x.2.2.2.2.2.2.2.1 x.2.2.2.2.2.2.2.2.1 x.2.2.2.2.2.2.2.2.2.1 x.2.2.2.2.2.2.2.2.2.2).symm) Kr
def r4_Find.L6.T : TS := ⟨[.junk, .ptr 0 0, .ptr 1 0, .bool, .seq 23, .int .i64, .int .i64, .junk, .junk, .junk, .junk, .junk, .junk, .junk, .junk, .junk, .junk, .junk, .junk, .junk, .junk, .junk, .junk, .junk, .junk, .junk, .junk, .junk, .junk, .junk, .junk, .junk, .junk, .junk, .junk, .junk, .junk, .junk, .junk, .junk, .junk, .junk, .junk, .junk, .junk, .junk, .junk, .junk, .junk], [.cells 25 [.int .i64, .int .i64] .own, .cells 23 [.int .i64, .int .i64, .int .i64, .int .i64] .own], 0, [(1, none), (2, none)]⟩
def r4_Find.L6.X0 : TS := ⟨[.junk, .ptr 0 0, .ptr 1 0, .bool, .seq 23, .int .i64, .int .i64, .junk, .junk, .junk, .junk, .junk, .junk, .junk, .junk, .junk, .junk, .junk, .junk, .junk, .junk, .junk, .junk, .junk, .junk, .junk, .junk, .junk, .junk, .junk, .junk, .junk, .junk, .junk, .junk, .junk, .junk, .junk, .junk, .junk, .junk, .junk, .junk, .junk, .junk, .junk, .junk, .junk, .junk], [.cells 25 [.int .i64, .int .i64] .own, .cells 23 [.int .i64, .int .i64, .int .i64, .int .i64] .own], 0, [(1, none), (2, none)]⟩
def r4_Find.L6.X1 : TS := ⟨[.junk, .junk, .ptr 0 0, .bool, .junk, .junk, .junk, .junk, .junk, .junk, .junk, .junk, .junk, .junk, .junk, .junk, .junk, .junk, .junk, .junk, .junk, .junk, .junk, .junk, .junk, .junk, .junk, .junk, .junk, .junk, .junk, .junk, .junk, .junk, .junk, .junk, .junk, .junk, .junk, .junk, .junk, .junk, .junk, .junk, .junk, .junk, .junk, .junk, .junk], [.cells 23 [.int .i64, .int .i64, .int .i64, .int .i64] .own], 0, [(2, none)]⟩
def r4_Find.L6.X : List (Exit × TS) := [(.exit 2, r4_Find.L6.X0), (.ret, r4_Find.L6.X1)]
def r4_Find.L6.dσ : List D → Option (Bool × List (List D) × Int × Int × Int × Int × Int × Int × Int × Int)
  | [.bool x0, .seq x1, .int x2, .int x3, .int x4, .int x5, .int x6, .int x7, .int x8, .int x9] => some (x0, x1, x2, x3, x4, x5, x6, x7, x8, x9)
  | _ => none
def r4_Find.L6.eσ (x : Bool × List (List D) × Int × Int × Int × Int × Int × Int × Int × Int) : List D := [.bool x.1, .seq x.2.1, .int x.2.2.1, .int x.2.2.2.1, .int x.2.2.2.2.1, .int x.2.2.2.2.2.1, .int x.2.2.2.2.2.2.1, .int x.2.2.2.2.2.2.2.1, .int x.2.2.2.2.2.2.2.2.1, .int x.2.2.2.2.2.2.2.2.2]
def r4_Find.L6.dτ : Nat → List D → Option ((Bool × List (List D) × Int × Int × Int × Int × Int × Int × Int × Int) ⊕ (Bool × Int × Int × Int × Int))
  | 0, [.bool y0, .seq y1, .int y2, .int y3, .int y4, .int y5, .int y6, .int y7, .int y8, .int y9] => some (.inl (y0, y1, y2, y3, y4, y5, y6, y7, y8, y9))
  | 1, [.bool y0, .int y1, .int y2, .int y3, .int y4] => some (.inr (y0, y1, y2, y3, y4))
  | _, _ => none
def r4_Find.L6.eτ : (Bool × List (List D) × Int × Int × Int × Int × Int × Int × Int × Int) ⊕ (Bool × Int × Int × Int × Int) → Nat × List D
  | (.inl t) => (0, [.bool t.1, .seq t.2.1, .int t.2.2.1, .int t.2.2.2.1, .int t.2.2.2.2.1, .int t.2.2.2.2.2.1, .int t.2.2.2.2.2.2.1, .int t.2.2.2.2.2.2.2.1, .int t.2.2.2.2.2.2.2.2.1, .int t.2.2.2.2.2.2.2.2.2])
  | (.inr t) => (1, [.bool t.1, .int t.2.1, .int t.2.2.1, .int t.2.2.2.1, .int t.2.2.2.2])
def r4_Find.L6.sel (β : Type) (t : (Bool × List (List D) × Int × Int × Int × Int × Int × Int × Int × Int) ⊕ (Bool × Int × Int × Int × Int)) (k : Exit → Fr → Hp → Option β) : Option β := match t with
  | (.inl r) => k (.exit 2) (bldS r4_Find.L6.X0 [.bool r.1, .seq r.2.1, .int r.2.2.1, .int r.2.2.2.1, .int r.2.2.2.2.1, .int r.2.2.2.2.2.1, .int r.2.2.2.2.2.2.1, .int r.2.2.2.2.2.2.2.1, .int r.2.2.2.2.2.2.2.2.1, .int r.2.2.2.2.2.2.2.2.2]).1 (bldS r4_Find.L6.X0 [.bool r.1, .seq r.2.1, .int r.2.2.1, .int r.2.2.2.1, .int r.2.2.2.2.1, .int r.2.2.2.2.2.1, .int r.2.2.2.2.2.2.1, .int r.2.2.2.2.2.2.2.1, .int r.2.2.2.2.2.2.2.2.1, .int r.2.2.2.2.2.2.2.2.2]).2
  | (.inr r) => k (.ret) (bldS r4_Find.L6.X1 [.bool r.1, .int r.2.1, .int r.2.2.1, .int r.2.2.2.1, .int r.2.2.2.2]).1 (bldS r4_Find.L6.X1 [.bool r.1, .int r.2.1, .int r.2.2.1, .int r.2.2.2.1, .int r.2.2.2.2]).2
theorem r4_Find.L6.sel_ok (β : Type) (t : (Bool × List (List D) × Int × Int × Int × Int × Int × Int × Int × Int) ⊕ (Bool × Int × Int × Int × Int)) (k : Exit → Fr → Hp → Option β) : r4_Find.L6.sel β t k = k (endA r4_Find.L6.X r4_Find.L6.eτ t).1 (endA r4_Find.L6.X r4_Find.L6.eτ t).2.1 (endA r4_Find.L6.X r4_Find.L6.eτ t).2.2 := by rcases t with t | t <;> rfl
theorem r4_Find.L6.dσ_ok (d : List D) (x : Bool × List (List D) × Int × Int × Int × Int × Int × Int × Int × Int) (h : r4_Find.L6.dσ d = some x) : r4_Find.L6.eσ x = d := by
  unfold r4_Find.L6.dσ at h
  split at h <;> first | (cases h; rfl) | cases h
theorem r4_Find.L6.dτ_ok (i : Nat) (d : List D) (t : (Bool × List (List D) × Int × Int × Int × Int × Int × Int × Int × Int) ⊕ (Bool × Int × Int × Int × Int)) (h : r4_Find.L6.dτ i d = some t) : r4_Find.L6.eτ t = (i, d) := by
  unfold r4_Find.L6.dτ at h
  split at h <;> first | (cases h; rfl) | cases h
def r4_Find.L6.S (K : Nat) (f9 : Int → Int → Int → Int → Option (Int × Int × Int)) (f55 : Option (List (List D))) (rec : (Bool × List (List D) × Int × Int × Int × Int × Int × Int × Int × Int) → Option ((Bool × List (List D) × Int × Int × Int × Int × Int × Int × Int × Int) ⊕ (Bool × Int × Int × Int × Int))) (x0 : Bool) (x1 : List (List D)) (x2 : Int) (x3 : Int) (x4 : Int) (x5 : Int) (x6 : Int) (x7 : Int) (x8 : Int) (x9 : Int) : Option ((Bool × List (List D) × Int × Int × Int × Int × Int × Int × Int × Int) ⊕ (Bool × Int × Int × Int × Int)) :=
  bif decide (x3 ≤ (6 : Int)) then (r4_Find.L9 K f9 f55 K (x0, x1, x2, x3, (0 : Int), x4, x5, x6, x7, x8, x9)).bind fun v1 => Sum.elim (fun v2 => rec (v2.fst, v2.snd.fst, v2.snd.snd.fst, IntKind.i64.wrap (v2.snd.snd.snd.fst + (1 : Int)), v2.snd.snd.snd.snd.snd.fst, v2.snd.snd.snd.snd.snd.snd.fst, v2.snd.snd.snd.snd.snd.snd.snd.fst, v2.snd.snd.snd.snd.snd.snd.snd.snd.fst, v2.snd.snd.snd.snd.snd.snd.snd.snd.snd.fst, v2.snd.snd.snd.snd.snd.snd.snd.snd.snd.snd)) (fun v3 => some (Sum.inr (v3.fst, v3.snd.fst, v3.snd.snd.fst, v3.snd.snd.snd.fst, v3.snd.snd.snd.snd))) v1 else some (Sum.inl (x0, x1, x2, x3, x4, x5, x6, x7, x8, x9))
set_option maxRecDepth 100000 in
theorem r4_Find.L6.step (K : Nat) (f9 : Int → Int → Int → Int → Option (Int × Int × Int)) (f55 : Option (List (List D))) (rec : (Bool × List (List D) × Int × Int × Int × Int × Int × Int × Int × Int) → Option ((Bool × List (List D) × Int × Int × Int × Int × Int × Int × Int × Int) ⊕ (Bool × Int × Int × Int × Int))) (x0 : Bool) (x1 : List (List D)) (x2 : Int) (x3 : Int) (x4 : Int) (x5 : Int) (x6 : Int) (x7 : Int) (x8 : Int) (x9 : Int) : execA Tryz.prog lay (r4_Find.Γ f9 f55) [] (inlA Tryz.prog lay (r4_Find.Γ f9 f55) [] 3) ⟨r4_Find.J30, [(9, 0, sumA r4_Find.L9.T r4_Find.L9.X r4_Find.L9.dσ r4_Find.L9.eτ r4_Find.L9.sel r4_Find.L9.sel_ok (r4_Find.L9 K f9 f55 K))], 0⟩ 0 (loopAt Tryz.f30 1) (bldS r4_Find.L6.T (r4_Find.L6.eσ (x0, x1, x2, x3, x4, x5, x6, x7, x8, x9))).1 (bldS r4_Find.L6.T (r4_Find.L6.eσ (x0, x1, x2, x3, x4, x5, x6, x7, x8, x9))).2 (contA r4_Find.L6.T r4_Find.L6.X r4_Find.L6.dσ r4_Find.L6.dτ rec) = r4_Find.L6.S K f9 f55 rec x0 x1 x2 x3 x4 x5 x6 x7 x8 x9 := by kernel_rfl
def r4_Find.L6 (K : Nat) (f9 : Int → Int → Int → Int → Option (Int × Int × Int)) (f55 : Option (List (List D))) : Nat → (Bool × List (List D) × Int × Int × Int × Int × Int × Int × Int × Int) → Option ((Bool × List (List D) × Int × Int × Int × Int × Int × Int × Int × Int) ⊕ (Bool × Int × Int × Int × Int))
  | 0, _ => none
  | k + 1, x => r4_Find.L6.S K f9 f55 (r4_Find.L6 K f9 f55 k) x.1 x.2.1 x.2.2.1 x.2.2.2.1 x.2.2.2.2.1 x.2.2.2.2.2.1 x.2.2.2.2.2.2.1 x.2.2.2.2.2.2.2.1 x.2.2.2.2.2.2.2.2.1 x.2.2.2.2.2.2.2.2.2
theorem r4_Find.L6.ok (K : Nat) (f9 : Int → Int → Int → Int → Option (Int × Int × Int)) (f55 : Option (List (List D))) {B : Nat} {wB : World} (stab_ : ∀ w', Bel B wB w' → GW w') (hΓ_ : AllOk Tryz.prog GW lay (r4_Find.Γ f9 f55)) (Kr : Nat) : LSOk Tryz.prog lay B wB [] 0 (sumA r4_Find.L6.T r4_Find.L6.X r4_Find.L6.dσ r4_Find.L6.eτ r4_Find.L6.sel r4_Find.L6.sel_ok (r4_Find.L6 K f9 f55 Kr)) (loopAt Tryz.f30 1) :=
  loop_mk (by kernel_rfl) hΓ_ stab_ (inlA_ok (by kernel_rfl) hΓ_ stab_ in_nil 3) (C := ⟨r4_Find.J30, [(9, 0, sumA r4_Find.L9.T r4_Find.L9.X r4_Find.L9.dσ r4_Find.L9.eτ r4_Find.L9.sel r4_Find.L9.sel_ok (r4_Find.L9 K f9 f55 K))], 0⟩) (allL_of (l := [loopAt Tryz.f30 2]) (by kernel_rfl) (allL_cons (by kernel_rfl) (r4_Find.L9.ok K f9 f55 stab_ hΓ_ K) allL_nil)) (by decide) (by decide) r4_Find.L6.dσ_ok r4_Find.L6.dτ_ok (fun _ => rfl) (fun k x => (r4_Find.L6.step K f9 f55 (r4_Find.L6 K f9 f55 k) x.1 x.2.1 x.2.2.1 x.2.2.2.1 x.2.2.2.2.1 x.2.2.2.2.2.1 x.2.2.2.2.2.2.1 x.2.2.2.2.2.2.2.1 x.2.2.2.2.2.2.2.2.1 x.2.2.2.2.2.2.2.2.2).symm) Kr
def r4_Find.L3.T : TS := ⟨[.junk, .ptr 0 0, .ptr 1 0, .bool, .seq 23, .int .i64, .junk, .junk, .junk, .junk, .junk, .junk, .junk, .junk, .junk, .junk, .junk, .junk, .junk, .junk, .junk, .junk, .junk, .junk, .junk, .junk, .junk, .junk, .junk, .junk, .junk, .junk, .junk, .junk, .junk, .junk, .junk, .junk, .junk, .junk, .junk, .junk, .junk, .junk, .junk, .junk, .junk, .junk, .junk], [.cells 25 [.int .i64, .int .i64] .own, .cells 23 [.int .i64, .int .i64, .int .i64, .int .i64] .own], 0, [(1, none), (2, none)]⟩
def r4_Find.L3.X0 : TS := ⟨[.junk, .junk, .ptr 0 0, .bool, .junk, .junk, .junk, .junk, .junk, .junk, .junk, .junk, .junk, .junk, .junk, .junk, .junk, .junk, .junk, .junk, .junk, .junk, .junk, .junk, .junk, .junk, .junk, .junk, .junk, .junk, .junk, .junk, .junk, .junk, .junk, .junk, .junk, .junk, .junk, .junk, .junk, .junk, .junk, .junk, .junk, .junk, .junk, .junk, .junk], [.cells 23 [.int .i64, .int .i64, .int .i64, .int .i64] .own], 0, [(2, none)]⟩
def r4_Find.L3.X1 : TS := ⟨[.junk, .junk, .ptr 0 0, .bool, .junk, .junk, .junk, .junk, .junk, .junk, .junk, .junk, .junk, .junk, .junk, .junk, .junk, .junk, .junk, .junk, .junk, .junk, .junk, .junk, .junk, .junk, .junk, .junk, .junk, .junk, .junk, .junk, .junk, .junk, .junk, .junk, .junk, .junk, .junk, .junk, .junk, .junk, .junk, .junk, .junk, .junk, .junk, .junk, .junk], [.cells 23 [.int .i64, .int .i64, .int .i64, .int .i64] .own], 0, [(2, none)]⟩
def r4_Find.L3.X : List (Exit × TS) := [(.exit 0, r4_Find.L3.X0), (.ret, r4_Find.L3.X1)]
def r4_Find.L3.dσ : List D → Option (Bool × List (List D) × Int × Int × Int × Int × Int × Int × Int)
  | [.bool x0, .seq x1, .int x2, .int x3, .int x4, .int x5, .int x6, .int x7, .int x8] => some (x0, x1, x2, x3, x4, x5, x6, x7, x8)
  | _ => none
def r4_Find.L3.eσ (x : Bool × List (List D) × Int × Int × Int × Int × Int × Int × Int) : List D := [.bool x.1, .seq x.2.1, .int x.2.2.1, .int x.2.2.2.1, .int x.2.2.2.2.1, .int x.2.2.2.2.2.1, .int x.2.2.2.2.2.2.1, .int x.2.2.2.2.2.2.2.1, .int x.2.2.2.2.2.2.2.2]
def r4_Find.L3.dτ : Nat → List D → Option ((Bool × Int × Int × Int × Int) ⊕ (Bool × Int × Int × Int × Int))
  | 0, [.bool y0, .int y1, .int y2, .int y3, .int y4] => some (.inl (y0, y1, y2, y3, y4))
  | 1, [.bool y0, .int y1, .int y2, .int y3, .int y4] => some (.inr (y0, y1, y2, y3, y4))
  | _, _ => none
def r4_Find.L3.eτ : (Bool × Int × Int × Int × Int) ⊕ (Bool × Int × Int × Int × Int) → Nat × List D
  | (.inl t) => (0, [.bool t.1, .int t.2.1, .int t.2.2.1, .int t.2.2.2.1, .int t.2.2.2.2])
  | (.inr t) => (1, [.bool t.1, .int t.2.1, .int t.2.2.1, .int t.2.2.2.1, .int t.2.2.2.2])
def r4_Find.L3.sel (β : Type) (t : (Bool × Int × Int × Int × Int) ⊕ (Bool × Int × Int × Int × Int)) (k : Exit → Fr → Hp → Option β) : Option β := match t with
  | (.inl r) => k (.exit 0) (bldS r4_Find.L3.X0 [.bool r.1, .int r.2.1, .int r.2.2.1, .int r.2.2.2.1, .int r.2.2.2.2]).1 (bldS r4_Find.L3.X0 [.bool r.1, .int r.2.1, .int r.2.2.1, .int r.2.2.2.1, .int r.2.2.2.2]).2
  | (.inr r) => k (.ret) (bldS r4_Find.L3.X1 [.bool r.1, .int r.2.1, .int r.2.2.1, .int r.2.2.2.1, .int r.2.2.2.2]).1 (bldS r4_Find.L3.X1 [.bool r.1, .int r.2.1, .int r.2.2.1, .int r.2.2.2.1, .int r.2.2.2.2]).2
theorem r4_Find.L3.sel_ok (β : Type) (t : (Bool × Int × Int × Int × Int) ⊕ (Bool × Int × Int × Int × Int)) (k : Exit → Fr → Hp → Option β) : r4_Find.L3.sel β t k = k (endA r4_Find.L3.X r4_Find.L3.eτ t).1 (endA r4_Find.L3.X r4_Find.L3.eτ t).2.1 (endA r4_Find.L3.X r4_Find.L3.eτ t).2.2 := by rcases t with t | t <;> rfl
theorem r4_Find.L3.dσ_ok (d : List D) (x : Bool × List (List D) × Int × Int × Int × Int × Int × Int × Int) (h : r4_Find.L3.dσ d = some x) : r4_Find.L3.eσ x = d := by
  unfold r4_Find.L3.dσ at h
  split at h <;> first | (cases h; rfl) | cases h
theorem r4_Find.L3.dτ_ok (i : Nat) (d : List D) (t : (Bool × Int × Int × Int × Int) ⊕ (Bool × Int × Int × Int × Int)) (h : r4_Find.L3.dτ i d = some t) : r4_Find.L3.eτ t = (i, d) := by
  unfold r4_Find.L3.dτ at h
  split at h <;> first | (cases h; rfl) | cases h
def r4_Find.L3.S (K : Nat) (f9 : Int → Int → Int → Int → Option (Int × Int × Int)) (f55 : Option (List (List D))) (rec : (Bool × List (List D) × Int × Int × Int × Int × Int × Int × Int) → Option ((Bool × Int × Int × Int × Int) ⊕ (Bool × Int × Int × Int × Int))) (x0 : Bool) (x1 : List (List D)) (x2 : Int) (x3 : Int) (x4 : Int) (x5 : Int) (x6 : Int) (x7 : Int) (x8 : Int) : Option ((Bool × Int × Int × Int × Int) ⊕ (Bool × Int × Int × Int × Int)) :=
  bif decide (x2 < (↑x1.length : Int)) then (r4_Find.L6 K f9 f55 K (x0, x1, x2, (0 : Int), x3, x4, x5, x6, x7, x8)).bind fun v1 => Sum.elim (fun v2 => rec (v2.fst, v2.snd.fst, IntKind.i64.wrap (v2.snd.snd.fst + (1 : Int)), v2.snd.snd.snd.snd.fst, v2.snd.snd.snd.snd.snd.fst, v2.snd.snd.snd.snd.snd.snd.fst, v2.snd.snd.snd.snd.snd.snd.snd.fst, v2.snd.snd.snd.snd.snd.snd.snd.snd.fst, v2.snd.snd.snd.snd.snd.snd.snd.snd.snd)) (fun v3 => some (Sum.inr (v3.fst, v3.snd.fst, v3.snd.snd.fst, v3.snd.snd.snd.fst, v3.snd.snd.snd.snd))) v1 else some (Sum.inl (x0, x5, x6, x7, x8))
set_option maxRecDepth 100000 in
theorem r4_Find.L3.step (K : Nat) (f9 : Int → Int → Int → Int → Option (Int × Int × Int)) (f55 : Option (List (List D))) (rec : (Bool × List (List D) × Int × Int × Int × Int × Int × Int × Int) → Option ((Bool × Int × Int × Int × Int) ⊕ (Bool × Int × Int × Int × Int))) (x0 : Bool) (x1 : List (List D)) (x2 : Int) (x3 : Int) (x4 : Int) (x5 : Int) (x6 : Int) (x7 : Int) (x8 : Int) : execA Tryz.prog lay (r4_Find.Γ f9 f55) [] (inlA Tryz.prog lay (r4_Find.Γ f9 f55) [] 3) ⟨r4_Find.J30, [(6, 0, sumA r4_Find.L6.T r4_Find.L6.X r4_Find.L6.dσ r4_Find.L6.eτ r4_Find.L6.sel r4_Find.L6.sel_ok (r4_Find.L6 K f9 f55 K)), (9, 0, sumA r4_Find.L9.T r4_Find.L9.X r4_Find.L9.dσ r4_Find.L9.eτ r4_Find.L9.sel r4_Find.L9.sel_ok (r4_Find.L9 K f9 f55 K))], 0⟩ 0 (loopAt Tryz.f30 0) (bldS r4_Find.L3.T (r4_Find.L3.eσ (x0, x1, x2, x3, x4, x5, x6, x7, x8))).1 (bldS r4_Find.L3.T (r4_Find.L3.eσ (x0, x1, x2, x3, x4, x5, x6, x7, x8))).2 (contA r4_Find.L3.T r4_Find.L3.X r4_Find.L3.dσ r4_Find.L3.dτ rec) = r4_Find.L3.S K f9 f55 rec x0 x1 x2 x3 x4 x5 x6 x7 x8 := by kernel_rfl
def r4_Find.L3 (K : Nat) (f9 : Int → Int → Int → Int → Option (Int × Int × Int)) (f55 : Option (List (List D))) : Nat → (Bool × List (List D) × Int × Int × Int × Int × Int × Int × Int) → Option ((Bool × Int × Int × Int × Int) ⊕ (Bool × Int × Int × Int × Int))
  | 0, _ => none
  | k + 1, x => r4_Find.L3.S K f9 f55 (r4_Find.L3 K f9 f55 k) x.1 x.2.1 x.2.2.1 x.2.2.2.1 x.2.2.2.2.1 x.2.2.2.2.2.1 x.2.2.2.2.2.2.1 x.2.2.2.2.2.2.2.1 x.2.2.2.2.2.2.2.2
theorem r4_Find.L3.ok (K : Nat) (f9 : Int → Int → Int → Int → Option (Int × Int × Int)) (f55 : Option (List (List D))) {B : Nat} {wB : World} (stab_ : ∀ w', Bel B wB w' → GW w') (hΓ_ : AllOk Tryz.prog GW lay (r4_Find.Γ f9 f55)) (Kr : Nat) : LSOk Tryz.prog lay B wB [] 0 (sumA r4_Find.L3.T r4_Find.L3.X r4_Find.L3.dσ r4_Find.L3.eτ r4_Find.L3.sel r4_Find.L3.sel_ok (r4_Find.L3 K f9 f55 Kr)) (loopAt Tryz.f30 0) :=
  loop_mk (by kernel_rfl) hΓ_ stab_ (inlA_ok (by kernel_rfl) hΓ_ stab_ in_nil 3) (C := ⟨r4_Find.J30, [(6, 0, sumA r4_Find.L6.T r4_Find.L6.X r4_Find.L6.dσ r4_Find.L6.eτ r4_Find.L6.sel r4_Find.L6.sel_ok (r4_Find.L6 K f9 f55 K)), (9, 0, sumA r4_Find.L9.T r4_Find.L9.X r4_Find.L9.dσ r4_Find.L9.eτ r4_Find.L9.sel r4_Find.L9.sel_ok (r4_Find.L9 K f9 f55 K))], 0⟩) (allL_of (l := [loopAt Tryz.f30 1, loopAt Tryz.f30 2]) (by kernel_rfl) (allL_cons (by kernel_rfl) (r4_Find.L6.ok K f9 f55 stab_ hΓ_ K) (allL_cons (by kernel_rfl) (r4_Find.L9.ok K f9 f55 stab_ hΓ_ K) allL_nil))) (by decide) (by decide) r4_Find.L3.dσ_ok r4_Find.L3.dτ_ok (fun _ => rfl) (fun k x => (r4_Find.L3.step K f9 f55 (r4_Find.L3 K f9 f55 k) x.1 x.2.1 x.2.2.1 x.2.2.2.1 x.2.2.2.2.1 x.2.2.2.2.2.1 x.2.2.2.2.2.2.1 x.2.2.2.2.2.2.2.1 x.2.2.2.2.2.2.2.2).symm) Kr
def r4_Find.t (K : Nat) (f9 : Int → Int → Int → Int → Option (Int × Int × Int)) (f55 : Option (List (List D))) (a0 : Int) (a1 : Int) : Option (Int × Int × Int × Int × Bool) :=
  f55.bind fun v1 => (r4_Find.L3 K f9 f55 K (false, v1, (0 : Int), a0, a1, (0 : Int), (0 : Int), (0 : Int), (0 : Int))).bind fun v2 => Sum.elim (fun v3 => some ((0 : Int), (0 : Int), (0 : Int), (0 : Int), false)) (fun v4 => some (v4.snd.fst, v4.snd.snd.fst, v4.snd.snd.snd.fst, v4.snd.snd.snd.snd, v4.fst)) v2
set_option maxRecDepth 100000 in
theorem r4_Find.run (K : Nat) (f9 : Int → Int → Int → Int → Option (Int × Int × Int)) (f55 : Option (List (List D))) (a0 : Int) (a1 : Int) : runA Tryz.prog lay (r4_Find.Γ f9 f55) [] [] 3 ⟨r4_Find.J30, [(3, 0, sumA r4_Find.L3.T r4_Find.L3.X r4_Find.L3.dσ r4_Find.L3.eτ r4_Find.L3.sel r4_Find.L3.sel_ok (r4_Find.L3 K f9 f55 K)), (6, 0, sumA r4_Find.L6.T r4_Find.L6.X r4_Find.L6.dσ r4_Find.L6.eτ r4_Find.L6.sel r4_Find.L6.sel_ok (r4_Find.L6 K f9 f55 K)), (9, 0, sumA r4_Find.L9.T r4_Find.L9.X r4_Find.L9.dσ r4_Find.L9.eτ r4_Find.L9.sel r4_Find.L9.sel_ok (r4_Find.L9 K f9 f55 K))], 0⟩ Tryz.f30 [.agg [.int .i64 a0, .int .i64 a1]] [] [.agg [.int .i64, .int .i64, .int .i64, .int .i64], .one (.bool)] r4_Find.dec = r4_Find.t K f9 f55 a0 a1 := by kernel_rfl
def r4_Find.f (k : Nat) (a0 : Int) (a1 : Int) : Option (Int × Int × Int × Int × Bool) := r4_Find.t k (r4_Length.f k) (r4_kinds.f k) a0 a1
theorem r4_Find.allOk (k : Nat) : AllOk Tryz.prog GW lay (r4_Find.Γ (r4_Length.f k) (r4_kinds.f k)) := (allOk_cons (r4_Length.ok k) (allOk_cons (r4_kinds.ok k) allOk_nil))
theorem r4_Find.ok (k : Nat) : CEOk Tryz.prog GW lay 30 (r4_Find.ce (r4_Find.f k)) := by
  have hΓ_ := r4_Find.allOk k
  exact tells_mk (by kernel_rfl) hΓ_ Tryz.func30 (fun args w => by kernel_rfl) (fun w w' h hb => h.step hb) no_globals (fun B wB stab_ => in_nil) (C := ⟨r4_Find.J30, [(3, 0, sumA r4_Find.L3.T r4_Find.L3.X r4_Find.L3.dσ r4_Find.L3.eτ r4_Find.L3.sel r4_Find.L3.sel_ok (r4_Find.L3 k (r4_Length.f k) (r4_kinds.f k) k)), (6, 0, sumA r4_Find.L6.T r4_Find.L6.X r4_Find.L6.dσ r4_Find.L6.eτ r4_Find.L6.sel r4_Find.L6.sel_ok (r4_Find.L6 k (r4_Length.f k) (r4_kinds.f k) k)), (9, 0, sumA r4_Find.L9.T r4_Find.L9.X r4_Find.L9.dσ r4_Find.L9.eτ r4_Find.L9.sel r4_Find.L9.sel_ok (r4_Find.L9 k (r4_Length.f k) (r4_kinds.f k) k))], 0⟩) (fun B wB stab_ => bodyL (allL_of (l := [loopAt Tryz.f30 0, loopAt Tryz.f30 1, loopAt Tryz.f30 2]) (by kernel_rfl) (allL_cons (by kernel_rfl) (r4_Find.L3.ok k (r4_Length.f k) (r4_kinds.f k) stab_ hΓ_ k) (allL_cons (by kernel_rfl) (r4_Find.L6.ok k (r4_Length.f k) (r4_kinds.f k) stab_ hΓ_ k) (allL_cons (by kernel_rfl) (r4_Find.L9.ok k (r4_Length.f k) (r4_kinds.f k) stab_ hΓ_ k) allL_nil))))) (fun args τ x out sel ok r hs hx => by
    unfold r4_Find.tells at hs
    split at hs
    · rename_i a0 a1
      cases hs
      unfold r4_Find.f at hx
      have hr_ := r4_Find.run k (r4_Length.f k) (r4_kinds.f k) a0 a1
      rw [hx] at hr_
      exact ⟨rfl, r4_Find.out_free _, 3, [.agg [.int .i64, .int .i64, .int .i64, .int .i64], .one (.bool)], r4_Find.dec, hr_, fun res h => r4_Find.dec_ok res _ h⟩
    · cases hs)
/-! ### partita/partitaref04.Split: function 31 -/
def r4_Split.out (r : List (List D) × Int) : Res := .ret (.tup [.seq 23 r.1, .int .i64 r.2])
def r4_Split.dec : Res → Option (List (List D) × Int)
  | .ret (.tup [.seq 23 y0, .int .i64 y1]) => some (y0, y1)
  | _ => none
theorem r4_Split.out_free (r : List (List D) × Int) : (r4_Split.out r).free = true := rfl
def r4_Split.sel (β : Type) (r : List (List D) × Int) (k : Res → Option β) : Option β := k (.ret (.tup [.seq 23 r.1, .int .i64 r.2]))
theorem r4_Split.sel_ok (β : Type) (t : List (List D) × Int) (k : Res → Option β) : r4_Split.sel β t k = k (r4_Split.out t) := rfl
theorem r4_Split.dec_ok (res : Res) (r : List (List D) × Int) (h : r4_Split.dec res = some r) : res = r4_Split.out r := by
  unfold r4_Split.dec at h
  split at h <;> first | (cases h; rfl) | cases h
def r4_Split.tells (f : Int → Int → Option (List (List D) × Int)) : Tells
  | [.agg [.int .i64 a0, .int .i64 a1]] => some (.mk (List (List D) × Int) (f a0 a1) r4_Split.out r4_Split.sel r4_Split.sel_ok)
  | _ => none
def r4_Split.ce (f : Int → Int → Option (List (List D) × Int)) : CE := ⟨[.agg [.int .i64, .int .i64]], .froz, r4_Split.tells f⟩
def r4_Split.Γ (f55 : Option (List (List D))) (f56 : Int → Int → Option (Bool)) (f57 : Int → Int → Int → Int → Option (Int)) (f58 : Int → Int → Int → Int → Int → Int → Option (Int)) (f59 : Int → Option (Int × Int × Int × Int × Int)) : List (Nat × CE) := [(55, r4_kinds.ce f55), (56, r1_Right.ce f56), (57, r1_Compare.ce f57), (58, r4_units.ce f58), (59, r4_longest.ce f59)]
def r4_Split.J31 : List (Nat × List Nat) := [(1, [10, 11, 12, 13, 14, 15, 16, 17, 18, 19, 20, 21, 22]), (3, [24]), (5, [25, 26, 27]), (6, [29, 30]), (7, [31, 32, 33, 34, 35, 36]), (8, [37]), (10, [39]), (11, [41, 42, 43, 44, 45]), (12, [46, 47, 48, 49, 50, 51]), (13, [52, 53, 54, 55, 56, 57]), (14, [58, 59, 60, 61]), (15, [62, 63, 64]), (16, [65]), (1000023, [23]), (1000028, [28]), (1000038, [38]), (1000040, [40])]
def r4_Split.L10.T : TS := ⟨[.junk, .ptr 0 0, .nil, .int .i64, .seq 23, .int .i64, .int .i64, .rs 1 0, .junk, .junk, .junk, .junk, .junk, .junk, .junk, .junk, .junk, .junk, .junk, .junk, .junk, .junk, .junk, .junk, .junk, .junk, .junk, .junk, .junk, .junk, .junk, .junk, .junk, .junk, .junk, .junk, .junk, .junk, .junk, .junk, .junk, .junk, .junk, .junk, .junk, .junk, .junk, .junk, .junk, .junk, .junk, .junk, .junk, .junk, .junk, .junk, .junk, .junk, .junk, .junk, .junk, .junk, .junk, .junk, .junk, .junk], [.cells 25 [.int .i64, .int .i64] .own, .row 23 true 0], 0, [(1, none), (7, none)]⟩
def r4_Split.L10.X0 : TS := ⟨[.junk, .ptr 0 0, .nil, .int .i64, .seq 23, .int .i64, .int .i64, .rs 1 0, .junk, .junk, .junk, .junk, .junk, .junk, .junk, .junk, .junk, .junk, .junk, .junk, .junk, .junk, .junk, .junk, .junk, .junk, .junk, .junk, .junk, .junk, .junk, .junk, .junk, .junk, .junk, .junk, .junk, .junk, .junk, .junk, .junk, .junk, .junk, .junk, .junk, .junk, .junk, .junk, .junk, .junk, .junk, .junk, .junk, .junk, .junk, .junk, .junk, .junk, .junk, .junk, .junk, .junk, .junk, .junk, .junk, .junk], [.cells 25 [.int .i64, .int .i64] .own, .row 23 true 0], 0, [(1, none), (7, none)]⟩
def r4_Split.L10.X : List (Exit × TS) := [(.exit 2, r4_Split.L10.X0)]
def r4_Split.L10.dσ : List D → Option (Int × List (List D) × Int × Int × Int × Int × List (List D))
  | [.int x0, .seq x1, .int x2, .int x3, .int x4, .int x5, .seq x6] => some (x0, x1, x2, x3, x4, x5, x6)
  | _ => none
def r4_Split.L10.eσ (x : Int × List (List D) × Int × Int × Int × Int × List (List D)) : List D := [.int x.1, .seq x.2.1, .int x.2.2.1, .int x.2.2.2.1, .int x.2.2.2.2.1, .int x.2.2.2.2.2.1, .seq x.2.2.2.2.2.2]
def r4_Split.L10.dτ : Nat → List D → Option (Int × List (List D) × Int × Int × Int × Int × List (List D))
  | 0, [.int y0, .seq y1, .int y2, .int y3, .int y4, .int y5, .seq y6] => some (y0, y1, y2, y3, y4, y5, y6)
  | _, _ => none
def r4_Split.L10.eτ (t : Int × List (List D) × Int × Int × Int × Int × List (List D)) : Nat × List D := (0, [.int t.1, .seq t.2.1, .int t.2.2.1, .int t.2.2.2.1, .int t.2.2.2.2.1, .int t.2.2.2.2.2.1, .seq t.2.2.2.2.2.2])
def r4_Split.L10.sel (β : Type) (t : Int × List (List D) × Int × Int × Int × Int × List (List D)) (k : Exit → Fr → Hp → Option β) : Option β := k (.exit 2) (bldS r4_Split.L10.X0 [.int t.1, .seq t.2.1, .int t.2.2.1, .int t.2.2.2.1, .int t.2.2.2.2.1, .int t.2.2.2.2.2.1, .seq t.2.2.2.2.2.2]).1 (bldS r4_Split.L10.X0 [.int t.1, .seq t.2.1, .int t.2.2.1, .int t.2.2.2.1, .int t.2.2.2.2.1, .int t.2.2.2.2.2.1, .seq t.2.2.2.2.2.2]).2
theorem r4_Split.L10.sel_ok (β : Type) (t : Int × List (List D) × Int × Int × Int × Int × List (List D)) (k : Exit → Fr → Hp → Option β) : r4_Split.L10.sel β t k = k (endA r4_Split.L10.X r4_Split.L10.eτ t).1 (endA r4_Split.L10.X r4_Split.L10.eτ t).2.1 (endA r4_Split.L10.X r4_Split.L10.eτ t).2.2 := by rfl
theorem r4_Split.L10.dσ_ok (d : List D) (x : Int × List (List D) × Int × Int × Int × Int × List (List D)) (h : r4_Split.L10.dσ d = some x) : r4_Split.L10.eσ x = d := by
  unfold r4_Split.L10.dσ at h
  split at h <;> first | (cases h; rfl) | cases h
theorem r4_Split.L10.dτ_ok (i : Nat) (d : List D) (t : Int × List (List D) × Int × Int × Int × Int × List (List D)) (h : r4_Split.L10.dτ i d = some t) : r4_Split.L10.eτ t = (i, d) := by
  unfold r4_Split.L10.dτ at h
  split at h <;> first | (cases h; rfl) | cases h
def r4_Split.L10.S (K : Nat) (f55 : Option (List (List D))) (f56 : Int → Int → Option (Bool)) (f57 : Int → Int → Int → Int → Option (Int)) (f58 : Int → Int → Int → Int → Int → Int → Option (Int)) (f59 : Int → Option (Int × Int × Int × Int × Int)) (rec : (Int × List (List D) × Int × Int × Int × Int × List (List D)) → Option (Int × List (List D) × Int × Int × Int × Int × List (List D))) (x0 : Int) (x1 : List (List D)) (x2 : Int) (x3 : Int) (x4 : Int) (x5 : Int) (x6 : List (List D)) : Option (Int × List (List D) × Int × Int × Int × Int × List (List D)) :=
  bif decide (x3 > (0 : Int)) then (f59 x3).bind fun v1 => if (0 : Int) ≤ x2 ∧ x2 < (↑x1.length : Int) then if (0 : Int) ≤ x2 ∧ x2 < (↑x1.length : Int) then if x6.length + (1 : Nat) ≤ (1073741824 : Nat) then rec (x0, x1, x2, IntKind.i64.wrap (x3 - v1.snd.snd.snd.snd), x4, x5, x6 ++ [[D.int v1.fst, D.int v1.snd.fst, D.int (D.at x1 x2.toNat (2 : Nat)).toInt, D.int (D.at x1 x2.toNat (3 : Nat)).toInt]]) else none else none else none else some (x0, x1, x2, x3, x4, x5, x6)
set_option maxRecDepth 100000 in
theorem r4_Split.L10.step (K : Nat) (f55 : Option (List (List D))) (f56 : Int → Int → Option (Bool)) (f57 : Int → Int → Int → Int → Option (Int)) (f58 : Int → Int → Int → Int → Int → Int → Option (Int)) (f59 : Int → Option (Int × Int × Int × Int × Int)) (rec : (Int × List (List D) × Int × Int × Int × Int × List (List D)) → Option (Int × List (List D) × Int × Int × Int × Int × List (List D))) (x0 : Int) (x1 : List (List D)) (x2 : Int) (x3 : Int) (x4 : Int) (x5 : Int) (x6 : List (List D)) : execA Tryz.prog lay (r4_Split.Γ f55 f56 f57 f58 f59) [] (inlA Tryz.prog lay (r4_Split.Γ f55 f56 f57 f58 f59) [] 3) ⟨r4_Split.J31, [], 0⟩ 0 (loopAt Tryz.f31 1) (bldS r4_Split.L10.T (r4_Split.L10.eσ (x0, x1, x2, x3, x4, x5, x6))).1 (bldS r4_Split.L10.T (r4_Split.L10.eσ (x0, x1, x2, x3, x4, x5, x6))).2 (contA r4_Split.L10.T r4_Split.L10.X r4_Split.L10.dσ r4_Split.L10.dτ rec) = r4_Split.L10.S K f55 f56 f57 f58 f59 rec x0 x1 x2 x3 x4 x5 x6 := by kernel_rfl
def r4_Split.L10 (K : Nat) (f55 : Option (List (List D))) (f56 : Int → Int → Option (Bool)) (f57 : Int → Int → Int → Int → Option (Int)) (f58 : Int → Int → Int → Int → Int → Int → Option (Int)) (f59 : Int → Option (Int × Int × Int × Int × Int)) : Nat → (Int × List (List D) × Int × Int × Int × Int × List (List D)) → Option (Int × List (List D) × Int × Int × Int × Int × List (List D))
  | 0, _ => none
  | k + 1, x => r4_Split.L10.S K f55 f56 f57 f58 f59 (r4_Split.L10 K f55 f56 f57 f58 f59 k) x.1 x.2.1 x.2.2.1 x.2.2.2.1 x.2.2.2.2.1 x.2.2.2.2.2.1 x.2.2.2.2.2.2
theorem r4_Split.L10.ok (K : Nat) (f55 : Option (List (List D))) (f56 : Int → Int → Option (Bool)) (f57 : Int → Int → Int → Int → Option (Int)) (f58 : Int → Int → Int → Int → Int → Int → Option (Int)) (f59 : Int → Option (Int × Int × Int × Int × Int)) {B : Nat} {wB : World} (stab_ : ∀ w', Bel B wB w' → GW w') (hΓ_ : AllOk Tryz.prog GW lay (r4_Split.Γ f55 f56 f57 f58 f59)) (Kr : Nat) : LSOk Tryz.prog lay B wB [] 0 (sumA r4_Split.L10.T r4_Split.L10.X r4_Split.L10.dσ r4_Split.L10.eτ r4_Split.L10.sel r4_Split.L10.sel_ok (r4_Split.L10 K f55 f56 f57 f58 f59 Kr)) (loopAt Tryz.f31 1) :=
  loop_mk (by kernel_rfl) hΓ_ stab_ (inlA_ok (by kernel_rfl) hΓ_ stab_ in_nil 3) (C := ⟨r4_Split.J31, [], 0⟩) (allL_of (l := []) (by kernel_rfl) allL_nil) (by decide) (by decide) r4_Split.L10.dσ_ok r4_Split.L10.dτ_ok (fun _ => rfl) (fun k x => (r4_Split.L10.step K f55 f56 f57 f58 f59 (r4_Split.L10 K f55 f56 f57 f58 f59 k) x.1 x.2.1 x.2.2.1 x.2.2.2.1 x.2.2.2.2.1 x.2.2.2.2.2.1 x.2.2.2.2.2.2).symm) Kr
def r4_Split.L5.T : TS := ⟨[.junk, .ptr 0 0, .nil, .int .i64, .seq 23, .int .i64, .junk, .junk, .junk, .junk, .junk, .junk, .junk, .junk, .junk, .junk, .junk, .junk, .junk, .junk, .junk, .junk, .junk, .junk, .junk, .junk, .junk, .junk, .junk, .junk, .junk, .junk, .junk, .junk, .junk, .junk, .junk, .junk, .junk, .junk, .junk, .junk, .junk, .junk, .junk, .junk, .junk, .junk, .junk, .junk, .junk, .junk, .junk, .junk, .junk, .junk, .junk, .junk, .junk, .junk, .junk, .junk, .junk, .junk, .junk, .junk], [.cells 25 [.int .i64, .int .i64] .own], 0, [(1, none)]⟩
def r4_Split.L5.X0 : TS := ⟨[.junk, .junk, .nil, .int .i64, .junk, .junk, .junk, .junk, .junk, .junk, .junk, .junk, .junk, .junk, .junk, .junk, .junk, .junk, .junk, .junk, .junk, .junk, .junk, .junk, .junk, .junk, .junk, .junk, .junk, .junk, .junk, .junk, .junk, .junk, .junk, .junk, .junk, .junk, .junk, .junk, .junk, .junk, .junk, .junk, .junk, .junk, .junk, .junk, .junk, .junk, .junk, .junk, .junk, .junk, .junk, .junk, .junk, .junk, .junk, .junk, .junk, .junk, .junk, .junk, .junk, .junk], [], 0, []⟩
def r4_Split.L5.X1 : TS := ⟨[.junk, .junk, .rs 0 0, .int .i64, .junk, .junk, .junk, .junk, .junk, .junk, .junk, .junk, .junk, .junk, .junk, .junk, .junk, .junk, .junk, .junk, .junk, .junk, .junk, .junk, .junk, .junk, .junk, .junk, .junk, .junk, .junk, .junk, .junk, .junk, .junk, .junk, .junk, .junk, .junk, .junk, .junk, .junk, .junk, .junk, .junk, .junk, .junk, .junk, .junk, .junk, .junk, .junk, .junk, .junk, .junk, .junk, .junk, .junk, .junk, .junk, .junk, .junk, .junk, .junk, .junk, .junk], [.row 23 true 0], 0, [(2, none)]⟩
def r4_Split.L5.X : List (Exit × TS) := [(.exit 0, r4_Split.L5.X0), (.ret, r4_Split.L5.X1)]
def r4_Split.L5.dσ : List D → Option (Int × List (List D) × Int × Int × Int)
  | [.int x0, .seq x1, .int x2, .int x3, .int x4] => some (x0, x1, x2, x3, x4)
  | _ => none
def r4_Split.L5.eσ (x : Int × List (List D) × Int × Int × Int) : List D := [.int x.1, .seq x.2.1, .int x.2.2.1, .int x.2.2.2.1, .int x.2.2.2.2]
def r4_Split.L5.dτ : Nat → List D → Option ((Int) ⊕ (Int × List (List D)))
  | 0, [.int y0] => some (.inl y0)
  | 1, [.int y0, .seq y1] => some (.inr (y0, y1))
  | _, _ => none
def r4_Split.L5.eτ : (Int) ⊕ (Int × List (List D)) → Nat × List D
  | (.inl t) => (0, [.int t])
  | (.inr t) => (1, [.int t.1, .seq t.2])
def r4_Split.L5.sel (β : Type) (t : (Int) ⊕ (Int × List (List D))) (k : Exit → Fr → Hp → Option β) : Option β := match t with
  | (.inl r) => k (.exit 0) (bldS r4_Split.L5.X0 [.int r]).1 (bldS r4_Split.L5.X0 [.int r]).2
  | (.inr r) => k (.ret) (bldS r4_Split.L5.X1 [.int r.1, .seq r.2]).1 (bldS r4_Split.L5.X1 [.int r.1, .seq r.2]).2
theorem r4_Split.L5.sel_ok (β : Type) (t : (Int) ⊕ (Int × List (List D))) (k : Exit → Fr → Hp → Option β) : r4_Split.L5.sel β t k = k (endA r4_Split.L5.X r4_Split.L5.eτ t).1 (endA r4_Split.L5.X r4_Split.L5.eτ t).2.1 (endA r4_Split.L5.X r4_Split.L5.eτ t).2.2 := by rcases t with t | t <;> rfl
theorem r4_Split.L5.dσ_ok (d : List D) (x : Int × List (List D) × Int × Int × Int) (h : r4_Split.L5.dσ d = some x) : r4_Split.L5.eσ x = d := by
  unfold r4_Split.L5.dσ at h
  split at h <;> first | (cases h; rfl) | cases h
theorem r4_Split.L5.dτ_ok (i : Nat) (d : List D) (t : (Int) ⊕ (Int × List (List D))) (h : r4_Split.L5.dτ i d = some t) : r4_Split.L5.eτ t = (i, d) := by
  unfold r4_Split.L5.dτ at h
  split at h <;> first | (cases h; rfl) | cases h
def r4_Split.L5.S (K : Nat) (f55 : Option (List (List D))) (f56 : Int → Int → Option (Bool)) (f57 : Int → Int → Int → Int → Option (Int)) (f58 : Int → Int → Int → Int → Int → Int → Option (Int)) (f59 : Int → Option (Int × Int × Int × Int × Int)) (rec : (Int × List (List D) × Int × Int × Int) → Option ((Int) ⊕ (Int × List (List D)))) (x0 : Int) (x1 : List (List D)) (x2 : Int) (x3 : Int) (x4 : Int) : Option ((Int) ⊕ (Int × List (List D))) :=
  bif decide (x2 < (↑x1.length : Int)) then if (0 : Int) ≤ x2 ∧ x2 < (↑x1.length : Int) then (f58 x3 x4 (D.at x1 x2.toNat (0 : Nat)).toInt (D.at x1 x2.toNat (1 : Nat)).toInt (D.at x1 x2.toNat (2 : Nat)).toInt (D.at x1 x2.toNat (3 : Nat)).toInt).bind fun v1 => bif v1 == (0 : Int) then rec (x0, x1, IntKind.i64.wrap (x2 + (1 : Int)), x3, x4) else (r4_Split.L10 K f55 f56 f57 f58 f59 K (x0, x1, x2, v1, x3, x4, [])).bind fun v2 => some (Sum.inr ((0 : Int), v2.snd.snd.snd.snd.snd.snd)) else none else some (Sum.inl x0)
set_option maxRecDepth 100000 in
theorem r4_Split.L5.step (K : Nat) (f55 : Option (List (List D))) (f56 : Int → Int → Option (Bool)) (f57 : Int → Int → Int → Int → Option (Int)) (f58 : Int → Int → Int → Int → Int → Int → Option (Int)) (f59 : Int → Option (Int × Int × Int × Int × Int)) (rec : (Int × List (List D) × Int × Int × Int) → Option ((Int) ⊕ (Int × List (List D)))) (x0 : Int) (x1 : List (List D)) (x2 : Int) (x3 : Int) (x4 : Int) : execA Tryz.prog lay (r4_Split.Γ f55 f56 f57 f58 f59) [] (inlA Tryz.prog lay (r4_Split.Γ f55 f56 f57 f58 f59) [] 3) ⟨r4_Split.J31, [(10, 0, sumA r4_Split.L10.T r4_Split.L10.X r4_Split.L10.dσ r4_Split.L10.eτ r4_Split.L10.sel r4_Split.L10.sel_ok (r4_Split.L10 K f55 f56 f57 f58 f59 K))], 0⟩ 0 (loopAt Tryz.f31 0) (bldS r4_Split.L5.T (r4_Split.L5.eσ (x0, x1, x2, x3, x4))).1 (bldS r4_Split.L5.T (r4_Split.L5.eσ (x0, x1, x2, x3, x4))).2 (contA r4_Split.L5.T r4_Split.L5.X r4_Split.L5.dσ r4_Split.L5.dτ rec) = r4_Split.L5.S K f55 f56 f57 f58 f59 rec x0 x1 x2 x3 x4 := by kernel_rfl
def r4_Split.L5 (K : Nat) (f55 : Option (List (List D))) (f56 : Int → Int → Option (Bool)) (f57 : Int → Int → Int → Int → Option (Int)) (f58 : Int → Int → Int → Int → Int → Int → Option (Int)) (f59 : Int → Option (Int × Int × Int × Int × Int)) : Nat → (Int × List (List D) × Int × Int × Int) → Option ((Int) ⊕ (Int × List (List D)))
  | 0, _ => none
  | k + 1, x => r4_Split.L5.S K f55 f56 f57 f58 f59 (r4_Split.L5 K f55 f56 f57 f58 f59 k) x.1 x.2.1 x.2.2.1 x.2.2.2.1 x.2.2.2.2
theorem r4_Split.L5.ok (K : Nat) (f55 : Option (List (List D))) (f56 : Int → Int → Option (Bool)) (f57 : Int → Int → Int → Int → Option (Int)) (f58 : Int → Int → Int → Int → Int → Int → Option (Int)) (f59 : Int → Option (Int × Int × Int × Int × Int)) {B : Nat} {wB : World} (stab_ : ∀ w', Bel B wB w' → GW w') (hΓ_ : AllOk Tryz.prog GW lay (r4_Split.Γ f55 f56 f57 f58 f59)) (Kr : Nat) : LSOk Tryz.prog lay B wB [] 0 (sumA r4_Split.L5.T r4_Split.L5.X r4_Split.L5.dσ r4_Split.L5.eτ r4_Split.L5.sel r4_Split.L5.sel_ok (r4_Split.L5 K f55 f56 f57 f58 f59 Kr)) (loopAt Tryz.f31 0) :=
  loop_mk (by kernel_rfl) hΓ_ stab_ (inlA_ok (by kernel_rfl) hΓ_ stab_ in_nil 3) (C := ⟨r4_Split.J31, [(10, 0, sumA r4_Split.L10.T r4_Split.L10.X r4_Split.L10.dσ r4_Split.L10.eτ r4_Split.L10.sel r4_Split.L10.sel_ok (r4_Split.L10 K f55 f56 f57 f58 f59 K))], 0⟩) (allL_of (l := [loopAt Tryz.f31 1]) (by kernel_rfl) (allL_cons (by kernel_rfl) (r4_Split.L10.ok K f55 f56 f57 f58 f59 stab_ hΓ_ K) allL_nil)) (by decide) (by decide) r4_Split.L5.dσ_ok r4_Split.L5.dτ_ok (fun _ => rfl) (fun k x => (r4_Split.L5.step K f55 f56 f57 f58 f59 (r4_Split.L5 K f55 f56 f57 f58 f59 k) x.1 x.2.1 x.2.2.1 x.2.2.2.1 x.2.2.2.2).symm) Kr
def r4_Split.t (K : Nat) (f55 : Option (List (List D))) (f56 : Int → Int → Option (Bool)) (f57 : Int → Int → Int → Int → Option (Int)) (f58 : Int → Int → Int → Int → Int → Int → Option (Int)) (f59 : Int → Option (Int × Int × Int × Int × Int)) (a0 : Int) (a1 : Int) : Option (List (List D) × Int) :=
  (f56 a0 a1).bind fun v1 => bif !v1 then some ([], (41 : Int)) else bif decide (a0 ≤ (0 : Int)) then some ([], (41 : Int)) else (f57 a0 a1 (64 : Int) (1 : Int)).bind fun v2 => bif decide (v2 > (0 : Int)) then some ([], (41 : Int)) else f55.bind fun v3 => (r4_Split.L5 K f55 f56 f57 f58 f59 K ((0 : Int), v3, (0 : Int), a0, a1)).bind fun v4 => Sum.elim (fun v5 => some ([], (41 : Int))) (fun v6 => some (v6.snd, v6.fst)) v4
set_option maxRecDepth 100000 in
theorem r4_Split.run (K : Nat) (f55 : Option (List (List D))) (f56 : Int → Int → Option (Bool)) (f57 : Int → Int → Int → Int → Option (Int)) (f58 : Int → Int → Int → Int → Int → Int → Option (Int)) (f59 : Int → Option (Int × Int × Int × Int × Int)) (a0 : Int) (a1 : Int) : runA Tryz.prog lay (r4_Split.Γ f55 f56 f57 f58 f59) [] [] 3 ⟨r4_Split.J31, [(5, 0, sumA r4_Split.L5.T r4_Split.L5.X r4_Split.L5.dσ r4_Split.L5.eτ r4_Split.L5.sel r4_Split.L5.sel_ok (r4_Split.L5 K f55 f56 f57 f58 f59 K)), (10, 0, sumA r4_Split.L10.T r4_Split.L10.X r4_Split.L10.dσ r4_Split.L10.eτ r4_Split.L10.sel r4_Split.L10.sel_ok (r4_Split.L10 K f55 f56 f57 f58 f59 K))], 0⟩ Tryz.f31 [.agg [.int .i64 a0, .int .i64 a1]] [] [.one (.seq 23), .one (.int .i64)] r4_Split.dec = r4_Split.t K f55 f56 f57 f58 f59 a0 a1 := by kernel_rfl
def r4_Split.f (k : Nat) (a0 : Int) (a1 : Int) : Option (List (List D) × Int) := r4_Split.t k (r4_kinds.f k) (r1_Right.f k) (r1_Compare.f k) (r4_units.f k) (r4_longest.f k) a0 a1
theorem r4_Split.allOk (k : Nat) : AllOk Tryz.prog GW lay (r4_Split.Γ (r4_kinds.f k) (r1_Right.f k) (r1_Compare.f k) (r4_units.f k) (r4_longest.f k)) := (allOk_cons (r4_kinds.ok k) (allOk_cons (r1_Right.ok k) (allOk_cons (r1_Compare.ok k) (allOk_cons (r4_units.ok k) (allOk_cons (r4_longest.ok k) allOk_nil)))))
theorem r4_Split.ok (k : Nat) : CEOk Tryz.prog GW lay 31 (r4_Split.ce (r4_Split.f k)) := by
  have hΓ_ := r4_Split.allOk k
  exact tells_mk (by kernel_rfl) hΓ_ Tryz.func31 (fun args w => by kernel_rfl) (fun w w' h hb => h.step hb) no_globals (fun B wB stab_ => in_nil) (C := ⟨r4_Split.J31, [(5, 0, sumA r4_Split.L5.T r4_Split.L5.X r4_Split.L5.dσ r4_Split.L5.eτ r4_Split.L5.sel r4_Split.L5.sel_ok (r4_Split.L5 k (r4_kinds.f k) (r1_Right.f k) (r1_Compare.f k) (r4_units.f k) (r4_longest.f k) k)), (10, 0, sumA r4_Split.L10.T r4_Split.L10.X r4_Split.L10.dσ r4_Split.L10.eτ r4_Split.L10.sel r4_Split.L10.sel_ok (r4_Split.L10 k (r4_kinds.f k) (r1_Right.f k) (r1_Compare.f k) (r4_units.f k) (r4_longest.f k) k))], 0⟩) (fun B wB stab_ => bodyL (allL_of (l := [loopAt Tryz.f31 0, loopAt Tryz.f31 1]) (by kernel_rfl) (allL_cons (by kernel_rfl) (r4_Split.L5.ok k (r4_kinds.f k) (r1_Right.f k) (r1_Compare.f k) (r4_units.f k) (r4_longest.f k) stab_ hΓ_ k) (allL_cons (by kernel_rfl) (r4_Split.L10.ok k (r4_kinds.f k) (r1_Right.f k) (r1_Compare.f k) (r4_units.f k) (r4_longest.f k) stab_ hΓ_ k) allL_nil)))) (fun args τ x out sel ok r hs hx => by
    unfold r4_Split.tells at hs
    split at hs
    · rename_i a0 a1
      cases hs
      unfold r4_Split.f at hx
      have hr_ := r4_Split.run k (r4_kinds.f k) (r1_Right.f k) (r1_Compare.f k) (r4_units.f k) (r4_longest.f k) a0 a1
      rw [hx] at hr_
      exact ⟨rfl, r4_Split.out_free _, 3, [.one (.seq 23), .one (.int .i64)], r4_Split.dec, hr_, fun res h => r4_Split.dec_ok res _ h⟩
    · cases hs)

end Go.Proofs.YtajbnfidcpfonaaGreatDoor.M
