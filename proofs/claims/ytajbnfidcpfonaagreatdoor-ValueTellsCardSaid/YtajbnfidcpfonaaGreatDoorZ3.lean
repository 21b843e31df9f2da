/- Go functions as the machine tells them. -/
import Derived.Test.YtajbnfidcpfonaaGreatDoorProg
import Derived.Test.YtajbnfidcpfonaaGreatDoorQ10
import Derived.Test.YtajbnfidcpfonaaGreatDoorM0
import Derived.Test.YtajbnfidcpfonaaGreatDoorLay
import Derived.Test.YtajbnfidcpfonaaGreatDoorGSeq
import Derived.Test.YtajbnfidcpfonaaGreatDoorM23
import Derived.Test.YtajbnfidcpfonaaGreatDoorM9
import Derived.Test.YtajbnfidcpfonaaGreatDoorZ1
set_option linter.unusedVariables false
set_option linter.unusedSimpArgs false
set_option maxRecDepth 100000
namespace Go.Proofs.YtajbnfidcpfonaaGreatDoor.M
open Go Go.RowKit Go.Proofs Go.Proofs.Qx Go.Proofs.YtajbnfidcpfonaaGreatDoorW.PrintWords Go.Proofs.YtajbnfidcpfonaaGreatDoorW.PrintLast Go.Proofs.YtajbnfidcpfonaaGreatDoorW.PrintMore

/-! ### partita/partitalaw04.Value: function 7 -/
def z_Value.out (r : Int × Int × Int × Int) : Res := .ret (.agg [.int .i64 r.1, .int .i64 r.2.1, .int .i64 r.2.2.1, .int .i64 r.2.2.2])
def z_Value.dec : Res → Option (Int × Int × Int × Int)
  | .ret (.agg [.int .i64 y0, .int .i64 y1, .int .i64 y2, .int .i64 y3]) => some (y0, y1, y2, y3)
  | _ => none
theorem z_Value.out_free (r : Int × Int × Int × Int) : (z_Value.out r).free = true := rfl
def z_Value.sel (β : Type) (r : Int × Int × Int × Int) (k : Res → Option β) : Option β := k (.ret (.agg [.int .i64 r.1, .int .i64 r.2.1, .int .i64 r.2.2.1, .int .i64 r.2.2.2]))
theorem z_Value.sel_ok (β : Type) (t : Int × Int × Int × Int) (k : Res → Option β) : z_Value.sel β t k = k (z_Value.out t) := rfl
theorem z_Value.dec_ok (res : Res) (r : Int × Int × Int × Int) (h : z_Value.dec res = some r) : res = z_Value.out r := by
  unfold z_Value.dec at h
  split at h <;> first | (cases h; rfl) | cases h
def z_Value.tells (f : Int → Int → Int → Int → Option (Int × Int × Int × Int)) : Tells
  | [.agg [.int .i64 a0, .int .i64 a1, .int .i64 a2, .int .i64 a3]] => some (.mk (Int × Int × Int × Int) (f a0 a1 a2 a3) z_Value.out z_Value.sel z_Value.sel_ok)
  | _ => none
def z_Value.ce (f : Int → Int → Int → Int → Option (Int × Int × Int × Int)) : CE := ⟨[.agg [.int .i64, .int .i64, .int .i64, .int .i64]], .flat, z_Value.tells f⟩
def partitalaw04_pick_Z3.out (r : Int) : Res := .ret (.int .i64 r)
def partitalaw04_pick_Z3.dec : Res → Option (Int)
  | .ret (.int .i64 y0) => some y0
  | _ => none
theorem partitalaw04_pick_Z3.out_free (r : Int) : (partitalaw04_pick_Z3.out r).free = true := rfl
def partitalaw04_pick_Z3.sel (β : Type) (r : Int) (k : Res → Option β) : Option β := k (.ret (.int .i64 r))
theorem partitalaw04_pick_Z3.sel_ok (β : Type) (t : Int) (k : Res → Option β) : partitalaw04_pick_Z3.sel β t k = k (partitalaw04_pick_Z3.out t) := rfl
theorem partitalaw04_pick_Z3.dec_ok (res : Res) (r : Int) (h : partitalaw04_pick_Z3.dec res = some r) : res = partitalaw04_pick_Z3.out r := by
  unfold partitalaw04_pick_Z3.dec at h
  split at h <;> first | (cases h; rfl) | cases h
def partitalaw04_pick_Z3.tells (f : Int → Int → Option (Int)) : Tells
  | [.int .i64 a0, .int .i64 a1] => some (.mk (Int) (f a0 a1) partitalaw04_pick_Z3.out partitalaw04_pick_Z3.sel partitalaw04_pick_Z3.sel_ok)
  | _ => none
def partitalaw04_pick_Z3.ce (f : Int → Int → Option (Int)) : CE := ⟨[.one (.int .i64), .one (.int .i64)], .flat, partitalaw04_pick_Z3.tells f⟩
theorem partitalaw04_pick_Z3.ok (k : Nat) : CEOk Tryz.prog GW lay 16 (partitalaw04_pick_Z3.ce (partitalaw04_pick.f)) :=
  tells_simple (fun args w => by kernel_rfl) fun args τ x out sel ok r hs hx => by
    unfold partitalaw04_pick_Z3.tells at hs
    split at hs
    · cases hs
      exact ⟨rfl, _, rfl, rfl, fun w hw => (partitalaw04_pick.calls _ _ r w hx).mono fun e w' q => ⟨q.1, q.2.below⟩⟩
    · cases hs
def z_Value.Γ (f16 : Int → Int → Option (Int)) : List (Nat × CE) := [(16, partitalaw04_pick_Z3.ce f16)]
def z_Value.J7 : List (Nat × List Nat) := [(1, [4, 5, 6, 7, 8, 9, 10]), (2, [11, 12, 13]), (3, [15, 16, 17, 18, 19]), (4, [20, 21, 22, 23, 24]), (5, [25, 26, 27, 28]), (6, [30, 31, 32, 33]), (7, [34]), (1000014, [14]), (1000029, [29])]
def z_Value.t (K : Nat) (f16 : Int → Int → Option (Int)) (a0 : Int) (a1 : Int) (a2 : Int) (a3 : Int) : Option (Int × Int × Int × Int) :=
  (f16 a0 (7 : Int)).bind fun v1 => (f16 a1 (3 : Int)).bind fun v2 => (f16 a2 (4 : Int)).bind fun v3 => bif decide (v3 > (0 : Int)) then (f16 a2 (14 : Int)).bind fun v4 => (f16 a3 (15 : Int)).bind fun v5 => bif IntKind.i64.wrap ((2 : Int) + v4) == IntKind.i64.wrap ((1 : Int) + v5) then some (v1, v2, IntKind.i64.wrap ((2 : Int) + v4), IntKind.i64.wrap (IntKind.i64.wrap ((2 : Int) + v4) - (1 : Int))) else some (v1, v2, IntKind.i64.wrap ((2 : Int) + v4), IntKind.i64.wrap ((1 : Int) + v5)) else some (v1, v2, (0 : Int), (0 : Int))
set_option maxRecDepth 100000 in
theorem z_Value.run (K : Nat) (f16 : Int → Int → Option (Int)) (a0 : Int) (a1 : Int) (a2 : Int) (a3 : Int) : runA Tryz.prog lay (z_Value.Γ f16) [] [] 3 ⟨z_Value.J7, [], 0⟩ Tryz.f7 [.agg [.int .i64 a0, .int .i64 a1, .int .i64 a2, .int .i64 a3]] [] [.agg [.int .i64, .int .i64, .int .i64, .int .i64]] z_Value.dec = z_Value.t K f16 a0 a1 a2 a3 := by kernel_rfl
def z_Value.f (k : Nat) (a0 : Int) (a1 : Int) (a2 : Int) (a3 : Int) : Option (Int × Int × Int × Int) := z_Value.t k (partitalaw04_pick.f) a0 a1 a2 a3
theorem z_Value.allOk (k : Nat) : AllOk Tryz.prog GW lay (z_Value.Γ (partitalaw04_pick.f)) := (allOk_cons (partitalaw04_pick_Z3.ok k) allOk_nil)
theorem z_Value.ok (k : Nat) : CEOk Tryz.prog GW lay 7 (z_Value.ce (z_Value.f k)) := by
  have hΓ_ := z_Value.allOk k
  exact tells_mk (by kernel_rfl) hΓ_ Tryz.func7 (fun args w => by kernel_rfl) (fun w w' h hb => h.step hb) no_globals (fun B wB stab_ => in_nil) (C := ⟨z_Value.J7, [], 0⟩) (fun B wB stab_ => bodyL (allL_of (l := []) (by kernel_rfl) allL_nil)) (fun args τ x out sel ok r hs hx => by
    unfold z_Value.tells at hs
    split at hs
    · rename_i a0 a1 a2 a3
      cases hs
      unfold z_Value.f at hx
      have hr_ := z_Value.run k (partitalaw04_pick.f) a0 a1 a2 a3
      rw [hx] at hr_
      exact ⟨rfl, z_Value.out_free _, 3, [.agg [.int .i64, .int .i64, .int .i64, .int .i64]], z_Value.dec, hr_, fun res h => z_Value.dec_ok res _ h⟩
    · cases hs)
/-! ### partita/partitalaw04.split: function 14 -/
def z_split.out (r : Bool) : Res := .ret (.bool r)
def z_split.dec : Res → Option (Bool)
  | .ret (.bool y0) => some y0
  | _ => none
theorem z_split.out_free (r : Bool) : (z_split.out r).free = true := rfl
def z_split.sel (β : Type) (r : Bool) (k : Res → Option β) : Option β := k (.ret (.bool r))
theorem z_split.sel_ok (β : Type) (t : Bool) (k : Res → Option β) : z_split.sel β t k = k (z_split.out t) := rfl
theorem z_split.dec_ok (res : Res) (r : Bool) (h : z_split.dec res = some r) : res = z_split.out r := by
  unfold z_split.dec at h
  split at h <;> first | (cases h; rfl) | cases h
def z_split.tells (f : Int → Int → Option (Bool)) : Tells
  | [.agg [.int .i64 a0, .int .i64 a1]] => some (.mk (Bool) (f a0 a1) z_split.out z_split.sel z_split.sel_ok)
  | _ => none
def z_split.ce (f : Int → Int → Option (Bool)) : CE := ⟨[.agg [.int .i64, .int .i64]], .flat, z_split.tells f⟩
def value_Find_Z3.out (r : Int × Int × Int × Int × Bool) : Res := .ret (.tup [.agg [.int .i64 r.1, .int .i64 r.2.1, .int .i64 r.2.2.1, .int .i64 r.2.2.2.1], .bool r.2.2.2.2])
def value_Find_Z3.dec : Res → Option (Int × Int × Int × Int × Bool)
  | .ret (.tup [.agg [.int .i64 y0, .int .i64 y1, .int .i64 y2, .int .i64 y3], .bool y4]) => some (y0, y1, y2, y3, y4)
  | _ => none
theorem value_Find_Z3.out_free (r : Int × Int × Int × Int × Bool) : (value_Find_Z3.out r).free = true := rfl
def value_Find_Z3.sel (β : Type) (r : Int × Int × Int × Int × Bool) (k : Res → Option β) : Option β := k (.ret (.tup [.agg [.int .i64 r.1, .int .i64 r.2.1, .int .i64 r.2.2.1, .int .i64 r.2.2.2.1], .bool r.2.2.2.2]))
theorem value_Find_Z3.sel_ok (β : Type) (t : Int × Int × Int × Int × Bool) (k : Res → Option β) : value_Find_Z3.sel β t k = k (value_Find_Z3.out t) := rfl
theorem value_Find_Z3.dec_ok (res : Res) (r : Int × Int × Int × Int × Bool) (h : value_Find_Z3.dec res = some r) : res = value_Find_Z3.out r := by
  unfold value_Find_Z3.dec at h
  split at h <;> first | (cases h; rfl) | cases h
def value_Find_Z3.tells (f : Int → Int → Option (Int × Int × Int × Int × Bool)) : Tells
  | [.agg [.int .i64 a0, .int .i64 a1]] => some (.mk (Int × Int × Int × Int × Bool) (f a0 a1) value_Find_Z3.out value_Find_Z3.sel value_Find_Z3.sel_ok)
  | _ => none
def value_Find_Z3.ce (f : Int → Int → Option (Int × Int × Int × Int × Bool)) : CE := ⟨[.agg [.int .i64, .int .i64]], .flat, value_Find_Z3.tells f⟩
theorem value_Find_Z3.ok (k : Nat) : CEOk Tryz.prog GW lay 17 (value_Find_Z3.ce (value_Find.f k)) :=
  tells_simple (fun args w => by kernel_rfl) fun args τ x out sel ok r hs hx => by
    unfold value_Find_Z3.tells at hs
    split at hs
    · cases hs
      exact ⟨rfl, _, rfl, rfl, fun w hw => value_Find.calls k _ _ r.1 r.2.1 r.2.2.1 r.2.2.2.1 r.2.2.2.2 w hw hx⟩
    · cases hs
def value_Split_Z3.out (r : List (List D) × Int) : Res := .ret (.tup [.seq 23 r.1, .int .i64 r.2])
def value_Split_Z3.dec : Res → Option (List (List D) × Int)
  | .ret (.tup [.seq 23 y0, .int .i64 y1]) => some (y0, y1)
  | _ => none
theorem value_Split_Z3.out_free (r : List (List D) × Int) : (value_Split_Z3.out r).free = true := rfl
def value_Split_Z3.sel (β : Type) (r : List (List D) × Int) (k : Res → Option β) : Option β := k (.ret (.tup [.seq 23 r.1, .int .i64 r.2]))
theorem value_Split_Z3.sel_ok (β : Type) (t : List (List D) × Int) (k : Res → Option β) : value_Split_Z3.sel β t k = k (value_Split_Z3.out t) := rfl
theorem value_Split_Z3.dec_ok (res : Res) (r : List (List D) × Int) (h : value_Split_Z3.dec res = some r) : res = value_Split_Z3.out r := by
  unfold value_Split_Z3.dec at h
  split at h <;> first | (cases h; rfl) | cases h
def value_Split_Z3.tells (f : Int → Int → Option (List (List D) × Int)) : Tells
  | [.agg [.int .i64 a0, .int .i64 a1]] => some (.mk (List (List D) × Int) (f a0 a1) value_Split_Z3.out value_Split_Z3.sel value_Split_Z3.sel_ok)
  | _ => none
def value_Split_Z3.ce (f : Int → Int → Option (List (List D) × Int)) : CE := ⟨[.agg [.int .i64, .int .i64]], .froz, value_Split_Z3.tells f⟩
theorem value_Split_Z3.ok (k : Nat) : CEOk Tryz.prog GW lay 18 (value_Split_Z3.ce (fun a0 a1 => (value_Split.f k a0 a1).map fun r => (r.1.map row23, r.2))) := tells_of (fun args w => by kernel_rfl) fun args τ x out sel ok r hs hx => by
  unfold value_Split_Z3.tells at hs
  split at hs
  · rename_i a0 a1
    cases hs
    obtain ⟨⟨xs, e⟩, h1, rfl⟩ := Option.map_eq_some_iff.1 hx
    refine ⟨rfl, _, rfl, fun w hw => (value_Split.calls k _ _ _ _ w hw h1).mono ?_⟩
    rintro en w' ⟨v, rfl, hr, hb⟩
    refine ⟨_, rfl, hb, fun imm himm => ?_⟩
    obtain ⟨imm', ha, hv⟩ := seq_back hb hr imm himm
    exact ⟨imm', ha, fun G hG => by
      have := hv G hG
      simp only [AV.is, AV.isL] at this ⊢
      exact ⟨_, rfl, _, _, rfl, this, _, _, rfl, rfl, rfl⟩⟩
  · cases hs
def z_split.Γ (f17 : Int → Int → Option (Int × Int × Int × Int × Bool)) (f18 : Int → Int → Option (List (List D) × Int)) (f30 : Int → Int → Option (Int × Int × Int × Int × Bool)) (f31 : Int → Int → Option (List (List D) × Int)) : List (Nat × CE) := [(17, value_Find_Z3.ce f17), (18, value_Split_Z3.ce f18), (30, r4_Find.ce f30), (31, r4_Split.ce f31)]
def z_split.J14 : List (Nat × List Nat) := [(1, [12, 13, 14, 15, 16]), (2, [17, 18, 19, 20, 21]), (3, [22, 23, 24, 25, 26]), (4, [27, 28, 29, 30, 31]), (5, [32, 33, 34, 35, 36, 37, 38, 39, 40, 41, 42, 43, 44, 45, 46, 47, 48, 49, 50]), (8, [52, 53, 54]), (9, [56, 57]), (10, [58, 59, 60, 61, 62, 63, 64, 65]), (1000051, [51]), (1000055, [55]), (1000066, [66])]
def z_split.L8.T : TS := ⟨[.junk, .junk, .bool, .junk, .junk, .junk, .junk, .seq 23, .junk, .seq 23, .junk, .int .i64, .junk, .junk, .junk, .junk, .junk, .junk, .junk, .junk, .junk, .junk, .junk, .junk, .junk, .junk, .junk, .junk, .junk, .junk, .junk, .junk, .junk, .junk, .junk, .junk, .junk, .junk, .junk, .junk, .junk, .junk, .junk, .junk, .junk, .junk, .junk, .junk, .junk, .junk, .junk, .junk, .junk, .junk, .junk, .junk, .junk, .junk, .junk, .junk, .junk, .junk, .junk, .junk, .junk, .junk, .junk], [], 0, []⟩
def z_split.L8.X0 : TS := ⟨[.junk, .junk, .bool, .junk, .junk, .junk, .junk, .junk, .junk, .junk, .junk, .junk, .junk, .junk, .junk, .junk, .junk, .junk, .junk, .junk, .junk, .junk, .junk, .junk, .junk, .junk, .junk, .junk, .junk, .junk, .junk, .junk, .junk, .junk, .junk, .junk, .junk, .junk, .junk, .junk, .junk, .junk, .junk, .junk, .junk, .junk, .junk, .junk, .junk, .junk, .junk, .junk, .junk, .junk, .junk, .junk, .junk, .junk, .junk, .junk, .junk, .junk, .junk, .junk, .junk, .junk, .junk], [], 0, []⟩
def z_split.L8.X1 : TS := ⟨[.junk, .junk, .bool, .junk, .junk, .junk, .junk, .junk, .junk, .junk, .junk, .junk, .junk, .junk, .junk, .junk, .junk, .junk, .junk, .junk, .junk, .junk, .junk, .junk, .junk, .junk, .junk, .junk, .junk, .junk, .junk, .junk, .junk, .junk, .junk, .junk, .junk, .junk, .junk, .junk, .junk, .junk, .junk, .junk, .junk, .junk, .junk, .junk, .junk, .junk, .junk, .junk, .junk, .junk, .junk, .junk, .junk, .junk, .junk, .junk, .junk, .junk, .junk, .junk, .junk, .junk, .junk], [], 0, []⟩
def z_split.L8.X : List (Exit × TS) := [(.exit 0, z_split.L8.X0), (.ret, z_split.L8.X1)]
def z_split.L8.dσ : List D → Option (Bool × List (List D) × List (List D) × Int)
  | [.bool x0, .seq x1, .seq x2, .int x3] => some (x0, x1, x2, x3)
  | _ => none
def z_split.L8.eσ (x : Bool × List (List D) × List (List D) × Int) : List D := [.bool x.1, .seq x.2.1, .seq x.2.2.1, .int x.2.2.2]
def z_split.L8.dτ : Nat → List D → Option ((Bool) ⊕ (Bool))
  | 0, [.bool y0] => some (.inl y0)
  | 1, [.bool y0] => some (.inr y0)
  | _, _ => none
def z_split.L8.eτ : (Bool) ⊕ (Bool) → Nat × List D
  | (.inl t) => (0, [.bool t])
  | (.inr t) => (1, [.bool t])
def z_split.L8.sel (β : Type) (t : (Bool) ⊕ (Bool)) (k : Exit → Fr → Hp → Option β) : Option β := match t with
  | (.inl r) => k (.exit 0) (bldS z_split.L8.X0 [.bool r]).1 (bldS z_split.L8.X0 [.bool r]).2
  | (.inr r) => k (.ret) (bldS z_split.L8.X1 [.bool r]).1 (bldS z_split.L8.X1 [.bool r]).2
theorem z_split.L8.sel_ok (β : Type) (t : (Bool) ⊕ (Bool)) (k : Exit → Fr → Hp → Option β) : z_split.L8.sel β t k = k (endA z_split.L8.X z_split.L8.eτ t).1 (endA z_split.L8.X z_split.L8.eτ t).2.1 (endA z_split.L8.X z_split.L8.eτ t).2.2 := by rcases t with t | t <;> rfl
theorem z_split.L8.dσ_ok (d : List D) (x : Bool × List (List D) × List (List D) × Int) (h : z_split.L8.dσ d = some x) : z_split.L8.eσ x = d := by
  unfold z_split.L8.dσ at h
  split at h <;> first | (cases h; rfl) | cases h
theorem z_split.L8.dτ_ok (i : Nat) (d : List D) (t : (Bool) ⊕ (Bool)) (h : z_split.L8.dτ i d = some t) : z_split.L8.eτ t = (i, d) := by
  unfold z_split.L8.dτ at h
  split at h <;> first | (cases h; rfl) | cases h
def z_split.L8.S (K : Nat) (f17 : Int → Int → Option (Int × Int × Int × Int × Bool)) (f18 : Int → Int → Option (List (List D) × Int)) (f30 : Int → Int → Option (Int × Int × Int × Int × Bool)) (f31 : Int → Int → Option (List (List D) × Int)) (rec : (Bool × List (List D) × List (List D) × Int) → Option ((Bool) ⊕ (Bool))) (x0 : Bool) (x1 : List (List D)) (x2 : List (List D)) (x3 : Int) : Option ((Bool) ⊕ (Bool)) :=
  bif decide (x3 < (↑x1.length : Int)) then if (0 : Int) ≤ x3 ∧ x3 < (↑x1.length : Int) then if (0 : Int) ≤ x3 ∧ x3 < (↑x2.length : Int) then bif !((D.at x1 x3.toNat (0 : Nat)).toInt == (D.at x2 x3.toNat (0 : Nat)).toInt && ((D.at x1 x3.toNat (1 : Nat)).toInt == (D.at x2 x3.toNat (1 : Nat)).toInt && ((D.at x1 x3.toNat (2 : Nat)).toInt == (D.at x2 x3.toNat (2 : Nat)).toInt && ((D.at x1 x3.toNat (3 : Nat)).toInt == (D.at x2 x3.toNat (3 : Nat)).toInt && true)))) then some (Sum.inr false) else rec (x0, x1, x2, IntKind.i64.wrap (x3 + (1 : Int))) else none else none else some (Sum.inl x0)
set_option maxRecDepth 100000 in
theorem z_split.L8.step (K : Nat) (f17 : Int → Int → Option (Int × Int × Int × Int × Bool)) (f18 : Int → Int → Option (List (List D) × Int)) (f30 : Int → Int → Option (Int × Int × Int × Int × Bool)) (f31 : Int → Int → Option (List (List D) × Int)) (rec : (Bool × List (List D) × List (List D) × Int) → Option ((Bool) ⊕ (Bool))) (x0 : Bool) (x1 : List (List D)) (x2 : List (List D)) (x3 : Int) : execA Tryz.prog lay (z_split.Γ f17 f18 f30 f31) [] (inlA Tryz.prog lay (z_split.Γ f17 f18 f30 f31) [] 3) ⟨z_split.J14, [], 0⟩ 0 (loopAt Tryz.f14 0) (bldS z_split.L8.T (z_split.L8.eσ (x0, x1, x2, x3))).1 (bldS z_split.L8.T (z_split.L8.eσ (x0, x1, x2, x3))).2 (contA z_split.L8.T z_split.L8.X z_split.L8.dσ z_split.L8.dτ rec) = z_split.L8.S K f17 f18 f30 f31 rec x0 x1 x2 x3 := by kernel_rfl
def z_split.L8 (K : Nat) (f17 : Int → Int → Option (Int × Int × Int × Int × Bool)) (f18 : Int → Int → Option (List (List D) × Int)) (f30 : Int → Int → Option (Int × Int × Int × Int × Bool)) (f31 : Int → Int → Option (List (List D) × Int)) : Nat → (Bool × List (List D) × List (List D) × Int) → Option ((Bool) ⊕ (Bool))
  | 0, _ => none
  | k + 1, x => z_split.L8.S K f17 f18 f30 f31 (z_split.L8 K f17 f18 f30 f31 k) x.1 x.2.1 x.2.2.1 x.2.2.2
theorem z_split.L8.ok (K : Nat) (f17 : Int → Int → Option (Int × Int × Int × Int × Bool)) (f18 : Int → Int → Option (List (List D) × Int)) (f30 : Int → Int → Option (Int × Int × Int × Int × Bool)) (f31 : Int → Int → Option (List (List D) × Int)) {B : Nat} {wB : World} (stab_ : ∀ w', Bel B wB w' → GW w') (hΓ_ : AllOk Tryz.prog GW lay (z_split.Γ f17 f18 f30 f31)) (Kr : Nat) : LSOk Tryz.prog lay B wB [] 0 (sumA z_split.L8.T z_split.L8.X z_split.L8.dσ z_split.L8.eτ z_split.L8.sel z_split.L8.sel_ok (z_split.L8 K f17 f18 f30 f31 Kr)) (loopAt Tryz.f14 0) :=
  loop_mk (by kernel_rfl) hΓ_ stab_ (inlA_ok (by kernel_rfl) hΓ_ stab_ in_nil 3) (C := ⟨z_split.J14, [], 0⟩) (allL_of (l := []) (by kernel_rfl) allL_nil) (by decide) (by decide) z_split.L8.dσ_ok z_split.L8.dτ_ok (fun _ => rfl) (fun k x => (z_split.L8.step K f17 f18 f30 f31 (z_split.L8 K f17 f18 f30 f31 k) x.1 x.2.1 x.2.2.1 x.2.2.2).symm) Kr
def z_split.t (K : Nat) (f17 : Int → Int → Option (Int × Int × Int × Int × Bool)) (f18 : Int → Int → Option (List (List D) × Int)) (f30 : Int → Int → Option (Int × Int × Int × Int × Bool)) (f31 : Int → Int → Option (List (List D) × Int)) (a0 : Int) (a1 : Int) : Option (Bool) :=
  (f17 a0 a1).bind fun v1 => (f30 a0 a1).bind fun v2 => (f18 a0 a1).bind fun v3 => (f31 a0 a1).bind fun v4 => bif !(v1.fst == v2.fst && (v1.snd.fst == v2.snd.fst && (v1.snd.snd.fst == v2.snd.snd.fst && (v1.snd.snd.snd.fst == v2.snd.snd.snd.fst && true)))) then some false else bif !v1.snd.snd.snd.snd == v2.snd.snd.snd.snd then some false else bif !v3.snd == v4.snd then some false else bif !(↑v3.fst.length : Int) == (↑v4.fst.length : Int) then some false else (z_split.L8 K f17 f18 f30 f31 K (false, v3.fst, v4.fst, (0 : Int))).bind fun v5 => Sum.elim (fun v6 => some true) (fun v7 => some v7) v5
set_option maxRecDepth 100000 in
theorem z_split.run (K : Nat) (f17 : Int → Int → Option (Int × Int × Int × Int × Bool)) (f18 : Int → Int → Option (List (List D) × Int)) (f30 : Int → Int → Option (Int × Int × Int × Int × Bool)) (f31 : Int → Int → Option (List (List D) × Int)) (a0 : Int) (a1 : Int) : runA Tryz.prog lay (z_split.Γ f17 f18 f30 f31) [] [] 3 ⟨z_split.J14, [(8, 0, sumA z_split.L8.T z_split.L8.X z_split.L8.dσ z_split.L8.eτ z_split.L8.sel z_split.L8.sel_ok (z_split.L8 K f17 f18 f30 f31 K))], 0⟩ Tryz.f14 [.agg [.int .i64 a0, .int .i64 a1]] [] [.one (.bool)] z_split.dec = z_split.t K f17 f18 f30 f31 a0 a1 := by kernel_rfl
def z_split.f (k : Nat) (a0 : Int) (a1 : Int) : Option (Bool) := z_split.t k (value_Find.f k) (fun a0 a1 => (value_Split.f k a0 a1).map fun r => (r.1.map row23, r.2)) (r4_Find.f k) (r4_Split.f k) a0 a1
theorem z_split.allOk (k : Nat) : AllOk Tryz.prog GW lay (z_split.Γ (value_Find.f k) (fun a0 a1 => (value_Split.f k a0 a1).map fun r => (r.1.map row23, r.2)) (r4_Find.f k) (r4_Split.f k)) := (allOk_cons (value_Find_Z3.ok k) (allOk_cons (value_Split_Z3.ok k) (allOk_cons (r4_Find.ok k) (allOk_cons (r4_Split.ok k) allOk_nil))))
theorem z_split.ok (k : Nat) : CEOk Tryz.prog GW lay 14 (z_split.ce (z_split.f k)) := by
  have hΓ_ := z_split.allOk k
  exact tells_mk (by kernel_rfl) hΓ_ Tryz.func14 (fun args w => by kernel_rfl) (fun w w' h hb => h.step hb) no_globals (fun B wB stab_ => in_nil) (C := ⟨z_split.J14, [(8, 0, sumA z_split.L8.T z_split.L8.X z_split.L8.dσ z_split.L8.eτ z_split.L8.sel z_split.L8.sel_ok (z_split.L8 k (value_Find.f k) (fun a0 a1 => (value_Split.f k a0 a1).map fun r => (r.1.map row23, r.2)) (r4_Find.f k) (r4_Split.f k) k))], 0⟩) (fun B wB stab_ => bodyL (allL_of (l := [loopAt Tryz.f14 0]) (by kernel_rfl) (allL_cons (by kernel_rfl) (z_split.L8.ok k (value_Find.f k) (fun a0 a1 => (value_Split.f k a0 a1).map fun r => (r.1.map row23, r.2)) (r4_Find.f k) (r4_Split.f k) stab_ hΓ_ k) allL_nil))) (fun args τ x out sel ok r hs hx => by
    unfold z_split.tells at hs
    split at hs
    · rename_i a0 a1
      cases hs
      unfold z_split.f at hx
      have hr_ := z_split.run k (value_Find.f k) (fun a0 a1 => (value_Split.f k a0 a1).map fun r => (r.1.map row23, r.2)) (r4_Find.f k) (r4_Split.f k) a0 a1
      rw [hx] at hr_
      exact ⟨rfl, z_split.out_free _, 3, [.one (.bool)], z_split.dec, hr_, fun res h => z_split.dec_ok res _ h⟩
    · cases hs)

end Go.Proofs.YtajbnfidcpfonaaGreatDoor.M
