import Derived.Test.YtphlamnaaogmaaaGreatDoorE0
set_option linter.unusedVariables false
set_option linter.unusedSimpArgs false
set_option maxRecDepth 100000
namespace Go.Proofs.YtphlamnaaogmaaaGreatDoor.M
open Go Go.RowKit Go.Proofs Go.Proofs.Qx 

def zA.out (r : Bool) : Res := .ret (.bool r)
def zA.dec : Res → Option (Bool)
  | .ret (.bool y0) => some y0
  | _ => none
theorem zA.out_free (r : Bool) : (zA.out r).free = true := rfl
def zA.sel (β : Type) (r : Bool) (k : Res → Option β) : Option β := k (.ret (.bool r))
theorem zA.sel_ok (β : Type) (t : Bool) (k : Res → Option β) : zA.sel β t k = k (zA.out t) := rfl
theorem zA.dec_ok (res : Res) (r : Bool) (h : zA.dec res = some r) : res = zA.out r := by
  unfold zA.dec at h
  split at h <;> first | (cases h; rfl) | cases h
def zA.tells (f : ByteArray → (List (List D)) → ByteArray → (List (List D)) → ByteArray → (List (List D)) → ByteArray → (List (List D)) → Option (Bool)) : Tells
  | [.agg [.str a0, .seq 52 a1, .str a2, .seq 27 a3], .agg [.str a4, .seq 52 a5, .str a6, .seq 27 a7]] => some (.mk (Bool) (f a0 a1 a2 a3 a4 a5 a6 a7) zA.out zA.sel zA.sel_ok)
  | _ => none
def zA.ce (f : ByteArray → (List (List D)) → ByteArray → (List (List D)) → ByteArray → (List (List D)) → ByteArray → (List (List D)) → Option (Bool)) : CE := ⟨[.agg [.str, .seq 52, .str, .seq 27], .agg [.str, .seq 52, .str, .seq 27]], .flat, zA.tells f⟩
def zA.Γ (f21 : ByteArray → (List (List D)) → ByteArray → (List (List D)) → ByteArray → (List (List D)) → ByteArray → (List (List D)) → Option (Bool)) : List (Nat × CE) := [(21, zA.ce f21)]
def zA.J21 : List (Nat × List Nat) := [(1, [8, 9, 10, 11, 12, 13, 14, 15, 16, 17, 18, 19, 20, 21, 22, 23, 24, 25, 26, 27, 28, 29, 30, 31, 32, 33, 34, 35, 36]), (4, [38, 39, 40, 41]), (5, [43, 44]), (6, [45, 46, 47, 48, 49, 50, 51, 52, 53, 54]), (9, [56, 57, 58, 59]), (10, [61, 62]), (11, [63, 64, 65, 66, 67, 68, 69, 70, 71, 72, 73]), (12, [74]), (1000037, [37]), (1000042, [42]), (1000055, [55]), (1000060, [60]), (1000075, [75])]
def zA.L4.T : TS := ⟨[.junk, .junk, .ptr 0 0, .ptr 1 0, .bool, .int .i64, .junk, .junk, .junk, .junk, .junk, .junk, .junk, .junk, .junk, .junk, .junk, .junk, .junk, .junk, .junk, .junk, .junk, .junk, .junk, .junk, .junk, .junk, .junk, .junk, .junk, .junk, .junk, .junk, .junk, .junk, .junk, .junk, .junk, .junk, .junk, .junk, .junk, .junk, .junk, .junk, .junk, .junk, .junk, .junk, .junk, .junk, .junk, .junk, .junk, .junk, .junk, .junk, .junk, .junk, .junk, .junk, .junk, .junk, .junk, .junk, .junk, .junk, .junk, .junk, .junk, .junk, .junk, .junk, .junk, .junk], [.cells 27 [.str, .seq 52, .str, .seq 27] .own, .cells 27 [.str, .seq 52, .str, .seq 27] .own], 0, [(2, none), (3, none)]⟩
def zA.L4.X0 : TS := ⟨[.junk, .junk, .ptr 0 0, .ptr 1 0, .bool, .junk, .junk, .junk, .junk, .junk, .junk, .junk, .junk, .junk, .junk, .junk, .junk, .junk, .junk, .junk, .junk, .junk, .junk, .junk, .junk, .junk, .junk, .junk, .junk, .junk, .junk, .junk, .junk, .junk, .junk, .junk, .junk, .junk, .junk, .junk, .junk, .junk, .junk, .junk, .junk, .junk, .junk, .junk, .junk, .junk, .junk, .junk, .junk, .junk, .junk, .junk, .junk, .junk, .junk, .junk, .junk, .junk, .junk, .junk, .junk, .junk, .junk, .junk, .junk, .junk, .junk, .junk, .junk, .junk, .junk, .junk], [.cells 27 [.str, .seq 52, .str, .seq 27] .own, .cells 27 [.str, .seq 52, .str, .seq 27] .own], 0, [(2, none), (3, none)]⟩
def zA.L4.X1 : TS := ⟨[.junk, .junk, .junk, .junk, .bool, .junk, .junk, .junk, .junk, .junk, .junk, .junk, .junk, .junk, .junk, .junk, .junk, .junk, .junk, .junk, .junk, .junk, .junk, .junk, .junk, .junk, .junk, .junk, .junk, .junk, .junk, .junk, .junk, .junk, .junk, .junk, .junk, .junk, .junk, .junk, .junk, .junk, .junk, .junk, .junk, .junk, .junk, .junk, .junk, .junk, .junk, .junk, .junk, .junk, .junk, .junk, .junk, .junk, .junk, .junk, .junk, .junk, .junk, .junk, .junk, .junk, .junk, .junk, .junk, .junk, .junk, .junk, .junk, .junk, .junk, .junk], [], 0, []⟩
def zA.L4.X : List (Exit × TS) := [(.exit 0, zA.L4.X0), (.ret, zA.L4.X1)]
def zA.L4.dσ : List D → Option (Bool × Int × ByteArray × List (List D) × ByteArray × List (List D) × ByteArray × List (List D) × ByteArray × List (List D))
  | [.bool x0, .int x1, .str x2, .seq x3, .str x4, .seq x5, .str x6, .seq x7, .str x8, .seq x9] => some (x0, x1, x2, x3, x4, x5, x6, x7, x8, x9)
  | _ => none
def zA.L4.eσ (x : Bool × Int × ByteArray × List (List D) × ByteArray × List (List D) × ByteArray × List (List D) × ByteArray × List (List D)) : List D := [.bool x.1, .int x.2.1, .str x.2.2.1, .seq x.2.2.2.1, .str x.2.2.2.2.1, .seq x.2.2.2.2.2.1, .str x.2.2.2.2.2.2.1, .seq x.2.2.2.2.2.2.2.1, .str x.2.2.2.2.2.2.2.2.1, .seq x.2.2.2.2.2.2.2.2.2]
def zA.L4.dτ : Nat → List D → Option ((Bool × ByteArray × List (List D) × ByteArray × List (List D) × ByteArray × List (List D) × ByteArray × List (List D)) ⊕ (Bool))
  | 0, [.bool y0, .str y1, .seq y2, .str y3, .seq y4, .str y5, .seq y6, .str y7, .seq y8] => some (.inl (y0, y1, y2, y3, y4, y5, y6, y7, y8))
  | 1, [.bool y0] => some (.inr y0)
  | _, _ => none
def zA.L4.eτ : (Bool × ByteArray × List (List D) × ByteArray × List (List D) × ByteArray × List (List D) × ByteArray × List (List D)) ⊕ (Bool) → Nat × List D
  | (.inl t) => (0, [.bool t.1, .str t.2.1, .seq t.2.2.1, .str t.2.2.2.1, .seq t.2.2.2.2.1, .str t.2.2.2.2.2.1, .seq t.2.2.2.2.2.2.1, .str t.2.2.2.2.2.2.2.1, .seq t.2.2.2.2.2.2.2.2])
  | (.inr t) => (1, [.bool t])
def zA.L4.sel (β : Type) (t : (Bool × ByteArray × List (List D) × ByteArray × List (List D) × ByteArray × List (List D) × ByteArray × List (List D)) ⊕ (Bool)) (k : Exit → Fr → Hp → Option β) : Option β := match t with
  | (.inl r) => k (.exit 0) (bldS zA.L4.X0 [.bool r.1, .str r.2.1, .seq r.2.2.1, .str r.2.2.2.1, .seq r.2.2.2.2.1, .str r.2.2.2.2.2.1, .seq r.2.2.2.2.2.2.1, .str r.2.2.2.2.2.2.2.1, .seq r.2.2.2.2.2.2.2.2]).1 (bldS zA.L4.X0 [.bool r.1, .str r.2.1, .seq r.2.2.1, .str r.2.2.2.1, .seq r.2.2.2.2.1, .str r.2.2.2.2.2.1, .seq r.2.2.2.2.2.2.1, .str r.2.2.2.2.2.2.2.1, .seq r.2.2.2.2.2.2.2.2]).2
  | (.inr r) => k (.ret) (bldS zA.L4.X1 [.bool r]).1 (bldS zA.L4.X1 [.bool r]).2
theorem zA.L4.sel_ok (β : Type) (t : (Bool × ByteArray × List (List D) × ByteArray × List (List D) × ByteArray × List (List D) × ByteArray × List (List D)) ⊕ (Bool)) (k : Exit → Fr → Hp → Option β) : zA.L4.sel β t k = k (endA zA.L4.X zA.L4.eτ t).1 (endA zA.L4.X zA.L4.eτ t).2.1 (endA zA.L4.X zA.L4.eτ t).2.2 := by rcases t with t | t <;> rfl
theorem zA.L4.dσ_ok (d : List D) (x : Bool × Int × ByteArray × List (List D) × ByteArray × List (List D) × ByteArray × List (List D) × ByteArray × List (List D)) (h : zA.L4.dσ d = some x) : zA.L4.eσ x = d := by
  unfold zA.L4.dσ at h
  split at h <;> first | (cases h; rfl) | cases h
theorem zA.L4.dτ_ok (i : Nat) (d : List D) (t : (Bool × ByteArray × List (List D) × ByteArray × List (List D) × ByteArray × List (List D) × ByteArray × List (List D)) ⊕ (Bool)) (h : zA.L4.dτ i d = some t) : zA.L4.eτ t = (i, d) := by
  unfold zA.L4.dτ at h
  split at h <;> first | (cases h; rfl) | cases h
def zA.L4.S (K : Nat) (f21 : ByteArray → (List (List D)) → ByteArray → (List (List D)) → ByteArray → (List (List D)) → ByteArray → (List (List D)) → Option (Bool)) (rec : (Bool × Int × ByteArray × List (List D) × ByteArray × List (List D) × ByteArray × List (List D) × ByteArray × List (List D)) → Option ((Bool × ByteArray × List (List D) × ByteArray × List (List D) × ByteArray × List (List D) × ByteArray × List (List D)) ⊕ (Bool))) (x0 : Bool) (x1 : Int) (x2 : ByteArray) (x3 : List (List D)) (x4 : ByteArray) (x5 : List (List D)) (x6 : ByteArray) (x7 : List (List D)) (x8 : ByteArray) (x9 : List (List D)) : Option ((Bool × ByteArray × List (List D) × ByteArray × List (List D) × ByteArray × List (List D) × ByteArray × List (List D)) ⊕ (Bool)) :=
  bif decide (x1 < (↑x3.length : Int)) then if (0 : Int) ≤ x1 ∧ x1 < (↑x3.length : Int) then if (0 : Int) ≤ x1 ∧ x1 < (↑x7.length : Int) then bif !((D.at x3 x1.toNat (0 : Nat)).toStr.toList == (D.at x7 x1.toNat (0 : Nat)).toStr.toList && ((D.at x3 x1.toNat (1 : Nat)).toStr.toList == (D.at x7 x1.toNat (1 : Nat)).toStr.toList && true)) then some (Sum.inr false) else rec (x0, IntKind.i64.wrap (x1 + (1 : Int)), x2, x3, x4, x5, x6, x7, x8, x9) else none else none else some (Sum.inl (x0, x2, x3, x4, x5, x6, x7, x8, x9))
set_option maxRecDepth 100000 in
theorem zA.L4.step (K : Nat) (f21 : ByteArray → (List (List D)) → ByteArray → (List (List D)) → ByteArray → (List (List D)) → ByteArray → (List (List D)) → Option (Bool)) (rec : (Bool × Int × ByteArray × List (List D) × ByteArray × List (List D) × ByteArray × List (List D) × ByteArray × List (List D)) → Option ((Bool × ByteArray × List (List D) × ByteArray × List (List D) × ByteArray × List (List D) × ByteArray × List (List D)) ⊕ (Bool))) (x0 : Bool) (x1 : Int) (x2 : ByteArray) (x3 : List (List D)) (x4 : ByteArray) (x5 : List (List D)) (x6 : ByteArray) (x7 : List (List D)) (x8 : ByteArray) (x9 : List (List D)) : execA Tryz.prog lay (zA.Γ f21) [] (inlA Tryz.prog lay (zA.Γ f21) [] 3) ⟨zA.J21, [], 0, none, none⟩ 0 (loopAt Tryz.f21 0) (bldS zA.L4.T (zA.L4.eσ (x0, x1, x2, x3, x4, x5, x6, x7, x8, x9))).1 (bldS zA.L4.T (zA.L4.eσ (x0, x1, x2, x3, x4, x5, x6, x7, x8, x9))).2 (contA zA.L4.T zA.L4.X zA.L4.dσ zA.L4.dτ rec) = zA.L4.S K f21 rec x0 x1 x2 x3 x4 x5 x6 x7 x8 x9 := by kernel_rfl
def zA.L4 (K : Nat) (f21 : ByteArray → (List (List D)) → ByteArray → (List (List D)) → ByteArray → (List (List D)) → ByteArray → (List (List D)) → Option (Bool)) : Nat → (Bool × Int × ByteArray × List (List D) × ByteArray × List (List D) × ByteArray × List (List D) × ByteArray × List (List D)) → Option ((Bool × ByteArray × List (List D) × ByteArray × List (List D) × ByteArray × List (List D) × ByteArray × List (List D)) ⊕ (Bool))
  | 0, _ => none
  | k + 1, x => zA.L4.S K f21 (zA.L4 K f21 k) x.1 x.2.1 x.2.2.1 x.2.2.2.1 x.2.2.2.2.1 x.2.2.2.2.2.1 x.2.2.2.2.2.2.1 x.2.2.2.2.2.2.2.1 x.2.2.2.2.2.2.2.2.1 x.2.2.2.2.2.2.2.2.2
theorem zA.L4.ok (K : Nat) (f21 : ByteArray → (List (List D)) → ByteArray → (List (List D)) → ByteArray → (List (List D)) → ByteArray → (List (List D)) → Option (Bool)) {B : Nat} {wB : World} (stab_ : ∀ w', Bel B wB w' → GW w') (hΓ_ : AllOk Tryz.prog GW lay (zA.Γ f21)) (Kr : Nat) : LSOk Tryz.prog lay B wB [] 0 (sumA zA.L4.T zA.L4.X zA.L4.dσ zA.L4.eτ zA.L4.sel zA.L4.sel_ok (zA.L4 K f21 Kr)) (loopAt Tryz.f21 0) :=
  loop_mk (by kernel_rfl) hΓ_ stab_ (inlA_ok (by kernel_rfl) hΓ_ stab_ in_nil 3) (C := ⟨zA.J21, [], 0, none, none⟩) (allL_of (l := []) (by kernel_rfl) allL_nil) (by decide) (by decide) zA.L4.dσ_ok zA.L4.dτ_ok (fun _ => rfl) (fun k x => (zA.L4.step K f21 (zA.L4 K f21 k) x.1 x.2.1 x.2.2.1 x.2.2.2.1 x.2.2.2.2.1 x.2.2.2.2.2.1 x.2.2.2.2.2.2.1 x.2.2.2.2.2.2.2.1 x.2.2.2.2.2.2.2.2.1 x.2.2.2.2.2.2.2.2.2).symm) Kr
def zA.L9.T : TS := ⟨[.junk, .junk, .ptr 0 0, .ptr 1 0, .bool, .junk, .int .i64, .junk, .junk, .junk, .junk, .junk, .junk, .junk, .junk, .junk, .junk, .junk, .junk, .junk, .junk, .junk, .junk, .junk, .junk, .junk, .junk, .junk, .junk, .junk, .junk, .junk, .junk, .junk, .junk, .junk, .junk, .junk, .junk, .junk, .junk, .junk, .junk, .junk, .junk, .junk, .junk, .junk, .junk, .junk, .junk, .junk, .junk, .junk, .junk, .junk, .junk, .junk, .junk, .junk, .junk, .junk, .junk, .junk, .junk, .junk, .junk, .junk, .junk, .junk, .junk, .junk, .junk, .junk, .junk, .junk], [.cells 27 [.str, .seq 52, .str, .seq 27] .own, .cells 27 [.str, .seq 52, .str, .seq 27] .own], 0, [(2, none), (3, none)]⟩
def zA.L9.X0 : TS := ⟨[.junk, .junk, .junk, .junk, .bool, .junk, .junk, .junk, .junk, .junk, .junk, .junk, .junk, .junk, .junk, .junk, .junk, .junk, .junk, .junk, .junk, .junk, .junk, .junk, .junk, .junk, .junk, .junk, .junk, .junk, .junk, .junk, .junk, .junk, .junk, .junk, .junk, .junk, .junk, .junk, .junk, .junk, .junk, .junk, .junk, .junk, .junk, .junk, .junk, .junk, .junk, .junk, .junk, .junk, .junk, .junk, .junk, .junk, .junk, .junk, .junk, .junk, .junk, .junk, .junk, .junk, .junk, .junk, .junk, .junk, .junk, .junk, .junk, .junk, .junk, .junk], [], 0, []⟩
def zA.L9.X1 : TS := ⟨[.junk, .junk, .junk, .junk, .bool, .junk, .junk, .junk, .junk, .junk, .junk, .junk, .junk, .junk, .junk, .junk, .junk, .junk, .junk, .junk, .junk, .junk, .junk, .junk, .junk, .junk, .junk, .junk, .junk, .junk, .junk, .junk, .junk, .junk, .junk, .junk, .junk, .junk, .junk, .junk, .junk, .junk, .junk, .junk, .junk, .junk, .junk, .junk, .junk, .junk, .junk, .junk, .junk, .junk, .junk, .junk, .junk, .junk, .junk, .junk, .junk, .junk, .junk, .junk, .junk, .junk, .junk, .junk, .junk, .junk, .junk, .junk, .junk, .junk, .junk, .junk], [], 0, []⟩
def zA.L9.X : List (Exit × TS) := [(.exit 2, zA.L9.X0), (.ret, zA.L9.X1)]
def zA.L9.dσ : List D → Option (Bool × Int × ByteArray × List (List D) × ByteArray × List (List D) × ByteArray × List (List D) × ByteArray × List (List D))
  | [.bool x0, .int x1, .str x2, .seq x3, .str x4, .seq x5, .str x6, .seq x7, .str x8, .seq x9] => some (x0, x1, x2, x3, x4, x5, x6, x7, x8, x9)
  | _ => none
def zA.L9.eσ (x : Bool × Int × ByteArray × List (List D) × ByteArray × List (List D) × ByteArray × List (List D) × ByteArray × List (List D)) : List D := [.bool x.1, .int x.2.1, .str x.2.2.1, .seq x.2.2.2.1, .str x.2.2.2.2.1, .seq x.2.2.2.2.2.1, .str x.2.2.2.2.2.2.1, .seq x.2.2.2.2.2.2.2.1, .str x.2.2.2.2.2.2.2.2.1, .seq x.2.2.2.2.2.2.2.2.2]
def zA.L9.dτ : Nat → List D → Option ((Bool) ⊕ (Bool))
  | 0, [.bool y0] => some (.inl y0)
  | 1, [.bool y0] => some (.inr y0)
  | _, _ => none
def zA.L9.eτ : (Bool) ⊕ (Bool) → Nat × List D
  | (.inl t) => (0, [.bool t])
  | (.inr t) => (1, [.bool t])
def zA.L9.sel (β : Type) (t : (Bool) ⊕ (Bool)) (k : Exit → Fr → Hp → Option β) : Option β := match t with
  | (.inl r) => k (.exit 2) (bldS zA.L9.X0 [.bool r]).1 (bldS zA.L9.X0 [.bool r]).2
  | (.inr r) => k (.ret) (bldS zA.L9.X1 [.bool r]).1 (bldS zA.L9.X1 [.bool r]).2
theorem zA.L9.sel_ok (β : Type) (t : (Bool) ⊕ (Bool)) (k : Exit → Fr → Hp → Option β) : zA.L9.sel β t k = k (endA zA.L9.X zA.L9.eτ t).1 (endA zA.L9.X zA.L9.eτ t).2.1 (endA zA.L9.X zA.L9.eτ t).2.2 := by rcases t with t | t <;> rfl
theorem zA.L9.dσ_ok (d : List D) (x : Bool × Int × ByteArray × List (List D) × ByteArray × List (List D) × ByteArray × List (List D) × ByteArray × List (List D)) (h : zA.L9.dσ d = some x) : zA.L9.eσ x = d := by
  unfold zA.L9.dσ at h
  split at h <;> first | (cases h; rfl) | cases h
theorem zA.L9.dτ_ok (i : Nat) (d : List D) (t : (Bool) ⊕ (Bool)) (h : zA.L9.dτ i d = some t) : zA.L9.eτ t = (i, d) := by
  unfold zA.L9.dτ at h
  split at h <;> first | (cases h; rfl) | cases h
def zA.L9.S (K : Nat) (f21 : ByteArray → (List (List D)) → ByteArray → (List (List D)) → ByteArray → (List (List D)) → ByteArray → (List (List D)) → Option (Bool)) (rec : (Bool × Int × ByteArray × List (List D) × ByteArray × List (List D) × ByteArray × List (List D) × ByteArray × List (List D)) → Option ((Bool) ⊕ (Bool))) (x0 : Bool) (x1 : Int) (x2 : ByteArray) (x3 : List (List D)) (x4 : ByteArray) (x5 : List (List D)) (x6 : ByteArray) (x7 : List (List D)) (x8 : ByteArray) (x9 : List (List D)) : Option ((Bool) ⊕ (Bool)) :=
  bif decide (x1 < (↑x5.length : Int)) then if (0 : Int) ≤ x1 ∧ x1 < (↑x5.length : Int) then if (0 : Int) ≤ x1 ∧ x1 < (↑x9.length : Int) then (f21 (D.at x5 x1.toNat (0 : Nat)).toStr (D.at x5 x1.toNat (1 : Nat)).toSeq (D.at x5 x1.toNat (2 : Nat)).toStr (D.at x5 x1.toNat (3 : Nat)).toSeq (D.at x9 x1.toNat (0 : Nat)).toStr (D.at x9 x1.toNat (1 : Nat)).toSeq (D.at x9 x1.toNat (2 : Nat)).toStr (D.at x9 x1.toNat (3 : Nat)).toSeq).bind fun v1 => bif !v1 then some (Sum.inr false) else rec (x0, IntKind.i64.wrap (x1 + (1 : Int)), x2, x3, x4, x5, x6, x7, x8, x9) else none else none else some (Sum.inl x0)
set_option maxRecDepth 100000 in
theorem zA.L9.step (K : Nat) (f21 : ByteArray → (List (List D)) → ByteArray → (List (List D)) → ByteArray → (List (List D)) → ByteArray → (List (List D)) → Option (Bool)) (rec : (Bool × Int × ByteArray × List (List D) × ByteArray × List (List D) × ByteArray × List (List D) × ByteArray × List (List D)) → Option ((Bool) ⊕ (Bool))) (x0 : Bool) (x1 : Int) (x2 : ByteArray) (x3 : List (List D)) (x4 : ByteArray) (x5 : List (List D)) (x6 : ByteArray) (x7 : List (List D)) (x8 : ByteArray) (x9 : List (List D)) : execA Tryz.prog lay (zA.Γ f21) [] (inlA Tryz.prog lay (zA.Γ f21) [] 3) ⟨zA.J21, [], 0, none, none⟩ 0 (loopAt Tryz.f21 1) (bldS zA.L9.T (zA.L9.eσ (x0, x1, x2, x3, x4, x5, x6, x7, x8, x9))).1 (bldS zA.L9.T (zA.L9.eσ (x0, x1, x2, x3, x4, x5, x6, x7, x8, x9))).2 (contA zA.L9.T zA.L9.X zA.L9.dσ zA.L9.dτ rec) = zA.L9.S K f21 rec x0 x1 x2 x3 x4 x5 x6 x7 x8 x9 := by kernel_rfl
def zA.L9 (K : Nat) (f21 : ByteArray → (List (List D)) → ByteArray → (List (List D)) → ByteArray → (List (List D)) → ByteArray → (List (List D)) → Option (Bool)) : Nat → (Bool × Int × ByteArray × List (List D) × ByteArray × List (List D) × ByteArray × List (List D) × ByteArray × List (List D)) → Option ((Bool) ⊕ (Bool))
  | 0, _ => none
  | k + 1, x => zA.L9.S K f21 (zA.L9 K f21 k) x.1 x.2.1 x.2.2.1 x.2.2.2.1 x.2.2.2.2.1 x.2.2.2.2.2.1 x.2.2.2.2.2.2.1 x.2.2.2.2.2.2.2.1 x.2.2.2.2.2.2.2.2.1 x.2.2.2.2.2.2.2.2.2
theorem zA.L9.ok (K : Nat) (f21 : ByteArray → (List (List D)) → ByteArray → (List (List D)) → ByteArray → (List (List D)) → ByteArray → (List (List D)) → Option (Bool)) {B : Nat} {wB : World} (stab_ : ∀ w', Bel B wB w' → GW w') (hΓ_ : AllOk Tryz.prog GW lay (zA.Γ f21)) (Kr : Nat) : LSOk Tryz.prog lay B wB [] 0 (sumA zA.L9.T zA.L9.X zA.L9.dσ zA.L9.eτ zA.L9.sel zA.L9.sel_ok (zA.L9 K f21 Kr)) (loopAt Tryz.f21 1) :=
  loop_mk (by kernel_rfl) hΓ_ stab_ (inlA_ok (by kernel_rfl) hΓ_ stab_ in_nil 3) (C := ⟨zA.J21, [], 0, none, none⟩) (allL_of (l := []) (by kernel_rfl) allL_nil) (by decide) (by decide) zA.L9.dσ_ok zA.L9.dτ_ok (fun _ => rfl) (fun k x => (zA.L9.step K f21 (zA.L9 K f21 k) x.1 x.2.1 x.2.2.1 x.2.2.2.1 x.2.2.2.2.1 x.2.2.2.2.2.1 x.2.2.2.2.2.2.1 x.2.2.2.2.2.2.2.1 x.2.2.2.2.2.2.2.2.1 x.2.2.2.2.2.2.2.2.2).symm) Kr
def zA.t (K : Nat) (f21 : ByteArray → (List (List D)) → ByteArray → (List (List D)) → ByteArray → (List (List D)) → ByteArray → (List (List D)) → Option (Bool)) (a0 : ByteArray) (a1 : List (List D)) (a2 : ByteArray) (a3 : List (List D)) (a4 : ByteArray) (a5 : List (List D)) (a6 : ByteArray) (a7 : List (List D)) : Option (Bool) :=
  bif !a0.toList == a4.toList then some false else bif !a2.toList == a6.toList then some false else bif !(↑a1.length : Int) == (↑a5.length : Int) then some false else bif !(↑a3.length : Int) == (↑a7.length : Int) then some false else (zA.L4 K f21 K (false, (0 : Int), a0, a1, a2, a3, a4, a5, a6, a7)).bind fun v1 => Sum.elim (fun v2 => (zA.L9 K f21 K (v2.fst, (0 : Int), v2.q1, v2.q2, v2.q3, v2.q4, v2.q5, v2.q6, v2.q7, v2.r8)).bind fun v3 => Sum.elim (fun v4 => some true) (fun v5 => some v5) v3) (fun v6 => some v6) v1
set_option maxRecDepth 100000 in
theorem zA.run (K : Nat) (f21 : ByteArray → (List (List D)) → ByteArray → (List (List D)) → ByteArray → (List (List D)) → ByteArray → (List (List D)) → Option (Bool)) (a0 : ByteArray) (a1 : List (List D)) (a2 : ByteArray) (a3 : List (List D)) (a4 : ByteArray) (a5 : List (List D)) (a6 : ByteArray) (a7 : List (List D)) : runA Tryz.prog lay (zA.Γ f21) [] [] 3 ⟨zA.J21, [(4, 0, sumA zA.L4.T zA.L4.X zA.L4.dσ zA.L4.eτ zA.L4.sel zA.L4.sel_ok (zA.L4 K f21 K)), (9, 0, sumA zA.L9.T zA.L9.X zA.L9.dσ zA.L9.eτ zA.L9.sel zA.L9.sel_ok (zA.L9 K f21 K))], 0, none, none⟩ Tryz.f21 [.agg [.str a0, .seq 52 a1, .str a2, .seq 27 a3], .agg [.str a4, .seq 52 a5, .str a6, .seq 27 a7]] [] [.one (.bool)] zA.dec = zA.t K f21 a0 a1 a2 a3 a4 a5 a6 a7 := by kernel_rfl
def zA.f : Nat → ByteArray → (List (List D)) → ByteArray → (List (List D)) → ByteArray → (List (List D)) → ByteArray → (List (List D)) → Option (Bool)
  | 0, _, _, _, _, _, _, _, _ => none
  | k + 1, a0, a1, a2, a3, a4, a5, a6, a7 => zA.t k (zA.f k) a0 a1 a2 a3 a4 a5 a6 a7
theorem zA.ok : ∀ k : Nat, CEOk Tryz.prog GW lay 21 (zA.ce (zA.f k))
  | 0 => ⟨fun args w => by kernel_rfl, fun args τ x out sel ok r hs hx => by
      unfold zA.ce zA.tells at hs
      simp only at hs
      split at hs
      · cases hs; cases hx
      · cases hs⟩
  | k + 1 => by
    have ih := zA.ok k
    have hΓ_ : AllOk Tryz.prog GW lay (zA.Γ (zA.f k)) := (allOk_cons ih allOk_nil)
    exact tells_mk (by kernel_rfl) hΓ_ Tryz.func21 (fun args w => by kernel_rfl) (fun w w' h hb => h.step hb) no_globals (fun B wB stab_ => in_nil) (C := ⟨zA.J21, [(4, 0, sumA zA.L4.T zA.L4.X zA.L4.dσ zA.L4.eτ zA.L4.sel zA.L4.sel_ok (zA.L4 k (zA.f k) k)), (9, 0, sumA zA.L9.T zA.L9.X zA.L9.dσ zA.L9.eτ zA.L9.sel zA.L9.sel_ok (zA.L9 k (zA.f k) k))], 0, none, none⟩) (fun B wB stab_ => bodyL (allL_of (l := [loopAt Tryz.f21 0, loopAt Tryz.f21 1]) (by kernel_rfl) (allL_cons (by kernel_rfl) (zA.L4.ok k (zA.f k) stab_ hΓ_ k) (allL_cons (by kernel_rfl) (zA.L9.ok k (zA.f k) stab_ hΓ_ k) allL_nil)))) (fun args τ x out sel ok r hs hx => by
    unfold zA.tells at hs
    split at hs
    · cases hs
      exact ⟨rfl, zA.out_free _, 3, [.one (.bool)], zA.dec, (zA.run k (zA.f k) _ _ _ _ _ _ _ _).trans hx, fun res h => zA.dec_ok res _ h⟩
    · cases hs)
end Go.Proofs.YtphlamnaaogmaaaGreatDoor.M
