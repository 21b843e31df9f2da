import Derived.Test.YtphlamnaaogmaaaGreatDoorE4
set_option linter.unusedVariables false
set_option linter.unusedSimpArgs false
set_option maxRecDepth 100000
namespace Go.Proofs.YtphlamnaaogmaaaGreatDoor.M
open Go Go.RowKit Go.Proofs Go.Proofs.Qx 

def zH.out (r : Bool) : Res := .ret (.bool r)
def zH.dec : Res → Option (Bool)
  | .ret (.bool y0) => some y0
  | _ => none
theorem zH.out_free (r : Bool) : (zH.out r).free = true := rfl
def zH.sel (β : Type) (r : Bool) (k : Res → Option β) : Option β := k (.ret (.bool r))
theorem zH.sel_ok (β : Type) (t : Bool) (k : Res → Option β) : zH.sel β t k = k (zH.out t) := rfl
theorem zH.dec_ok (res : Res) (r : Bool) (h : zH.dec res = some r) : res = zH.out r := by
  unfold zH.dec at h
  split at h <;> first | (cases h; rfl) | cases h
def zH.tells (f : (List (List D)) → Option (Bool)) : Tells
  | [.seq 52 a0] => some (.mk (Bool) (f a0) zH.out zH.sel zH.sel_ok)
  | _ => none
def zH.ce (f : (List (List D)) → Option (Bool)) : CE := ⟨[.one (.seq 52)], .flat, zH.tells f⟩
def zH.Γ (f47 : ByteArray → Option (Bool)) (f49 : ByteArray → Option (Bool)) : List (Nat × CE) := [(47, zV.ce f47), (49, zW.ce f49)]
def zH.J48 : List (Nat × List Nat) := [(3, [9, 10, 11]), (4, [12, 13, 14, 15, 16, 17, 18, 19, 20, 21, 22, 23, 24, 25, 26, 27]), (6, [29]), (1000008, [8]), (1000028, [28])]
def zH.J73 : List (Nat × List Nat) := [(1, [4, 5, 6, 7, 8])]
def zH.J94 : List (Nat × List Nat) := [(1, [6]), (3, [10]), (4, [11, 12, 13, 14, 15]), (5, [17]), (6, [18]), (1000009, [9]), (1000016, [16])]
def zH.J72 : List (Nat × List Nat) := [(1, [5, 6, 7, 8])]
def zH.L94_2.T : TS := ⟨[.seq 52, .fn 73 [] [.ptr 0 0], .junk, .junk, .int .i64, .junk, .junk, .int .i64, .int .i64, .junk, .junk, .junk, .junk, .junk, .junk, .junk, .junk, .junk, .junk], [.cells 52 [.str, .str] .own], 1, []⟩
def zH.L94_2.X0 : TS := ⟨[.junk, .junk, .junk, .junk, .int .i64, .junk, .junk, .junk, .junk, .junk, .junk, .junk, .junk, .junk, .junk, .junk, .junk, .junk, .junk], [.cells 52 [.str, .str] .own], 1, []⟩
def zH.L94_2.X1 : TS := ⟨[.junk, .junk, .junk, .junk, .int .i64, .junk, .junk, .junk, .junk, .junk, .junk, .junk, .junk, .junk, .junk, .junk, .junk, .junk, .junk], [.cells 52 [.str, .str] .own], 1, []⟩
def zH.L94_2.X : List (Exit × TS) := [(.exit 0, zH.L94_2.X0), (.ret, zH.L94_2.X1)]
def zH.L94_2.dσ : List D → Option (List (List D) × Int × Int × Int × ByteArray × ByteArray)
  | [.seq x0, .int x1, .int x2, .int x3, .str x4, .str x5] => some (x0, x1, x2, x3, x4, x5)
  | _ => none
def zH.L94_2.eσ (x : List (List D) × Int × Int × Int × ByteArray × ByteArray) : List D := [.seq x.1, .int x.2.1, .int x.2.2.1, .int x.2.2.2.1, .str x.2.2.2.2.1, .str x.2.2.2.2.2]
def zH.L94_2.dτ : Nat → List D → Option ((Int × ByteArray × ByteArray) ⊕ (Int × ByteArray × ByteArray))
  | 0, [.int y0, .str y1, .str y2] => some (.inl (y0, y1, y2))
  | 1, [.int y0, .str y1, .str y2] => some (.inr (y0, y1, y2))
  | _, _ => none
def zH.L94_2.eτ : (Int × ByteArray × ByteArray) ⊕ (Int × ByteArray × ByteArray) → Nat × List D
  | (.inl t) => (0, [.int t.1, .str t.2.1, .str t.2.2])
  | (.inr t) => (1, [.int t.1, .str t.2.1, .str t.2.2])
def zH.L94_2.sel (β : Type) (t : (Int × ByteArray × ByteArray) ⊕ (Int × ByteArray × ByteArray)) (k : Exit → Fr → Hp → Option β) : Option β := match t with
  | (.inl r) => k (.exit 0) (bldS zH.L94_2.X0 [.int r.1, .str r.2.1, .str r.2.2]).1 (bldS zH.L94_2.X0 [.int r.1, .str r.2.1, .str r.2.2]).2
  | (.inr r) => k (.ret) (bldS zH.L94_2.X1 [.int r.1, .str r.2.1, .str r.2.2]).1 (bldS zH.L94_2.X1 [.int r.1, .str r.2.1, .str r.2.2]).2
theorem zH.L94_2.sel_ok (β : Type) (t : (Int × ByteArray × ByteArray) ⊕ (Int × ByteArray × ByteArray)) (k : Exit → Fr → Hp → Option β) : zH.L94_2.sel β t k = k (endA zH.L94_2.X zH.L94_2.eτ t).1 (endA zH.L94_2.X zH.L94_2.eτ t).2.1 (endA zH.L94_2.X zH.L94_2.eτ t).2.2 := by rcases t with t | t <;> rfl
theorem zH.L94_2.dσ_ok (d : List D) (x : List (List D) × Int × Int × Int × ByteArray × ByteArray) (h : zH.L94_2.dσ d = some x) : zH.L94_2.eσ x = d := by
  unfold zH.L94_2.dσ at h
  split at h <;> first | (cases h; rfl) | cases h
theorem zH.L94_2.dτ_ok (i : Nat) (d : List D) (t : (Int × ByteArray × ByteArray) ⊕ (Int × ByteArray × ByteArray)) (h : zH.L94_2.dτ i d = some t) : zH.L94_2.eτ t = (i, d) := by
  unfold zH.L94_2.dτ at h
  split at h <;> first | (cases h; rfl) | cases h
def zH.L94_2.S (K : Nat) (f47 : ByteArray → Option (Bool)) (f49 : ByteArray → Option (Bool)) (rec : (List (List D) × Int × Int × Int × ByteArray × ByteArray) → Option ((Int × ByteArray × ByteArray) ⊕ (Int × ByteArray × ByteArray))) (x0 : List (List D)) (x1 : Int) (x2 : Int) (x3 : Int) (x4 : ByteArray) (x5 : ByteArray) : Option ((Int × ByteArray × ByteArray) ⊕ (Int × ByteArray × ByteArray)) :=
  bif decide (x3 < x2) then if (0 : Int) ≤ x3 ∧ x3 < (↑x0.length : Int) then bif (D.at x0 x3.toNat (0 : Nat)).toStr.toList == x4.toList then some (Sum.inr (x3, x4, x5)) else rec (x0, x1, x2, IntKind.i64.wrap (x3 + (1 : Int)), x4, x5) else none else some (Sum.inl (x1, x4, x5))
set_option maxRecDepth 100000 in
theorem zH.L94_2.step (K : Nat) (f47 : ByteArray → Option (Bool)) (f49 : ByteArray → Option (Bool)) (rec : (List (List D) × Int × Int × Int × ByteArray × ByteArray) → Option ((Int × ByteArray × ByteArray) ⊕ (Int × ByteArray × ByteArray))) (x0 : List (List D)) (x1 : Int) (x2 : Int) (x3 : Int) (x4 : ByteArray) (x5 : ByteArray) : execA Tryz.prog lay (zH.Γ f47 f49) [] (inlA Tryz.prog lay (zH.Γ f47 f49) [(73, Tryz.f73, ⟨zH.J73, [], 0, none, none⟩)] 3) ⟨zH.J94, [], 0, none, none⟩ 1 (loopAt Tryz.f94 0) (bldS zH.L94_2.T (zH.L94_2.eσ (x0, x1, x2, x3, x4, x5))).1 (bldS zH.L94_2.T (zH.L94_2.eσ (x0, x1, x2, x3, x4, x5))).2 (contA zH.L94_2.T zH.L94_2.X zH.L94_2.dσ zH.L94_2.dτ rec) = zH.L94_2.S K f47 f49 rec x0 x1 x2 x3 x4 x5 := by kernel_rfl
def zH.L94_2 (K : Nat) (f47 : ByteArray → Option (Bool)) (f49 : ByteArray → Option (Bool)) : Nat → (List (List D) × Int × Int × Int × ByteArray × ByteArray) → Option ((Int × ByteArray × ByteArray) ⊕ (Int × ByteArray × ByteArray))
  | 0, _ => none
  | k + 1, x => zH.L94_2.S K f47 f49 (zH.L94_2 K f47 f49 k) x.1 x.2.1 x.2.2.1 x.2.2.2.1 x.2.2.2.2.1 x.2.2.2.2.2
theorem zH.L94_2.ok (K : Nat) (f47 : ByteArray → Option (Bool)) (f49 : ByteArray → Option (Bool)) {B : Nat} {wB : World} (stab_ : ∀ w', Bel B wB w' → GW w') (hΓ_ : AllOk Tryz.prog GW lay (zH.Γ f47 f49)) (Kr : Nat) : LSOk Tryz.prog lay B wB [] 1 (sumA zH.L94_2.T zH.L94_2.X zH.L94_2.dσ zH.L94_2.eτ zH.L94_2.sel zH.L94_2.sel_ok (zH.L94_2 K f47 f49 Kr)) (loopAt Tryz.f94 0) :=
  loop_mk (by kernel_rfl) hΓ_ stab_ (inlA_ok (by kernel_rfl) hΓ_ stab_ (in_app in_nil Tryz.func73 (fun args w => by kernel_rfl) rfl rfl (allL_of (l := []) (by kernel_rfl) allL_nil)) 3) (C := ⟨zH.J94, [], 0, none, none⟩) (allL_of (l := []) (by kernel_rfl) allL_nil) (by decide) (by decide) zH.L94_2.dσ_ok zH.L94_2.dτ_ok (fun _ => rfl) (fun k x => (zH.L94_2.step K f47 f49 (zH.L94_2 K f47 f49 k) x.1 x.2.1 x.2.2.1 x.2.2.2.1 x.2.2.2.2.1 x.2.2.2.2.2).symm) Kr
def zH.L2.T : TS := ⟨[.seq 52, .junk, .bool, .junk, .junk, .seq 52, .int .i64, .int .i64, .junk, .junk, .junk, .junk, .junk, .junk, .junk, .junk, .junk, .junk, .junk, .junk, .junk, .junk, .junk, .junk, .junk, .junk, .junk, .junk, .junk, .junk], [], 0, []⟩
def zH.L2.X0 : TS := ⟨[.junk, .junk, .bool, .junk, .junk, .junk, .junk, .junk, .junk, .junk, .junk, .junk, .junk, .junk, .junk, .junk, .junk, .junk, .junk, .junk, .junk, .junk, .junk, .junk, .junk, .junk, .junk, .junk, .junk, .junk], [], 0, []⟩
def zH.L2.X1 : TS := ⟨[.junk, .junk, .bool, .junk, .junk, .junk, .junk, .junk, .junk, .junk, .junk, .junk, .junk, .junk, .junk, .junk, .junk, .junk, .junk, .junk, .junk, .junk, .junk, .junk, .junk, .junk, .junk, .junk, .junk, .junk], [], 0, []⟩
def zH.L2.X : List (Exit × TS) := [(.exit 0, zH.L2.X0), (.ret, zH.L2.X1)]
def zH.L2.dσ : List D → Option (List (List D) × Bool × List (List D) × Int × Int)
  | [.seq x0, .bool x1, .seq x2, .int x3, .int x4] => some (x0, x1, x2, x3, x4)
  | _ => none
def zH.L2.eσ (x : List (List D) × Bool × List (List D) × Int × Int) : List D := [.seq x.1, .bool x.2.1, .seq x.2.2.1, .int x.2.2.2.1, .int x.2.2.2.2]
def zH.L2.dτ : Nat → List D → Option ((Bool) ⊕ (Bool))
  | 0, [.bool y0] => some (.inl y0)
  | 1, [.bool y0] => some (.inr y0)
  | _, _ => none
def zH.L2.eτ : (Bool) ⊕ (Bool) → Nat × List D
  | (.inl t) => (0, [.bool t])
  | (.inr t) => (1, [.bool t])
def zH.L2.sel (β : Type) (t : (Bool) ⊕ (Bool)) (k : Exit → Fr → Hp → Option β) : Option β := match t with
  | (.inl r) => k (.exit 0) (bldS zH.L2.X0 [.bool r]).1 (bldS zH.L2.X0 [.bool r]).2
  | (.inr r) => k (.ret) (bldS zH.L2.X1 [.bool r]).1 (bldS zH.L2.X1 [.bool r]).2
theorem zH.L2.sel_ok (β : Type) (t : (Bool) ⊕ (Bool)) (k : Exit → Fr → Hp → Option β) : zH.L2.sel β t k = k (endA zH.L2.X zH.L2.eτ t).1 (endA zH.L2.X zH.L2.eτ t).2.1 (endA zH.L2.X zH.L2.eτ t).2.2 := by rcases t with t | t <;> rfl
theorem zH.L2.dσ_ok (d : List D) (x : List (List D) × Bool × List (List D) × Int × Int) (h : zH.L2.dσ d = some x) : zH.L2.eσ x = d := by
  unfold zH.L2.dσ at h
  split at h <;> first | (cases h; rfl) | cases h
theorem zH.L2.dτ_ok (i : Nat) (d : List D) (t : (Bool) ⊕ (Bool)) (h : zH.L2.dτ i d = some t) : zH.L2.eτ t = (i, d) := by
  unfold zH.L2.dτ at h
  split at h <;> first | (cases h; rfl) | cases h
def zH.L2.S (K : Nat) (f47 : ByteArray → Option (Bool)) (f49 : ByteArray → Option (Bool)) (rec : (List (List D) × Bool × List (List D) × Int × Int) → Option ((Bool) ⊕ (Bool))) (x0 : List (List D)) (x1 : Bool) (x2 : List (List D)) (x3 : Int) (x4 : Int) : Option ((Bool) ⊕ (Bool)) :=
  bif decide (x4 < x3) then if (0 : Int) ≤ x4 ∧ x4 < (↑x2.length : Int) then (f47 (D.at x2 x4.toNat (0 : Nat)).toStr).bind fun v1 => bif !v1 then some (Sum.inr false) else (f49 (D.at x2 x4.toNat (1 : Nat)).toStr).bind fun v2 => bif !v2 then some (Sum.inr false) else if (0 : Int) ≤ x4 ∧ x4 ≤ (↑x0.length : Int) then if (0 : Int) ≤ (0 : Int) ∧ (0 : Int) ≤ x4 then (zH.L94_2 K f47 f49 K (List.drop (Int.toNat (0 : Int)) (List.take x4.toNat x0), (0 : Int), (↑(List.drop (Int.toNat (0 : Int)) (List.take x4.toNat x0)).length : Int), (0 : Int), (D.at x2 x4.toNat (0 : Nat)).toStr, (D.at x2 x4.toNat (1 : Nat)).toStr)).bind fun v3 => Sum.elim (fun v4 => rec (x0, x1, x2, x3, IntKind.i64.wrap (x4 + (1 : Int)))) (fun v5 => bif decide (v5.fst ≥ (0 : Int)) then some (Sum.inr false) else rec (x0, x1, x2, x3, IntKind.i64.wrap (x4 + (1 : Int)))) v3 else none else none else none else some (Sum.inl x1)
set_option maxRecDepth 100000 in
theorem zH.L2.step (K : Nat) (f47 : ByteArray → Option (Bool)) (f49 : ByteArray → Option (Bool)) (rec : (List (List D) × Bool × List (List D) × Int × Int) → Option ((Bool) ⊕ (Bool))) (x0 : List (List D)) (x1 : Bool) (x2 : List (List D)) (x3 : Int) (x4 : Int) : execA Tryz.prog lay (zH.Γ f47 f49) [] (inlA Tryz.prog lay (zH.Γ f47 f49) [(73, Tryz.f73, ⟨zH.J73, [], 0, none, none⟩), (94, Tryz.f94, ⟨zH.J94, [(2, 1, sumA zH.L94_2.T zH.L94_2.X zH.L94_2.dσ zH.L94_2.eτ zH.L94_2.sel zH.L94_2.sel_ok (zH.L94_2 K f47 f49 K))], 0, none, none⟩), (72, Tryz.f72, ⟨zH.J72, [], 0, none, none⟩)] 3) ⟨zH.J48, [], 0, none, none⟩ 0 (loopAt Tryz.f48 0) (bldS zH.L2.T (zH.L2.eσ (x0, x1, x2, x3, x4))).1 (bldS zH.L2.T (zH.L2.eσ (x0, x1, x2, x3, x4))).2 (contA zH.L2.T zH.L2.X zH.L2.dσ zH.L2.dτ rec) = zH.L2.S K f47 f49 rec x0 x1 x2 x3 x4 := by kernel_rfl
def zH.L2 (K : Nat) (f47 : ByteArray → Option (Bool)) (f49 : ByteArray → Option (Bool)) : Nat → (List (List D) × Bool × List (List D) × Int × Int) → Option ((Bool) ⊕ (Bool))
  | 0, _ => none
  | k + 1, x => zH.L2.S K f47 f49 (zH.L2 K f47 f49 k) x.1 x.2.1 x.2.2.1 x.2.2.2.1 x.2.2.2.2
theorem zH.L2.ok (K : Nat) (f47 : ByteArray → Option (Bool)) (f49 : ByteArray → Option (Bool)) {B : Nat} {wB : World} (stab_ : ∀ w', Bel B wB w' → GW w') (hΓ_ : AllOk Tryz.prog GW lay (zH.Γ f47 f49)) (Kr : Nat) : LSOk Tryz.prog lay B wB [] 0 (sumA zH.L2.T zH.L2.X zH.L2.dσ zH.L2.eτ zH.L2.sel zH.L2.sel_ok (zH.L2 K f47 f49 Kr)) (loopAt Tryz.f48 0) :=
  loop_mk (by kernel_rfl) hΓ_ stab_ (inlA_ok (by kernel_rfl) hΓ_ stab_ (in_app (in_app (in_app in_nil Tryz.func73 (fun args w => by kernel_rfl) rfl rfl (allL_of (l := []) (by kernel_rfl) allL_nil)) Tryz.func94 (fun args w => by kernel_rfl) rfl rfl (allL_of (l := [loopAt Tryz.f94 0]) (by kernel_rfl) (allL_cons (by kernel_rfl) (zH.L94_2.ok K f47 f49 stab_ hΓ_ K) allL_nil))) Tryz.func72 (fun args w => by kernel_rfl) rfl rfl (allL_of (l := []) (by kernel_rfl) allL_nil)) 3) (C := ⟨zH.J48, [], 0, none, none⟩) (allL_of (l := []) (by kernel_rfl) allL_nil) (by decide) (by decide) zH.L2.dσ_ok zH.L2.dτ_ok (fun _ => rfl) (fun k x => (zH.L2.step K f47 f49 (zH.L2 K f47 f49 k) x.1 x.2.1 x.2.2.1 x.2.2.2.1 x.2.2.2.2).symm) Kr
def zH.t (K : Nat) (f47 : ByteArray → Option (Bool)) (f49 : ByteArray → Option (Bool)) (a0 : List (List D)) : Option (Bool) :=
  (zH.L2 K f47 f49 K (a0, false, a0, (↑a0.length : Int), (0 : Int))).bind fun v1 => Sum.elim (fun v2 => some true) (fun v3 => some v3) v1
set_option maxRecDepth 100000 in
theorem zH.run (K : Nat) (f47 : ByteArray → Option (Bool)) (f49 : ByteArray → Option (Bool)) (a0 : List (List D)) : runA Tryz.prog lay (zH.Γ f47 f49) [] [(73, Tryz.f73, ⟨zH.J73, [], 0, none, none⟩), (94, Tryz.f94, ⟨zH.J94, [(2, 1, sumA zH.L94_2.T zH.L94_2.X zH.L94_2.dσ zH.L94_2.eτ zH.L94_2.sel zH.L94_2.sel_ok (zH.L94_2 K f47 f49 K))], 0, none, none⟩), (72, Tryz.f72, ⟨zH.J72, [], 0, none, none⟩)] 3 ⟨zH.J48, [(2, 0, sumA zH.L2.T zH.L2.X zH.L2.dσ zH.L2.eτ zH.L2.sel zH.L2.sel_ok (zH.L2 K f47 f49 K))], 0, none, none⟩ Tryz.f48 [.seq 52 a0] [] [.one (.bool)] zH.dec = zH.t K f47 f49 a0 := by kernel_rfl
def zH.f (k : Nat) (a0 : List (List D)) : Option (Bool) := zH.t k (zV.f k) (zW.f k) a0
theorem zH.allOk (k : Nat) : AllOk Tryz.prog GW lay (zH.Γ (zV.f k) (zW.f k)) := (allOk_cons (zV.ok k) (allOk_cons (zW.ok k) allOk_nil))
theorem zH.ok (k : Nat) : CEOk Tryz.prog GW lay 48 (zH.ce (zH.f k)) := by
  have hΓ_ := zH.allOk k
  exact tells_mk (by kernel_rfl) hΓ_ Tryz.func48 (fun args w => by kernel_rfl) (fun w w' h hb => h.step hb) no_globals (fun B wB stab_ => (in_app (in_app (in_app in_nil Tryz.func73 (fun args w => by kernel_rfl) rfl rfl (allL_of (l := []) (by kernel_rfl) allL_nil)) Tryz.func94 (fun args w => by kernel_rfl) rfl rfl (allL_of (l := [loopAt Tryz.f94 0]) (by kernel_rfl) (allL_cons (by kernel_rfl) (zH.L94_2.ok k (zV.f k) (zW.f k) stab_ hΓ_ k) allL_nil))) Tryz.func72 (fun args w => by kernel_rfl) rfl rfl (allL_of (l := []) (by kernel_rfl) allL_nil))) (C := ⟨zH.J48, [(2, 0, sumA zH.L2.T zH.L2.X zH.L2.dσ zH.L2.eτ zH.L2.sel zH.L2.sel_ok (zH.L2 k (zV.f k) (zW.f k) k))], 0, none, none⟩) (fun B wB stab_ => bodyL (allL_of (l := [loopAt Tryz.f48 0]) (by kernel_rfl) (allL_cons (by kernel_rfl) (zH.L2.ok k (zV.f k) (zW.f k) stab_ hΓ_ k) allL_nil))) (fun args τ x out sel ok r hs hx => by
    unfold zH.tells at hs
    split at hs
    · rename_i a0
      cases hs
      unfold zH.f at hx
      have hr_ := zH.run k (zV.f k) (zW.f k) a0
      rw [hx] at hr_
      exact ⟨rfl, zH.out_free _, 3, [.one (.bool)], zH.dec, hr_, fun res h => zH.dec_ok res _ h⟩
    · cases hs)
def zY.out (r : Bool) : Res := .ret (.bool r)
def zY.dec : Res → Option (Bool)
  | .ret (.bool y0) => some y0
  | _ => none
theorem zY.out_free (r : Bool) : (zY.out r).free = true := rfl
def zY.sel (β : Type) (r : Bool) (k : Res → Option β) : Option β := k (.ret (.bool r))
theorem zY.sel_ok (β : Type) (t : Bool) (k : Res → Option β) : zY.sel β t k = k (zY.out t) := rfl
theorem zY.dec_ok (res : Res) (r : Bool) (h : zY.dec res = some r) : res = zY.out r := by
  unfold zY.dec at h
  split at h <;> first | (cases h; rfl) | cases h
def zY.tells (f : ByteArray → (List (List D)) → ByteArray → (List (List D)) → Int → Option (Bool)) : Tells
  | [.agg [.str a0, .seq 52 a1, .str a2, .seq 27 a3], .int .i64 a4] => some (.mk (Bool) (f a0 a1 a2 a3 a4) zY.out zY.sel zY.sel_ok)
  | _ => none
def zY.ce (f : ByteArray → (List (List D)) → ByteArray → (List (List D)) → Int → Option (Bool)) : CE := ⟨[.agg [.str, .seq 52, .str, .seq 27], .one (.int .i64)], .flat, zY.tells f⟩
def zY.Γ (f35 : ByteArray → (List (List D)) → ByteArray → (List (List D)) → Int → Option (Bool)) (f47 : ByteArray → Option (Bool)) (f48 : (List (List D)) → Option (Bool)) (f49 : ByteArray → Option (Bool)) : List (Nat × CE) := [(35, zY.ce f35), (47, zV.ce f47), (48, zH.ce f48), (49, zW.ce f49)]
def zY.J35 : List (Nat × List Nat) := [(1, [5, 6, 7, 8, 9, 10, 11, 12, 13, 14, 15, 16, 17, 18, 19, 20, 21, 22, 23, 24, 25, 26, 27, 28, 29, 30, 31, 32, 33, 34]), (3, [36, 37, 38, 39, 40]), (1000035, [35])]
def zY.J51 : List (Nat × List Nat) := [(1, [4, 5, 6, 7, 8])]
def zY.J76 : List (Nat × List Nat) := [(1, [6]), (3, [10]), (4, [11, 12, 13, 14, 15]), (5, [17]), (6, [18]), (1000009, [9]), (1000016, [16])]
def zY.J50 : List (Nat × List Nat) := [(1, [5, 6, 7, 8])]
def zY.L76_2.T : TS := ⟨[.seq 27, .fn 51 [] [.ptr 1 0], .junk, .junk, .int .i64, .junk, .junk, .int .i64, .int .i64, .junk, .junk, .junk, .junk, .junk, .junk, .junk, .junk, .junk, .junk], [.cells 27 [.str, .seq 52, .str, .seq 27] .own, .cells 3 [.int .i64] .own], 2, []⟩
def zY.L76_2.X0 : TS := ⟨[.junk, .junk, .junk, .junk, .int .i64, .junk, .junk, .junk, .junk, .junk, .junk, .junk, .junk, .junk, .junk, .junk, .junk, .junk, .junk], [.cells 27 [.str, .seq 52, .str, .seq 27] .own, .cells 3 [.int .i64] .own], 2, []⟩
def zY.L76_2.X1 : TS := ⟨[.junk, .junk, .junk, .junk, .int .i64, .junk, .junk, .junk, .junk, .junk, .junk, .junk, .junk, .junk, .junk, .junk, .junk, .junk, .junk], [.cells 27 [.str, .seq 52, .str, .seq 27] .own, .cells 3 [.int .i64] .own], 2, []⟩
def zY.L76_2.X : List (Exit × TS) := [(.exit 0, zY.L76_2.X0), (.ret, zY.L76_2.X1)]
def zY.L76_2.dσ : List D → Option (List (List D) × Int × Int × Int × ByteArray × List (List D) × ByteArray × List (List D) × Int)
  | [.seq x0, .int x1, .int x2, .int x3, .str x4, .seq x5, .str x6, .seq x7, .int x8] => some (x0, x1, x2, x3, x4, x5, x6, x7, x8)
  | _ => none
def zY.L76_2.eσ (x : List (List D) × Int × Int × Int × ByteArray × List (List D) × ByteArray × List (List D) × Int) : List D := [.seq x.1, .int x.2.1, .int x.2.2.1, .int x.2.2.2.1, .str x.2.2.2.2.1, .seq x.2.2.2.2.2.1, .str x.2.2.2.2.2.2.1, .seq x.2.2.2.2.2.2.2.1, .int x.2.2.2.2.2.2.2.2]
def zY.L76_2.dτ : Nat → List D → Option ((Int × ByteArray × List (List D) × ByteArray × List (List D) × Int) ⊕ (Int × ByteArray × List (List D) × ByteArray × List (List D) × Int))
  | 0, [.int y0, .str y1, .seq y2, .str y3, .seq y4, .int y5] => some (.inl (y0, y1, y2, y3, y4, y5))
  | 1, [.int y0, .str y1, .seq y2, .str y3, .seq y4, .int y5] => some (.inr (y0, y1, y2, y3, y4, y5))
  | _, _ => none
def zY.L76_2.eτ : (Int × ByteArray × List (List D) × ByteArray × List (List D) × Int) ⊕ (Int × ByteArray × List (List D) × ByteArray × List (List D) × Int) → Nat × List D
  | (.inl t) => (0, [.int t.1, .str t.2.1, .seq t.2.2.1, .str t.2.2.2.1, .seq t.2.2.2.2.1, .int t.2.2.2.2.2])
  | (.inr t) => (1, [.int t.1, .str t.2.1, .seq t.2.2.1, .str t.2.2.2.1, .seq t.2.2.2.2.1, .int t.2.2.2.2.2])
def zY.L76_2.sel (β : Type) (t : (Int × ByteArray × List (List D) × ByteArray × List (List D) × Int) ⊕ (Int × ByteArray × List (List D) × ByteArray × List (List D) × Int)) (k : Exit → Fr → Hp → Option β) : Option β := match t with
  | (.inl r) => k (.exit 0) (bldS zY.L76_2.X0 [.int r.1, .str r.2.1, .seq r.2.2.1, .str r.2.2.2.1, .seq r.2.2.2.2.1, .int r.2.2.2.2.2]).1 (bldS zY.L76_2.X0 [.int r.1, .str r.2.1, .seq r.2.2.1, .str r.2.2.2.1, .seq r.2.2.2.2.1, .int r.2.2.2.2.2]).2
  | (.inr r) => k (.ret) (bldS zY.L76_2.X1 [.int r.1, .str r.2.1, .seq r.2.2.1, .str r.2.2.2.1, .seq r.2.2.2.2.1, .int r.2.2.2.2.2]).1 (bldS zY.L76_2.X1 [.int r.1, .str r.2.1, .seq r.2.2.1, .str r.2.2.2.1, .seq r.2.2.2.2.1, .int r.2.2.2.2.2]).2
theorem zY.L76_2.sel_ok (β : Type) (t : (Int × ByteArray × List (List D) × ByteArray × List (List D) × Int) ⊕ (Int × ByteArray × List (List D) × ByteArray × List (List D) × Int)) (k : Exit → Fr → Hp → Option β) : zY.L76_2.sel β t k = k (endA zY.L76_2.X zY.L76_2.eτ t).1 (endA zY.L76_2.X zY.L76_2.eτ t).2.1 (endA zY.L76_2.X zY.L76_2.eτ t).2.2 := by rcases t with t | t <;> rfl
theorem zY.L76_2.dσ_ok (d : List D) (x : List (List D) × Int × Int × Int × ByteArray × List (List D) × ByteArray × List (List D) × Int) (h : zY.L76_2.dσ d = some x) : zY.L76_2.eσ x = d := by
  unfold zY.L76_2.dσ at h
  split at h <;> first | (cases h; rfl) | cases h
theorem zY.L76_2.dτ_ok (i : Nat) (d : List D) (t : (Int × ByteArray × List (List D) × ByteArray × List (List D) × Int) ⊕ (Int × ByteArray × List (List D) × ByteArray × List (List D) × Int)) (h : zY.L76_2.dτ i d = some t) : zY.L76_2.eτ t = (i, d) := by
  unfold zY.L76_2.dτ at h
  split at h <;> first | (cases h; rfl) | cases h
def zY.L76_2.S (K : Nat) (f35 : ByteArray → (List (List D)) → ByteArray → (List (List D)) → Int → Option (Bool)) (f47 : ByteArray → Option (Bool)) (f48 : (List (List D)) → Option (Bool)) (f49 : ByteArray → Option (Bool)) (rec : (List (List D) × Int × Int × Int × ByteArray × List (List D) × ByteArray × List (List D) × Int) → Option ((Int × ByteArray × List (List D) × ByteArray × List (List D) × Int) ⊕ (Int × ByteArray × List (List D) × ByteArray × List (List D) × Int))) (x0 : List (List D)) (x1 : Int) (x2 : Int) (x3 : Int) (x4 : ByteArray) (x5 : List (List D)) (x6 : ByteArray) (x7 : List (List D)) (x8 : Int) : Option ((Int × ByteArray × List (List D) × ByteArray × List (List D) × Int) ⊕ (Int × ByteArray × List (List D) × ByteArray × List (List D) × Int)) :=
  bif decide (x3 < x2) then if (0 : Int) ≤ x3 ∧ x3 < (↑x0.length : Int) then (f35 (D.at x0 x3.toNat (0 : Nat)).toStr (D.at x0 x3.toNat (1 : Nat)).toSeq (D.at x0 x3.toNat (2 : Nat)).toStr (D.at x0 x3.toNat (3 : Nat)).toSeq (IntKind.i64.wrap (x8 - (1 : Int)))).bind fun v1 => bif !v1 then some (Sum.inr (x3, x4, x5, x6, x7, x8)) else rec (x0, x1, x2, IntKind.i64.wrap (x3 + (1 : Int)), x4, x5, x6, x7, x8) else none else some (Sum.inl (x1, x4, x5, x6, x7, x8))
set_option maxRecDepth 100000 in
theorem zY.L76_2.step (K : Nat) (f35 : ByteArray → (List (List D)) → ByteArray → (List (List D)) → Int → Option (Bool)) (f47 : ByteArray → Option (Bool)) (f48 : (List (List D)) → Option (Bool)) (f49 : ByteArray → Option (Bool)) (rec : (List (List D) × Int × Int × Int × ByteArray × List (List D) × ByteArray × List (List D) × Int) → Option ((Int × ByteArray × List (List D) × ByteArray × List (List D) × Int) ⊕ (Int × ByteArray × List (List D) × ByteArray × List (List D) × Int))) (x0 : List (List D)) (x1 : Int) (x2 : Int) (x3 : Int) (x4 : ByteArray) (x5 : List (List D)) (x6 : ByteArray) (x7 : List (List D)) (x8 : Int) : execA Tryz.prog lay (zY.Γ f35 f47 f48 f49) [] (inlA Tryz.prog lay (zY.Γ f35 f47 f48 f49) [(51, Tryz.f51, ⟨zY.J51, [], 0, none, none⟩)] 3) ⟨zY.J76, [], 0, none, none⟩ 2 (loopAt Tryz.f76 0) (bldS zY.L76_2.T (zY.L76_2.eσ (x0, x1, x2, x3, x4, x5, x6, x7, x8))).1 (bldS zY.L76_2.T (zY.L76_2.eσ (x0, x1, x2, x3, x4, x5, x6, x7, x8))).2 (contA zY.L76_2.T zY.L76_2.X zY.L76_2.dσ zY.L76_2.dτ rec) = zY.L76_2.S K f35 f47 f48 f49 rec x0 x1 x2 x3 x4 x5 x6 x7 x8 := by kernel_rfl
def zY.L76_2 (K : Nat) (f35 : ByteArray → (List (List D)) → ByteArray → (List (List D)) → Int → Option (Bool)) (f47 : ByteArray → Option (Bool)) (f48 : (List (List D)) → Option (Bool)) (f49 : ByteArray → Option (Bool)) : Nat → (List (List D) × Int × Int × Int × ByteArray × List (List D) × ByteArray × List (List D) × Int) → Option ((Int × ByteArray × List (List D) × ByteArray × List (List D) × Int) ⊕ (Int × ByteArray × List (List D) × ByteArray × List (List D) × Int))
  | 0, _ => none
  | k + 1, x => zY.L76_2.S K f35 f47 f48 f49 (zY.L76_2 K f35 f47 f48 f49 k) x.1 x.2.1 x.2.2.1 x.2.2.2.1 x.2.2.2.2.1 x.2.2.2.2.2.1 x.2.2.2.2.2.2.1 x.2.2.2.2.2.2.2.1 x.2.2.2.2.2.2.2.2
theorem zY.L76_2.ok (K : Nat) (f35 : ByteArray → (List (List D)) → ByteArray → (List (List D)) → Int → Option (Bool)) (f47 : ByteArray → Option (Bool)) (f48 : (List (List D)) → Option (Bool)) (f49 : ByteArray → Option (Bool)) {B : Nat} {wB : World} (stab_ : ∀ w', Bel B wB w' → GW w') (hΓ_ : AllOk Tryz.prog GW lay (zY.Γ f35 f47 f48 f49)) (Kr : Nat) : LSOk Tryz.prog lay B wB [] 2 (sumA zY.L76_2.T zY.L76_2.X zY.L76_2.dσ zY.L76_2.eτ zY.L76_2.sel zY.L76_2.sel_ok (zY.L76_2 K f35 f47 f48 f49 Kr)) (loopAt Tryz.f76 0) :=
  loop_mk (by kernel_rfl) hΓ_ stab_ (inlA_ok (by kernel_rfl) hΓ_ stab_ (in_app in_nil Tryz.func51 (fun args w => by kernel_rfl) rfl rfl (allL_of (l := []) (by kernel_rfl) allL_nil)) 3) (C := ⟨zY.J76, [], 0, none, none⟩) (allL_of (l := []) (by kernel_rfl) allL_nil) (by decide) (by decide) zY.L76_2.dσ_ok zY.L76_2.dτ_ok (fun _ => rfl) (fun k x => (zY.L76_2.step K f35 f47 f48 f49 (zY.L76_2 K f35 f47 f48 f49 k) x.1 x.2.1 x.2.2.1 x.2.2.2.1 x.2.2.2.2.1 x.2.2.2.2.2.1 x.2.2.2.2.2.2.1 x.2.2.2.2.2.2.2.1 x.2.2.2.2.2.2.2.2).symm) Kr
def zY.t.J1 (K : Nat) (f35 : ByteArray → List (List D) → ByteArray → List (List D) → Int → Option Bool) (f47 : ByteArray → Option Bool) (f48 : List (List D) → Option Bool) (f49 : ByteArray → Option Bool) (a0 : ByteArray) (a1 : List (List D)) (a2 : ByteArray) (a3 : List (List D)) (a4 : Int) : Option (Bool) :=
  (zY.L76_2 K f35 f47 f48 f49 K (a3, (0 : Int), (↑a3.length : Int), (0 : Int), a0, a1, a2, a3, a4)).bind fun v4 => Sum.elim (fun v5 => some !decide ((-1 : Int) ≥ (0 : Int))) (fun v6 => some !decide (v6.fst ≥ (0 : Int))) v4
def zY.t (K : Nat) (f35 : ByteArray → (List (List D)) → ByteArray → (List (List D)) → Int → Option (Bool)) (f47 : ByteArray → Option (Bool)) (f48 : (List (List D)) → Option (Bool)) (f49 : ByteArray → Option (Bool)) (a0 : ByteArray) (a1 : List (List D)) (a2 : ByteArray) (a3 : List (List D)) (a4 : Int) : Option (Bool) :=
  bif a4 == (0 : Int) then some false else (f47 a0).bind fun v1 => bif !v1 then some false else (f48 a1).bind fun v2 => bif !v2 then some false else (f49 a2).bind fun v3 => bif !v3 then some false else bif !a2.toList == (ByteArray.mk #[]).toList then bif decide ((↑a3.length : Int) > (0 : Int)) then some false else zY.t.J1 K f35 f47 f48 f49 a0 a1 a2 a3 a4 else zY.t.J1 K f35 f47 f48 f49 a0 a1 a2 a3 a4
set_option maxRecDepth 100000 in
theorem zY.run (K : Nat) (f35 : ByteArray → (List (List D)) → ByteArray → (List (List D)) → Int → Option (Bool)) (f47 : ByteArray → Option (Bool)) (f48 : (List (List D)) → Option (Bool)) (f49 : ByteArray → Option (Bool)) (a0 : ByteArray) (a1 : List (List D)) (a2 : ByteArray) (a3 : List (List D)) (a4 : Int) : runA Tryz.prog lay (zY.Γ f35 f47 f48 f49) [] [(51, Tryz.f51, ⟨zY.J51, [], 0, none, none⟩), (76, Tryz.f76, ⟨zY.J76, [(2, 2, sumA zY.L76_2.T zY.L76_2.X zY.L76_2.dσ zY.L76_2.eτ zY.L76_2.sel zY.L76_2.sel_ok (zY.L76_2 K f35 f47 f48 f49 K))], 0, none, none⟩), (50, Tryz.f50, ⟨zY.J50, [], 0, none, none⟩)] 3 ⟨zY.J35, [], 0, none, none⟩ Tryz.f35 [.agg [.str a0, .seq 52 a1, .str a2, .seq 27 a3], .int .i64 a4] [] [.one (.bool)] zY.dec = zY.t K f35 f47 f48 f49 a0 a1 a2 a3 a4 := by kernel_rfl
def zY.f : Nat → ByteArray → (List (List D)) → ByteArray → (List (List D)) → Int → Option (Bool)
  | 0, _, _, _, _, _ => none
  | k + 1, a0, a1, a2, a3, a4 => zY.t k (zY.f k) (zV.f k) (zH.f k) (zW.f k) a0 a1 a2 a3 a4
theorem zY.ok : ∀ k : Nat, CEOk Tryz.prog GW lay 35 (zY.ce (zY.f k))
  | 0 => ⟨fun args w => by kernel_rfl, fun args τ x out sel ok r hs hx => by
      unfold zY.ce zY.tells at hs
      simp only at hs
      split at hs
      · cases hs; cases hx
      · cases hs⟩
  | k + 1 => by
    have ih := zY.ok k
    have hΓ_ : AllOk Tryz.prog GW lay (zY.Γ (zY.f k) (zV.f k) (zH.f k) (zW.f k)) := (allOk_cons ih (allOk_cons (zV.ok k) (allOk_cons (zH.ok k) (allOk_cons (zW.ok k) allOk_nil))))
    exact tells_mk (by kernel_rfl) hΓ_ Tryz.func35 (fun args w => by kernel_rfl) (fun w w' h hb => h.step hb) no_globals (fun B wB stab_ => (in_app (in_app (in_app in_nil Tryz.func51 (fun args w => by kernel_rfl) rfl rfl (allL_of (l := []) (by kernel_rfl) allL_nil)) Tryz.func76 (fun args w => by kernel_rfl) rfl rfl (allL_of (l := [loopAt Tryz.f76 0]) (by kernel_rfl) (allL_cons (by kernel_rfl) (zY.L76_2.ok k (zY.f k) (zV.f k) (zH.f k) (zW.f k) stab_ hΓ_ k) allL_nil))) Tryz.func50 (fun args w => by kernel_rfl) rfl rfl (allL_of (l := []) (by kernel_rfl) allL_nil))) (C := ⟨zY.J35, [], 0, none, none⟩) (fun B wB stab_ => bodyL (allL_of (l := []) (by kernel_rfl) allL_nil)) (fun args τ x out sel ok r hs hx => by
    unfold zY.tells at hs
    split at hs
    · cases hs
      exact ⟨rfl, zY.out_free _, 3, [.one (.bool)], zY.dec, (zY.run k (zY.f k) (zV.f k) (zH.f k) (zW.f k) _ _ _ _ _).trans hx, fun res h => zY.dec_ok res _ h⟩
    · cases hs)
def yC.out (r : Bool) : Res := .ret (.bool r)
def yC.dec : Res → Option (Bool)
  | .ret (.bool y0) => some y0
  | _ => none
theorem yC.out_free (r : Bool) : (yC.out r).free = true := rfl
def yC.sel (β : Type) (r : Bool) (k : Res → Option β) : Option β := k (.ret (.bool r))
theorem yC.sel_ok (β : Type) (t : Bool) (k : Res → Option β) : yC.sel β t k = k (yC.out t) := rfl
theorem yC.dec_ok (res : Res) (r : Bool) (h : yC.dec res = some r) : res = yC.out r := by
  unfold yC.dec at h
  split at h <;> first | (cases h; rfl) | cases h
def yC.tells (f : ByteArray → (List (List D)) → ByteArray → (List (List D)) → Option (Bool)) : Tells
  | [.agg [.str a0, .seq 52 a1, .str a2, .seq 27 a3]] => some (.mk (Bool) (f a0 a1 a2 a3) yC.out yC.sel yC.sel_ok)
  | _ => none
def yC.ce (f : ByteArray → (List (List D)) → ByteArray → (List (List D)) → Option (Bool)) : CE := ⟨[.agg [.str, .seq 52, .str, .seq 27]], .flat, yC.tells f⟩
def yC.Γ (f35 : ByteArray → (List (List D)) → ByteArray → (List (List D)) → Int → Option (Bool)) : List (Nat × CE) := [(35, zY.ce f35)]
def yC.J18 : List (Nat × List Nat) := [(1, [3, 4])]
def yC.t (K : Nat) (f35 : ByteArray → (List (List D)) → ByteArray → (List (List D)) → Int → Option (Bool)) (a0 : ByteArray) (a1 : List (List D)) (a2 : ByteArray) (a3 : List (List D)) : Option (Bool) :=
  (f35 a0 a1 a2 a3 (40 : Int)).bind fun v1 => some v1
set_option maxRecDepth 100000 in
theorem yC.run (K : Nat) (f35 : ByteArray → (List (List D)) → ByteArray → (List (List D)) → Int → Option (Bool)) (a0 : ByteArray) (a1 : List (List D)) (a2 : ByteArray) (a3 : List (List D)) : runA Tryz.prog lay (yC.Γ f35) [] [] 3 ⟨yC.J18, [], 0, none, none⟩ Tryz.f18 [.agg [.str a0, .seq 52 a1, .str a2, .seq 27 a3]] [] [.one (.bool)] yC.dec = yC.t K f35 a0 a1 a2 a3 := by kernel_rfl
def yC.f (k : Nat) (a0 : ByteArray) (a1 : List (List D)) (a2 : ByteArray) (a3 : List (List D)) : Option (Bool) := yC.t k (zY.f k) a0 a1 a2 a3
theorem yC.allOk (k : Nat) : AllOk Tryz.prog GW lay (yC.Γ (zY.f k)) := (allOk_cons (zY.ok k) allOk_nil)
theorem yC.ok (k : Nat) : CEOk Tryz.prog GW lay 18 (yC.ce (yC.f k)) := by
  have hΓ_ := yC.allOk k
  exact tells_mk (by kernel_rfl) hΓ_ Tryz.func18 (fun args w => by kernel_rfl) (fun w w' h hb => h.step hb) no_globals (fun B wB stab_ => in_nil) (C := ⟨yC.J18, [], 0, none, none⟩) (fun B wB stab_ => bodyL (allL_of (l := []) (by kernel_rfl) allL_nil)) (fun args τ x out sel ok r hs hx => by
    unfold yC.tells at hs
    split at hs
    · rename_i a0 a1 a2 a3
      cases hs
      unfold yC.f at hx
      have hr_ := yC.run k (zY.f k) a0 a1 a2 a3
      rw [hx] at hr_
      exact ⟨rfl, yC.out_free _, 3, [.one (.bool)], yC.dec, hr_, fun res h => yC.dec_ok res _ h⟩
    · cases hs)
def zJ.out (r : Bool) : Res := .ret (.bool r)
def zJ.dec : Res → Option (Bool)
  | .ret (.bool y0) => some y0
  | _ => none
theorem zJ.out_free (r : Bool) : (zJ.out r).free = true := rfl
def zJ.sel (β : Type) (r : Bool) (k : Res → Option β) : Option β := k (.ret (.bool r))
theorem zJ.sel_ok (β : Type) (t : Bool) (k : Res → Option β) : zJ.sel β t k = k (zJ.out t) := rfl
theorem zJ.dec_ok (res : Res) (r : Bool) (h : zJ.dec res = some r) : res = zJ.out r := by
  unfold zJ.dec at h
  split at h <;> first | (cases h; rfl) | cases h
def zJ.tells (f : ByteArray → (List (List D)) → ByteArray → (List (List D)) → ByteArray → (List (List D)) → ByteArray → (List (List D)) → Option (Bool)) : Tells
  | [.agg [.str a0, .seq 52 a1, .str a2, .seq 27 a3], .agg [.str a4, .seq 52 a5, .str a6, .seq 27 a7]] => some (.mk (Bool) (f a0 a1 a2 a3 a4 a5 a6 a7) zJ.out zJ.sel zJ.sel_ok)
  | _ => none
def zJ.ce (f : ByteArray → (List (List D)) → ByteArray → (List (List D)) → ByteArray → (List (List D)) → ByteArray → (List (List D)) → Option (Bool)) : CE := ⟨[.agg [.str, .seq 52, .str, .seq 27], .agg [.str, .seq 52, .str, .seq 27]], .flat, zJ.tells f⟩
def zJ.Γ (f20 : ByteArray → (List (List D)) → ByteArray → (List (List D)) → ByteArray → (List (List D)) → ByteArray → (List (List D)) → Option (Bool)) : List (Nat × CE) := [(20, zJ.ce f20)]
def zJ.J20 : List (Nat × List Nat) := [(1, [5, 6, 7, 8, 9, 10, 11, 12, 13, 14, 15, 16, 17, 18, 19, 20, 21, 22, 23, 24, 25, 26, 27, 28, 29, 30])]
def zJ.J37 : List (Nat × List Nat) := [(1, [6, 7, 8, 9]), (3, [11]), (5, [15]), (6, [16, 17, 18, 19, 20, 21, 22, 23]), (8, [25]), (1000010, [10]), (1000014, [14]), (1000024, [24])]
def zJ.J38 : List (Nat × List Nat) := [(1, [10, 11, 12, 13]), (5, [19, 20, 21]), (6, [22, 23, 24, 25]), (7, [26, 27, 28, 29]), (9, [31]), (1000014, [14]), (1000018, [18]), (1000030, [30])]
def zJ.L37_4.T : TS := ⟨[.seq 52, .seq 52, .junk, .junk, .bool, .junk, .junk, .junk, .junk, .junk, .junk, .junk, .int .i64, .int .i64, .junk, .junk, .junk, .junk, .junk, .junk, .junk, .junk, .junk, .junk, .junk, .junk], [.cells 27 [.str, .seq 52, .str, .seq 27] .own, .cells 27 [.str, .seq 52, .str, .seq 27] .own], 2, []⟩
def zJ.L37_4.X0 : TS := ⟨[.junk, .junk, .junk, .junk, .bool, .junk, .junk, .junk, .junk, .junk, .junk, .junk, .junk, .junk, .junk, .junk, .junk, .junk, .junk, .junk, .junk, .junk, .junk, .junk, .junk, .junk], [.cells 27 [.str, .seq 52, .str, .seq 27] .own, .cells 27 [.str, .seq 52, .str, .seq 27] .own], 2, []⟩
def zJ.L37_4.X1 : TS := ⟨[.junk, .junk, .junk, .junk, .bool, .junk, .junk, .junk, .junk, .junk, .junk, .junk, .junk, .junk, .junk, .junk, .junk, .junk, .junk, .junk, .junk, .junk, .junk, .junk, .junk, .junk], [.cells 27 [.str, .seq 52, .str, .seq 27] .own, .cells 27 [.str, .seq 52, .str, .seq 27] .own], 2, []⟩
def zJ.L37_4.X : List (Exit × TS) := [(.exit 0, zJ.L37_4.X0), (.ret, zJ.L37_4.X1)]
def zJ.L37_4.dσ : List D → Option (List (List D) × List (List D) × Bool × Int × Int × ByteArray × List (List D) × ByteArray × List (List D) × ByteArray × List (List D) × ByteArray × List (List D))
  | [.seq x0, .seq x1, .bool x2, .int x3, .int x4, .str x5, .seq x6, .str x7, .seq x8, .str x9, .seq x10, .str x11, .seq x12] => some (x0, x1, x2, x3, x4, x5, x6, x7, x8, x9, x10, x11, x12)
  | _ => none
def zJ.L37_4.eσ (x : List (List D) × List (List D) × Bool × Int × Int × ByteArray × List (List D) × ByteArray × List (List D) × ByteArray × List (List D) × ByteArray × List (List D)) : List D := [.seq x.1, .seq x.2.1, .bool x.2.2.1, .int x.2.2.2.1, .int x.2.2.2.2.1, .str x.2.2.2.2.2.1, .seq x.2.2.2.2.2.2.1, .str x.2.2.2.2.2.2.2.1, .seq x.2.2.2.2.2.2.2.2.1, .str x.2.2.2.2.2.2.2.2.2.1, .seq x.2.2.2.2.2.2.2.2.2.2.1, .str x.2.2.2.2.2.2.2.2.2.2.2.1, .seq x.2.2.2.2.2.2.2.2.2.2.2.2]
def zJ.L37_4.dτ : Nat → List D → Option ((Bool × ByteArray × List (List D) × ByteArray × List (List D) × ByteArray × List (List D) × ByteArray × List (List D)) ⊕ (Bool × ByteArray × List (List D) × ByteArray × List (List D) × ByteArray × List (List D) × ByteArray × List (List D)))
  | 0, [.bool y0, .str y1, .seq y2, .str y3, .seq y4, .str y5, .seq y6, .str y7, .seq y8] => some (.inl (y0, y1, y2, y3, y4, y5, y6, y7, y8))
  | 1, [.bool y0, .str y1, .seq y2, .str y3, .seq y4, .str y5, .seq y6, .str y7, .seq y8] => some (.inr (y0, y1, y2, y3, y4, y5, y6, y7, y8))
  | _, _ => none
def zJ.L37_4.eτ : (Bool × ByteArray × List (List D) × ByteArray × List (List D) × ByteArray × List (List D) × ByteArray × List (List D)) ⊕ (Bool × ByteArray × List (List D) × ByteArray × List (List D) × ByteArray × List (List D) × ByteArray × List (List D)) → Nat × List D
  | (.inl t) => (0, [.bool t.1, .str t.2.1, .seq t.2.2.1, .str t.2.2.2.1, .seq t.2.2.2.2.1, .str t.2.2.2.2.2.1, .seq t.2.2.2.2.2.2.1, .str t.2.2.2.2.2.2.2.1, .seq t.2.2.2.2.2.2.2.2])
  | (.inr t) => (1, [.bool t.1, .str t.2.1, .seq t.2.2.1, .str t.2.2.2.1, .seq t.2.2.2.2.1, .str t.2.2.2.2.2.1, .seq t.2.2.2.2.2.2.1, .str t.2.2.2.2.2.2.2.1, .seq t.2.2.2.2.2.2.2.2])
def zJ.L37_4.sel (β : Type) (t : (Bool × ByteArray × List (List D) × ByteArray × List (List D) × ByteArray × List (List D) × ByteArray × List (List D)) ⊕ (Bool × ByteArray × List (List D) × ByteArray × List (List D) × ByteArray × List (List D) × ByteArray × List (List D))) (k : Exit → Fr → Hp → Option β) : Option β := match t with
  | (.inl r) => k (.exit 0) (bldS zJ.L37_4.X0 [.bool r.1, .str r.2.1, .seq r.2.2.1, .str r.2.2.2.1, .seq r.2.2.2.2.1, .str r.2.2.2.2.2.1, .seq r.2.2.2.2.2.2.1, .str r.2.2.2.2.2.2.2.1, .seq r.2.2.2.2.2.2.2.2]).1 (bldS zJ.L37_4.X0 [.bool r.1, .str r.2.1, .seq r.2.2.1, .str r.2.2.2.1, .seq r.2.2.2.2.1, .str r.2.2.2.2.2.1, .seq r.2.2.2.2.2.2.1, .str r.2.2.2.2.2.2.2.1, .seq r.2.2.2.2.2.2.2.2]).2
  | (.inr r) => k (.ret) (bldS zJ.L37_4.X1 [.bool r.1, .str r.2.1, .seq r.2.2.1, .str r.2.2.2.1, .seq r.2.2.2.2.1, .str r.2.2.2.2.2.1, .seq r.2.2.2.2.2.2.1, .str r.2.2.2.2.2.2.2.1, .seq r.2.2.2.2.2.2.2.2]).1 (bldS zJ.L37_4.X1 [.bool r.1, .str r.2.1, .seq r.2.2.1, .str r.2.2.2.1, .seq r.2.2.2.2.1, .str r.2.2.2.2.2.1, .seq r.2.2.2.2.2.2.1, .str r.2.2.2.2.2.2.2.1, .seq r.2.2.2.2.2.2.2.2]).2
theorem zJ.L37_4.sel_ok (β : Type) (t : (Bool × ByteArray × List (List D) × ByteArray × List (List D) × ByteArray × List (List D) × ByteArray × List (List D)) ⊕ (Bool × ByteArray × List (List D) × ByteArray × List (List D) × ByteArray × List (List D) × ByteArray × List (List D))) (k : Exit → Fr → Hp → Option β) : zJ.L37_4.sel β t k = k (endA zJ.L37_4.X zJ.L37_4.eτ t).1 (endA zJ.L37_4.X zJ.L37_4.eτ t).2.1 (endA zJ.L37_4.X zJ.L37_4.eτ t).2.2 := by rcases t with t | t <;> rfl
theorem zJ.L37_4.dσ_ok (d : List D) (x : List (List D) × List (List D) × Bool × Int × Int × ByteArray × List (List D) × ByteArray × List (List D) × ByteArray × List (List D) × ByteArray × List (List D)) (h : zJ.L37_4.dσ d = some x) : zJ.L37_4.eσ x = d := by
  unfold zJ.L37_4.dσ at h
  split at h <;> first | (cases h; rfl) | cases h
theorem zJ.L37_4.dτ_ok (i : Nat) (d : List D) (t : (Bool × ByteArray × List (List D) × ByteArray × List (List D) × ByteArray × List (List D) × ByteArray × List (List D)) ⊕ (Bool × ByteArray × List (List D) × ByteArray × List (List D) × ByteArray × List (List D) × ByteArray × List (List D))) (h : zJ.L37_4.dτ i d = some t) : zJ.L37_4.eτ t = (i, d) := by
  unfold zJ.L37_4.dτ at h
  split at h <;> first | (cases h; rfl) | cases h
def zJ.L37_4.S (K : Nat) (f20 : ByteArray → (List (List D)) → ByteArray → (List (List D)) → ByteArray → (List (List D)) → ByteArray → (List (List D)) → Option (Bool)) (rec : (List (List D) × List (List D) × Bool × Int × Int × ByteArray × List (List D) × ByteArray × List (List D) × ByteArray × List (List D) × ByteArray × List (List D)) → Option ((Bool × ByteArray × List (List D) × ByteArray × List (List D) × ByteArray × List (List D) × ByteArray × List (List D)) ⊕ (Bool × ByteArray × List (List D) × ByteArray × List (List D) × ByteArray × List (List D) × ByteArray × List (List D)))) (x0 : List (List D)) (x1 : List (List D)) (x2 : Bool) (x3 : Int) (x4 : Int) (x5 : ByteArray) (x6 : List (List D)) (x7 : ByteArray) (x8 : List (List D)) (x9 : ByteArray) (x10 : List (List D)) (x11 : ByteArray) (x12 : List (List D)) : Option ((Bool × ByteArray × List (List D) × ByteArray × List (List D) × ByteArray × List (List D) × ByteArray × List (List D)) ⊕ (Bool × ByteArray × List (List D) × ByteArray × List (List D) × ByteArray × List (List D) × ByteArray × List (List D))) :=
  bif decide (x4 < x3) then if (0 : Int) ≤ x4 ∧ x4 < (↑x0.length : Int) then if (0 : Int) ≤ x4 ∧ x4 < (↑x1.length : Int) then bif !((D.at x0 x4.toNat (0 : Nat)).toStr.toList == (D.at x1 x4.toNat (0 : Nat)).toStr.toList && ((D.at x0 x4.toNat (1 : Nat)).toStr.toList == (D.at x1 x4.toNat (1 : Nat)).toStr.toList && true)) then some (Sum.inr (false, x5, x6, x7, x8, x9, x10, x11, x12)) else rec (x0, x1, x2, x3, IntKind.i64.wrap (x4 + (1 : Int)), x5, x6, x7, x8, x9, x10, x11, x12) else none else none else some (Sum.inl (x2, x5, x6, x7, x8, x9, x10, x11, x12))
set_option maxRecDepth 100000 in
theorem zJ.L37_4.step (K : Nat) (f20 : ByteArray → (List (List D)) → ByteArray → (List (List D)) → ByteArray → (List (List D)) → ByteArray → (List (List D)) → Option (Bool)) (rec : (List (List D) × List (List D) × Bool × Int × Int × ByteArray × List (List D) × ByteArray × List (List D) × ByteArray × List (List D) × ByteArray × List (List D)) → Option ((Bool × ByteArray × List (List D) × ByteArray × List (List D) × ByteArray × List (List D) × ByteArray × List (List D)) ⊕ (Bool × ByteArray × List (List D) × ByteArray × List (List D) × ByteArray × List (List D) × ByteArray × List (List D)))) (x0 : List (List D)) (x1 : List (List D)) (x2 : Bool) (x3 : Int) (x4 : Int) (x5 : ByteArray) (x6 : List (List D)) (x7 : ByteArray) (x8 : List (List D)) (x9 : ByteArray) (x10 : List (List D)) (x11 : ByteArray) (x12 : List (List D)) : execA Tryz.prog lay (zJ.Γ f20) [] (inlA Tryz.prog lay (zJ.Γ f20) [] 3) ⟨zJ.J37, [], 0, none, none⟩ 2 (loopAt Tryz.f37 0) (bldS zJ.L37_4.T (zJ.L37_4.eσ (x0, x1, x2, x3, x4, x5, x6, x7, x8, x9, x10, x11, x12))).1 (bldS zJ.L37_4.T (zJ.L37_4.eσ (x0, x1, x2, x3, x4, x5, x6, x7, x8, x9, x10, x11, x12))).2 (contA zJ.L37_4.T zJ.L37_4.X zJ.L37_4.dσ zJ.L37_4.dτ rec) = zJ.L37_4.S K f20 rec x0 x1 x2 x3 x4 x5 x6 x7 x8 x9 x10 x11 x12 := by kernel_rfl
def zJ.L37_4 (K : Nat) (f20 : ByteArray → (List (List D)) → ByteArray → (List (List D)) → ByteArray → (List (List D)) → ByteArray → (List (List D)) → Option (Bool)) : Nat → (List (List D) × List (List D) × Bool × Int × Int × ByteArray × List (List D) × ByteArray × List (List D) × ByteArray × List (List D) × ByteArray × List (List D)) → Option ((Bool × ByteArray × List (List D) × ByteArray × List (List D) × ByteArray × List (List D) × ByteArray × List (List D)) ⊕ (Bool × ByteArray × List (List D) × ByteArray × List (List D) × ByteArray × List (List D) × ByteArray × List (List D)))
  | 0, _ => none
  | k + 1, x => zJ.L37_4.S K f20 (zJ.L37_4 K f20 k) x.1 x.2.1 x.2.2.1 x.2.2.2.1 x.2.2.2.2.1 x.2.2.2.2.2.1 x.2.2.2.2.2.2.1 x.2.2.2.2.2.2.2.1 x.2.2.2.2.2.2.2.2.1 x.2.2.2.2.2.2.2.2.2.1 x.2.2.2.2.2.2.2.2.2.2.1 x.2.2.2.2.2.2.2.2.2.2.2.1 x.2.2.2.2.2.2.2.2.2.2.2.2
theorem zJ.L37_4.ok (K : Nat) (f20 : ByteArray → (List (List D)) → ByteArray → (List (List D)) → ByteArray → (List (List D)) → ByteArray → (List (List D)) → Option (Bool)) {B : Nat} {wB : World} (stab_ : ∀ w', Bel B wB w' → GW w') (hΓ_ : AllOk Tryz.prog GW lay (zJ.Γ f20)) (Kr : Nat) : LSOk Tryz.prog lay B wB [] 2 (sumA zJ.L37_4.T zJ.L37_4.X zJ.L37_4.dσ zJ.L37_4.eτ zJ.L37_4.sel zJ.L37_4.sel_ok (zJ.L37_4 K f20 Kr)) (loopAt Tryz.f37 0) :=
  loop_mk (by kernel_rfl) hΓ_ stab_ (inlA_ok (by kernel_rfl) hΓ_ stab_ in_nil 3) (C := ⟨zJ.J37, [], 0, none, none⟩) (allL_of (l := []) (by kernel_rfl) allL_nil) (by decide) (by decide) zJ.L37_4.dσ_ok zJ.L37_4.dτ_ok (fun _ => rfl) (fun k x => (zJ.L37_4.step K f20 (zJ.L37_4 K f20 k) x.1 x.2.1 x.2.2.1 x.2.2.2.1 x.2.2.2.2.1 x.2.2.2.2.2.1 x.2.2.2.2.2.2.1 x.2.2.2.2.2.2.2.1 x.2.2.2.2.2.2.2.2.1 x.2.2.2.2.2.2.2.2.2.1 x.2.2.2.2.2.2.2.2.2.2.1 x.2.2.2.2.2.2.2.2.2.2.2.1 x.2.2.2.2.2.2.2.2.2.2.2.2).symm) Kr
def zJ.L38_4.T : TS := ⟨[.junk, .seq 27, .fn 20 [] [], .junk, .junk, .junk, .bool, .junk, .junk, .junk, .junk, .junk, .junk, .junk, .junk, .seq 27, .int .i64, .int .i64, .junk, .junk, .junk, .junk, .junk, .junk, .junk, .junk, .junk, .junk, .junk, .junk, .junk, .junk], [.cells 27 [.str, .seq 52, .str, .seq 27] .own, .cells 27 [.str, .seq 52, .str, .seq 27] .own], 2, []⟩
def zJ.L38_4.X0 : TS := ⟨[.junk, .junk, .junk, .junk, .junk, .junk, .bool, .junk, .junk, .junk, .junk, .junk, .junk, .junk, .junk, .junk, .junk, .junk, .junk, .junk, .junk, .junk, .junk, .junk, .junk, .junk, .junk, .junk, .junk, .junk, .junk, .junk], [.cells 27 [.str, .seq 52, .str, .seq 27] .own, .cells 27 [.str, .seq 52, .str, .seq 27] .own], 2, []⟩
def zJ.L38_4.X1 : TS := ⟨[.junk, .junk, .junk, .junk, .junk, .junk, .bool, .junk, .junk, .junk, .junk, .junk, .junk, .junk, .junk, .junk, .junk, .junk, .junk, .junk, .junk, .junk, .junk, .junk, .junk, .junk, .junk, .junk, .junk, .junk, .junk, .junk], [.cells 27 [.str, .seq 52, .str, .seq 27] .own, .cells 27 [.str, .seq 52, .str, .seq 27] .own], 2, []⟩
def zJ.L38_4.X : List (Exit × TS) := [(.exit 0, zJ.L38_4.X0), (.ret, zJ.L38_4.X1)]
def zJ.L38_4.dσ : List D → Option (List (List D) × Bool × List (List D) × Int × Int × ByteArray × List (List D) × ByteArray × List (List D) × ByteArray × List (List D) × ByteArray × List (List D))
  | [.seq x0, .bool x1, .seq x2, .int x3, .int x4, .str x5, .seq x6, .str x7, .seq x8, .str x9, .seq x10, .str x11, .seq x12] => some (x0, x1, x2, x3, x4, x5, x6, x7, x8, x9, x10, x11, x12)
  | _ => none
def zJ.L38_4.eσ (x : List (List D) × Bool × List (List D) × Int × Int × ByteArray × List (List D) × ByteArray × List (List D) × ByteArray × List (List D) × ByteArray × List (List D)) : List D := [.seq x.1, .bool x.2.1, .seq x.2.2.1, .int x.2.2.2.1, .int x.2.2.2.2.1, .str x.2.2.2.2.2.1, .seq x.2.2.2.2.2.2.1, .str x.2.2.2.2.2.2.2.1, .seq x.2.2.2.2.2.2.2.2.1, .str x.2.2.2.2.2.2.2.2.2.1, .seq x.2.2.2.2.2.2.2.2.2.2.1, .str x.2.2.2.2.2.2.2.2.2.2.2.1, .seq x.2.2.2.2.2.2.2.2.2.2.2.2]
def zJ.L38_4.dτ : Nat → List D → Option ((Bool × ByteArray × List (List D) × ByteArray × List (List D) × ByteArray × List (List D) × ByteArray × List (List D)) ⊕ (Bool × ByteArray × List (List D) × ByteArray × List (List D) × ByteArray × List (List D) × ByteArray × List (List D)))
  | 0, [.bool y0, .str y1, .seq y2, .str y3, .seq y4, .str y5, .seq y6, .str y7, .seq y8] => some (.inl (y0, y1, y2, y3, y4, y5, y6, y7, y8))
  | 1, [.bool y0, .str y1, .seq y2, .str y3, .seq y4, .str y5, .seq y6, .str y7, .seq y8] => some (.inr (y0, y1, y2, y3, y4, y5, y6, y7, y8))
  | _, _ => none
def zJ.L38_4.eτ : (Bool × ByteArray × List (List D) × ByteArray × List (List D) × ByteArray × List (List D) × ByteArray × List (List D)) ⊕ (Bool × ByteArray × List (List D) × ByteArray × List (List D) × ByteArray × List (List D) × ByteArray × List (List D)) → Nat × List D
  | (.inl t) => (0, [.bool t.1, .str t.2.1, .seq t.2.2.1, .str t.2.2.2.1, .seq t.2.2.2.2.1, .str t.2.2.2.2.2.1, .seq t.2.2.2.2.2.2.1, .str t.2.2.2.2.2.2.2.1, .seq t.2.2.2.2.2.2.2.2])
  | (.inr t) => (1, [.bool t.1, .str t.2.1, .seq t.2.2.1, .str t.2.2.2.1, .seq t.2.2.2.2.1, .str t.2.2.2.2.2.1, .seq t.2.2.2.2.2.2.1, .str t.2.2.2.2.2.2.2.1, .seq t.2.2.2.2.2.2.2.2])
def zJ.L38_4.sel (β : Type) (t : (Bool × ByteArray × List (List D) × ByteArray × List (List D) × ByteArray × List (List D) × ByteArray × List (List D)) ⊕ (Bool × ByteArray × List (List D) × ByteArray × List (List D) × ByteArray × List (List D) × ByteArray × List (List D))) (k : Exit → Fr → Hp → Option β) : Option β := match t with
  | (.inl r) => k (.exit 0) (bldS zJ.L38_4.X0 [.bool r.1, .str r.2.1, .seq r.2.2.1, .str r.2.2.2.1, .seq r.2.2.2.2.1, .str r.2.2.2.2.2.1, .seq r.2.2.2.2.2.2.1, .str r.2.2.2.2.2.2.2.1, .seq r.2.2.2.2.2.2.2.2]).1 (bldS zJ.L38_4.X0 [.bool r.1, .str r.2.1, .seq r.2.2.1, .str r.2.2.2.1, .seq r.2.2.2.2.1, .str r.2.2.2.2.2.1, .seq r.2.2.2.2.2.2.1, .str r.2.2.2.2.2.2.2.1, .seq r.2.2.2.2.2.2.2.2]).2
  | (.inr r) => k (.ret) (bldS zJ.L38_4.X1 [.bool r.1, .str r.2.1, .seq r.2.2.1, .str r.2.2.2.1, .seq r.2.2.2.2.1, .str r.2.2.2.2.2.1, .seq r.2.2.2.2.2.2.1, .str r.2.2.2.2.2.2.2.1, .seq r.2.2.2.2.2.2.2.2]).1 (bldS zJ.L38_4.X1 [.bool r.1, .str r.2.1, .seq r.2.2.1, .str r.2.2.2.1, .seq r.2.2.2.2.1, .str r.2.2.2.2.2.1, .seq r.2.2.2.2.2.2.1, .str r.2.2.2.2.2.2.2.1, .seq r.2.2.2.2.2.2.2.2]).2
theorem zJ.L38_4.sel_ok (β : Type) (t : (Bool × ByteArray × List (List D) × ByteArray × List (List D) × ByteArray × List (List D) × ByteArray × List (List D)) ⊕ (Bool × ByteArray × List (List D) × ByteArray × List (List D) × ByteArray × List (List D) × ByteArray × List (List D))) (k : Exit → Fr → Hp → Option β) : zJ.L38_4.sel β t k = k (endA zJ.L38_4.X zJ.L38_4.eτ t).1 (endA zJ.L38_4.X zJ.L38_4.eτ t).2.1 (endA zJ.L38_4.X zJ.L38_4.eτ t).2.2 := by rcases t with t | t <;> rfl
theorem zJ.L38_4.dσ_ok (d : List D) (x : List (List D) × Bool × List (List D) × Int × Int × ByteArray × List (List D) × ByteArray × List (List D) × ByteArray × List (List D) × ByteArray × List (List D)) (h : zJ.L38_4.dσ d = some x) : zJ.L38_4.eσ x = d := by
  unfold zJ.L38_4.dσ at h
  split at h <;> first | (cases h; rfl) | cases h
theorem zJ.L38_4.dτ_ok (i : Nat) (d : List D) (t : (Bool × ByteArray × List (List D) × ByteArray × List (List D) × ByteArray × List (List D) × ByteArray × List (List D)) ⊕ (Bool × ByteArray × List (List D) × ByteArray × List (List D) × ByteArray × List (List D) × ByteArray × List (List D))) (h : zJ.L38_4.dτ i d = some t) : zJ.L38_4.eτ t = (i, d) := by
  unfold zJ.L38_4.dτ at h
  split at h <;> first | (cases h; rfl) | cases h
def zJ.L38_4.S (K : Nat) (f20 : ByteArray → (List (List D)) → ByteArray → (List (List D)) → ByteArray → (List (List D)) → ByteArray → (List (List D)) → Option (Bool)) (rec : (List (List D) × Bool × List (List D) × Int × Int × ByteArray × List (List D) × ByteArray × List (List D) × ByteArray × List (List D) × ByteArray × List (List D)) → Option ((Bool × ByteArray × List (List D) × ByteArray × List (List D) × ByteArray × List (List D) × ByteArray × List (List D)) ⊕ (Bool × ByteArray × List (List D) × ByteArray × List (List D) × ByteArray × List (List D) × ByteArray × List (List D)))) (x0 : List (List D)) (x1 : Bool) (x2 : List (List D)) (x3 : Int) (x4 : Int) (x5 : ByteArray) (x6 : List (List D)) (x7 : ByteArray) (x8 : List (List D)) (x9 : ByteArray) (x10 : List (List D)) (x11 : ByteArray) (x12 : List (List D)) : Option ((Bool × ByteArray × List (List D) × ByteArray × List (List D) × ByteArray × List (List D) × ByteArray × List (List D)) ⊕ (Bool × ByteArray × List (List D) × ByteArray × List (List D) × ByteArray × List (List D) × ByteArray × List (List D))) :=
  bif decide (x4 < x3) then if (0 : Int) ≤ x4 ∧ x4 < (↑x2.length : Int) then if (0 : Int) ≤ x4 ∧ x4 < (↑x0.length : Int) then (f20 (D.at x2 x4.toNat (0 : Nat)).toStr (D.at x2 x4.toNat (1 : Nat)).toSeq (D.at x2 x4.toNat (2 : Nat)).toStr (D.at x2 x4.toNat (3 : Nat)).toSeq (D.at x0 x4.toNat (0 : Nat)).toStr (D.at x0 x4.toNat (1 : Nat)).toSeq (D.at x0 x4.toNat (2 : Nat)).toStr (D.at x0 x4.toNat (3 : Nat)).toSeq).bind fun v1 => bif !v1 then some (Sum.inr (false, x5, x6, x7, x8, x9, x10, x11, x12)) else rec (x0, x1, x2, x3, IntKind.i64.wrap (x4 + (1 : Int)), x5, x6, x7, x8, x9, x10, x11, x12) else none else none else some (Sum.inl (x1, x5, x6, x7, x8, x9, x10, x11, x12))
set_option maxRecDepth 100000 in
theorem zJ.L38_4.step (K : Nat) (f20 : ByteArray → (List (List D)) → ByteArray → (List (List D)) → ByteArray → (List (List D)) → ByteArray → (List (List D)) → Option (Bool)) (rec : (List (List D) × Bool × List (List D) × Int × Int × ByteArray × List (List D) × ByteArray × List (List D) × ByteArray × List (List D) × ByteArray × List (List D)) → Option ((Bool × ByteArray × List (List D) × ByteArray × List (List D) × ByteArray × List (List D) × ByteArray × List (List D)) ⊕ (Bool × ByteArray × List (List D) × ByteArray × List (List D) × ByteArray × List (List D) × ByteArray × List (List D)))) (x0 : List (List D)) (x1 : Bool) (x2 : List (List D)) (x3 : Int) (x4 : Int) (x5 : ByteArray) (x6 : List (List D)) (x7 : ByteArray) (x8 : List (List D)) (x9 : ByteArray) (x10 : List (List D)) (x11 : ByteArray) (x12 : List (List D)) : execA Tryz.prog lay (zJ.Γ f20) [] (inlA Tryz.prog lay (zJ.Γ f20) [(37, Tryz.f37, ⟨zJ.J37, [(4, 2, sumA zJ.L37_4.T zJ.L37_4.X zJ.L37_4.dσ zJ.L37_4.eτ zJ.L37_4.sel zJ.L37_4.sel_ok (zJ.L37_4 K f20 K))], 0, none, none⟩)] 3) ⟨zJ.J38, [], 0, none, none⟩ 2 (loopAt Tryz.f38 0) (bldS zJ.L38_4.T (zJ.L38_4.eσ (x0, x1, x2, x3, x4, x5, x6, x7, x8, x9, x10, x11, x12))).1 (bldS zJ.L38_4.T (zJ.L38_4.eσ (x0, x1, x2, x3, x4, x5, x6, x7, x8, x9, x10, x11, x12))).2 (contA zJ.L38_4.T zJ.L38_4.X zJ.L38_4.dσ zJ.L38_4.dτ rec) = zJ.L38_4.S K f20 rec x0 x1 x2 x3 x4 x5 x6 x7 x8 x9 x10 x11 x12 := by kernel_rfl
def zJ.L38_4 (K : Nat) (f20 : ByteArray → (List (List D)) → ByteArray → (List (List D)) → ByteArray → (List (List D)) → ByteArray → (List (List D)) → Option (Bool)) : Nat → (List (List D) × Bool × List (List D) × Int × Int × ByteArray × List (List D) × ByteArray × List (List D) × ByteArray × List (List D) × ByteArray × List (List D)) → Option ((Bool × ByteArray × List (List D) × ByteArray × List (List D) × ByteArray × List (List D) × ByteArray × List (List D)) ⊕ (Bool × ByteArray × List (List D) × ByteArray × List (List D) × ByteArray × List (List D) × ByteArray × List (List D)))
  | 0, _ => none
  | k + 1, x => zJ.L38_4.S K f20 (zJ.L38_4 K f20 k) x.1 x.2.1 x.2.2.1 x.2.2.2.1 x.2.2.2.2.1 x.2.2.2.2.2.1 x.2.2.2.2.2.2.1 x.2.2.2.2.2.2.2.1 x.2.2.2.2.2.2.2.2.1 x.2.2.2.2.2.2.2.2.2.1 x.2.2.2.2.2.2.2.2.2.2.1 x.2.2.2.2.2.2.2.2.2.2.2.1 x.2.2.2.2.2.2.2.2.2.2.2.2
theorem zJ.L38_4.ok (K : Nat) (f20 : ByteArray → (List (List D)) → ByteArray → (List (List D)) → ByteArray → (List (List D)) → ByteArray → (List (List D)) → Option (Bool)) {B : Nat} {wB : World} (stab_ : ∀ w', Bel B wB w' → GW w') (hΓ_ : AllOk Tryz.prog GW lay (zJ.Γ f20)) (Kr : Nat) : LSOk Tryz.prog lay B wB [] 2 (sumA zJ.L38_4.T zJ.L38_4.X zJ.L38_4.dσ zJ.L38_4.eτ zJ.L38_4.sel zJ.L38_4.sel_ok (zJ.L38_4 K f20 Kr)) (loopAt Tryz.f38 0) :=
  loop_mk (by kernel_rfl) hΓ_ stab_ (inlA_ok (by kernel_rfl) hΓ_ stab_ (in_app in_nil Tryz.func37 (fun args w => by kernel_rfl) rfl rfl (allL_of (l := [loopAt Tryz.f37 0]) (by kernel_rfl) (allL_cons (by kernel_rfl) (zJ.L37_4.ok K f20 stab_ hΓ_ K) allL_nil))) 3) (C := ⟨zJ.J38, [], 0, none, none⟩) (allL_of (l := []) (by kernel_rfl) allL_nil) (by decide) (by decide) zJ.L38_4.dσ_ok zJ.L38_4.dτ_ok (fun _ => rfl) (fun k x => (zJ.L38_4.step K f20 (zJ.L38_4 K f20 k) x.1 x.2.1 x.2.2.1 x.2.2.2.1 x.2.2.2.2.1 x.2.2.2.2.2.1 x.2.2.2.2.2.2.1 x.2.2.2.2.2.2.2.1 x.2.2.2.2.2.2.2.2.1 x.2.2.2.2.2.2.2.2.2.1 x.2.2.2.2.2.2.2.2.2.2.1 x.2.2.2.2.2.2.2.2.2.2.2.1 x.2.2.2.2.2.2.2.2.2.2.2.2).symm) Kr
def zJ.t (K : Nat) (f20 : ByteArray → (List (List D)) → ByteArray → (List (List D)) → ByteArray → (List (List D)) → ByteArray → (List (List D)) → Option (Bool)) (a0 : ByteArray) (a1 : List (List D)) (a2 : ByteArray) (a3 : List (List D)) (a4 : ByteArray) (a5 : List (List D)) (a6 : ByteArray) (a7 : List (List D)) : Option (Bool) :=
  bif a0.toList == a4.toList then bif a2.toList == a6.toList then bif !(↑a1.length : Int) == (↑a5.length : Int) then some false else (zJ.L37_4 K f20 K (a1, a5, false, (↑a1.length : Int), (0 : Int), a0, a1, a2, a3, a4, a5, a6, a7)).bind fun v1 => Sum.elim (fun v2 => bif !(↑v2.snd.snd.snd.snd.fst.length : Int) == (↑v2.snd.snd.snd.snd.snd.snd.snd.snd.length : Int) then some false else (zJ.L38_4 K f20 K (v2.r8, false, v2.q4, (↑v2.snd.snd.snd.snd.fst.length : Int), (0 : Int), v2.q1, v2.q2, v2.q3, v2.q4, v2.q5, v2.q6, v2.q7, v2.r8)).bind fun v3 => Sum.elim (fun v4 => some true) (fun v5 => some v5.fst) v3) (fun v6 => bif v6.fst then bif !(↑v6.snd.snd.snd.snd.fst.length : Int) == (↑v6.snd.snd.snd.snd.snd.snd.snd.snd.length : Int) then some false else (zJ.L38_4 K f20 K (v6.r8, false, v6.q4, (↑v6.snd.snd.snd.snd.fst.length : Int), (0 : Int), v6.q1, v6.q2, v6.q3, v6.q4, v6.q5, v6.q6, v6.q7, v6.r8)).bind fun v7 => Sum.elim (fun v8 => some true) (fun v9 => some v9.fst) v7 else some false) v1 else some false else some false
set_option maxRecDepth 100000 in
theorem zJ.run (K : Nat) (f20 : ByteArray → (List (List D)) → ByteArray → (List (List D)) → ByteArray → (List (List D)) → ByteArray → (List (List D)) → Option (Bool)) (a0 : ByteArray) (a1 : List (List D)) (a2 : ByteArray) (a3 : List (List D)) (a4 : ByteArray) (a5 : List (List D)) (a6 : ByteArray) (a7 : List (List D)) : runA Tryz.prog lay (zJ.Γ f20) [] [(37, Tryz.f37, ⟨zJ.J37, [(4, 2, sumA zJ.L37_4.T zJ.L37_4.X zJ.L37_4.dσ zJ.L37_4.eτ zJ.L37_4.sel zJ.L37_4.sel_ok (zJ.L37_4 K f20 K))], 0, none, none⟩), (38, Tryz.f38, ⟨zJ.J38, [(4, 2, sumA zJ.L38_4.T zJ.L38_4.X zJ.L38_4.dσ zJ.L38_4.eτ zJ.L38_4.sel zJ.L38_4.sel_ok (zJ.L38_4 K f20 K))], 0, none, none⟩)] 3 ⟨zJ.J20, [], 0, none, none⟩ Tryz.f20 [.agg [.str a0, .seq 52 a1, .str a2, .seq 27 a3], .agg [.str a4, .seq 52 a5, .str a6, .seq 27 a7]] [] [.one (.bool)] zJ.dec = zJ.t K f20 a0 a1 a2 a3 a4 a5 a6 a7 := by kernel_rfl
def zJ.f : Nat → ByteArray → (List (List D)) → ByteArray → (List (List D)) → ByteArray → (List (List D)) → ByteArray → (List (List D)) → Option (Bool)
  | 0, _, _, _, _, _, _, _, _ => none
  | k + 1, a0, a1, a2, a3, a4, a5, a6, a7 => zJ.t k (zJ.f k) a0 a1 a2 a3 a4 a5 a6 a7
theorem zJ.ok : ∀ k : Nat, CEOk Tryz.prog GW lay 20 (zJ.ce (zJ.f k))
  | 0 => ⟨fun args w => by kernel_rfl, fun args τ x out sel ok r hs hx => by
      unfold zJ.ce zJ.tells at hs
      simp only at hs
      split at hs
      · cases hs; cases hx
      · cases hs⟩
  | k + 1 => by
    have ih := zJ.ok k
    have hΓ_ : AllOk Tryz.prog GW lay (zJ.Γ (zJ.f k)) := (allOk_cons ih allOk_nil)
    exact tells_mk (by kernel_rfl) hΓ_ Tryz.func20 (fun args w => by kernel_rfl) (fun w w' h hb => h.step hb) no_globals (fun B wB stab_ => (in_app (in_app in_nil Tryz.func37 (fun args w => by kernel_rfl) rfl rfl (allL_of (l := [loopAt Tryz.f37 0]) (by kernel_rfl) (allL_cons (by kernel_rfl) (zJ.L37_4.ok k (zJ.f k) stab_ hΓ_ k) allL_nil))) Tryz.func38 (fun args w => by kernel_rfl) rfl rfl (allL_of (l := [loopAt Tryz.f38 0]) (by kernel_rfl) (allL_cons (by kernel_rfl) (zJ.L38_4.ok k (zJ.f k) stab_ hΓ_ k) allL_nil)))) (C := ⟨zJ.J20, [], 0, none, none⟩) (fun B wB stab_ => bodyL (allL_of (l := []) (by kernel_rfl) allL_nil)) (fun args τ x out sel ok r hs hx => by
    unfold zJ.tells at hs
    split at hs
    · cases hs
      exact ⟨rfl, zJ.out_free _, 3, [.one (.bool)], zJ.dec, (zJ.run k (zJ.f k) _ _ _ _ _ _ _ _).trans hx, fun res h => zJ.dec_ok res _ h⟩
    · cases hs)

end Go.Proofs.YtphlamnaaogmaaaGreatDoor.M
