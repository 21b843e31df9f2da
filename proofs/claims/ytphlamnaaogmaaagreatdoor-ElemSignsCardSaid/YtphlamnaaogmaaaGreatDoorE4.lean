import Derived.Test.YtphlamnaaogmaaaGreatDoorLay
import Derived.Test.YtphlamnaaogmaaaGreatDoorGLib
set_option linter.unusedVariables false
set_option linter.unusedSimpArgs false
set_option maxRecDepth 100000
namespace Go.Proofs.YtphlamnaaogmaaaGreatDoor.M
open Go Go.RowKit Go.Proofs Go.Proofs.Qx 

def yB.out (r : Bool) : Res := .ret (.bool r)
def yB.dec : Res → Option (Bool)
  | .ret (.bool y0) => some y0
  | _ => none
theorem yB.out_free (r : Bool) : (yB.out r).free = true := rfl
def yB.sel (β : Type) (r : Bool) (k : Res → Option β) : Option β := k (.ret (.bool r))
theorem yB.sel_ok (β : Type) (t : Bool) (k : Res → Option β) : yB.sel β t k = k (yB.out t) := rfl
theorem yB.dec_ok (res : Res) (r : Bool) (h : yB.dec res = some r) : res = yB.out r := by
  unfold yB.dec at h
  split at h <;> first | (cases h; rfl) | cases h
def yB.tells (f : Int → Bool → Option (Bool)) : Tells
  | [.int .u8 a0, .bool a1] => some (.mk (Bool) (f a0 a1) yB.out yB.sel yB.sel_ok)
  | _ => none
def yB.ce (f : Int → Bool → Option (Bool)) : CE := ⟨[.one (.int .u8), .one (.bool)], .flat, yB.tells f⟩
def yB.Γ : List (Nat × CE) := []
def yB.J71 : List (Nat × List Nat) := [(1, [6, 7, 8, 9, 10, 11]), (2, [12, 13, 14, 15, 16, 17]), (3, [18, 19]), (5, [21, 22, 23, 24, 25, 26]), (6, [27, 28]), (7, [29, 30]), (8, [31, 32]), (9, [33, 34])]
def yB.t.J2 (a0 : Int) (a1 : Bool) : Option (Bool) :=
  bif a0 == (45 : Int) then some !a1 else bif a0 == (46 : Int) then some !a1 else bif a0 == (58 : Int) then some !a1 else some false
def yB.t.J5 (a0 : Int) (a1 : Bool) : Option (Bool) :=
  bif a0 == (95 : Int) then some true else bif decide (a0 ≥ (48 : Int)) then bif decide (a0 ≤ (57 : Int)) then some !a1 else yB.t.J2 a0 a1 else yB.t.J2 a0 a1
def yB.t.J7 (a0 : Int) (a1 : Bool) : Option (Bool) :=
  bif decide (a0 ≥ (97 : Int)) then bif decide (a0 ≤ (122 : Int)) then some true else yB.t.J5 a0 a1 else yB.t.J5 a0 a1
def yB.t (K : Nat) (a0 : Int) (a1 : Bool) : Option (Bool) :=
  bif decide (a0 ≥ (65 : Int)) then bif decide (a0 ≤ (90 : Int)) then some true else yB.t.J7 a0 a1 else yB.t.J7 a0 a1
set_option maxRecDepth 100000 in
theorem yB.run (K : Nat) (a0 : Int) (a1 : Bool) : runA Tryz.prog lay (yB.Γ) [] [] 3 ⟨yB.J71, [], 0, none, none⟩ Tryz.f71 [.int .u8 a0, .bool a1] [] [.one (.bool)] yB.dec = yB.t K a0 a1 := by kernel_rfl
def yB.f (k : Nat) (a0 : Int) (a1 : Bool) : Option (Bool) := yB.t k a0 a1
theorem yB.allOk (k : Nat) : AllOk Tryz.prog GW lay (yB.Γ) := allOk_nil
theorem yB.ok (k : Nat) : CEOk Tryz.prog GW lay 71 (yB.ce (yB.f k)) := by
  have hΓ_ := yB.allOk k
  exact tells_mk (by kernel_rfl) hΓ_ Tryz.func71 (fun args w => by kernel_rfl) (fun w w' h hb => h.step hb) no_globals (fun B wB stab_ => in_nil) (C := ⟨yB.J71, [], 0, none, none⟩) (fun B wB stab_ => bodyL (allL_of (l := []) (by kernel_rfl) allL_nil)) (fun args τ x out sel ok r hs hx => by
    unfold yB.tells at hs
    split at hs
    · rename_i a0 a1
      cases hs
      unfold yB.f at hx
      have hr_ := yB.run k a0 a1
      rw [hx] at hr_
      exact ⟨rfl, yB.out_free _, 3, [.one (.bool)], yB.dec, hr_, fun res h => yB.dec_ok res _ h⟩
    · cases hs)
def yF.out (r : Bool) : Res := .ret (.bool r)
def yF.dec : Res → Option (Bool)
  | .ret (.bool y0) => some y0
  | _ => none
theorem yF.out_free (r : Bool) : (yF.out r).free = true := rfl
def yF.sel (β : Type) (r : Bool) (k : Res → Option β) : Option β := k (.ret (.bool r))
theorem yF.sel_ok (β : Type) (t : Bool) (k : Res → Option β) : yF.sel β t k = k (yF.out t) := rfl
theorem yF.dec_ok (res : Res) (r : Bool) (h : yF.dec res = some r) : res = yF.out r := by
  unfold yF.dec at h
  split at h <;> first | (cases h; rfl) | cases h
def yF.tells (f : Int → Option (Bool)) : Tells
  | [.int .i32 a0] => some (.mk (Bool) (f a0) yF.out yF.sel yF.sel_ok)
  | _ => none
def yF.ce (f : Int → Option (Bool)) : CE := ⟨[.one (.int .i32)], .flat, yF.tells f⟩
def yF.Γ : List (Nat × CE) := []
def yF.J74 : List (Nat × List Nat) := [(1, [3, 4, 5, 6, 7, 8, 9, 10, 11, 12, 13, 14, 15, 16])]
def yF.t (K : Nat) (a0 : Int) : Option (Bool) :=
  bif decide (a0 ≥ (32 : Int)) then some true else bif a0 == (9 : Int) then some true else bif a0 == (10 : Int) then some true else some (a0 == (13 : Int))
set_option maxRecDepth 100000 in
theorem yF.run (K : Nat) (a0 : Int) : runA Tryz.prog lay (yF.Γ) [] [] 3 ⟨yF.J74, [], 0, none, none⟩ Tryz.f74 [.int .i32 a0] [] [.one (.bool)] yF.dec = yF.t K a0 := by kernel_rfl
def yF.f (k : Nat) (a0 : Int) : Option (Bool) := yF.t k a0
theorem yF.allOk (k : Nat) : AllOk Tryz.prog GW lay (yF.Γ) := allOk_nil
theorem yF.ok (k : Nat) : CEOk Tryz.prog GW lay 74 (yF.ce (yF.f k)) := by
  have hΓ_ := yF.allOk k
  exact tells_mk (by kernel_rfl) hΓ_ Tryz.func74 (fun args w => by kernel_rfl) (fun w w' h hb => h.step hb) no_globals (fun B wB stab_ => in_nil) (C := ⟨yF.J74, [], 0, none, none⟩) (fun B wB stab_ => bodyL (allL_of (l := []) (by kernel_rfl) allL_nil)) (fun args τ x out sel ok r hs hx => by
    unfold yF.tells at hs
    split at hs
    · rename_i a0
      cases hs
      unfold yF.f at hx
      have hr_ := yF.run k a0
      rw [hx] at hr_
      exact ⟨rfl, yF.out_free _, 3, [.one (.bool)], yF.dec, hr_, fun res h => yF.dec_ok res _ h⟩
    · cases hs)
def zV.out (r : Bool) : Res := .ret (.bool r)
def zV.dec : Res → Option (Bool)
  | .ret (.bool y0) => some y0
  | _ => none
theorem zV.out_free (r : Bool) : (zV.out r).free = true := rfl
def zV.sel (β : Type) (r : Bool) (k : Res → Option β) : Option β := k (.ret (.bool r))
theorem zV.sel_ok (β : Type) (t : Bool) (k : Res → Option β) : zV.sel β t k = k (zV.out t) := rfl
theorem zV.dec_ok (res : Res) (r : Bool) (h : zV.dec res = some r) : res = zV.out r := by
  unfold zV.dec at h
  split at h <;> first | (cases h; rfl) | cases h
def zV.tells (f : ByteArray → Option (Bool)) : Tells
  | [.str a0] => some (.mk (Bool) (f a0) zV.out zV.sel zV.sel_ok)
  | _ => none
def zV.ce (f : ByteArray → Option (Bool)) : CE := ⟨[.one (.str)], .flat, zV.tells f⟩
def zV.Γ (f71 : Int → Bool → Option (Bool)) : List (Nat × CE) := [(71, yB.ce f71)]
def zV.J47 : List (Nat × List Nat) := [(1, [4, 5, 6, 7, 8, 9]), (3, [11]), (5, [15]), (6, [16, 17, 18, 19, 20, 21]), (8, [23]), (1000010, [10]), (1000014, [14]), (1000022, [22])]
def zV.L4.T : TS := ⟨[.str, .junk, .bool, .junk, .junk, .junk, .junk, .junk, .junk, .junk, .junk, .junk, .int .i64, .int .i64, .junk, .junk, .junk, .junk, .junk, .junk, .junk, .junk, .junk, .junk], [], 0, []⟩
def zV.L4.X0 : TS := ⟨[.junk, .junk, .bool, .junk, .junk, .junk, .junk, .junk, .junk, .junk, .junk, .junk, .junk, .junk, .junk, .junk, .junk, .junk, .junk, .junk, .junk, .junk, .junk, .junk], [], 0, []⟩
def zV.L4.X1 : TS := ⟨[.junk, .junk, .bool, .junk, .junk, .junk, .junk, .junk, .junk, .junk, .junk, .junk, .junk, .junk, .junk, .junk, .junk, .junk, .junk, .junk, .junk, .junk, .junk, .junk], [], 0, []⟩
def zV.L4.X : List (Exit × TS) := [(.exit 0, zV.L4.X0), (.ret, zV.L4.X1)]
def zV.L4.dσ : List D → Option (ByteArray × Bool × Int × Int)
  | [.str x0, .bool x1, .int x2, .int x3] => some (x0, x1, x2, x3)
  | _ => none
def zV.L4.eσ (x : ByteArray × Bool × Int × Int) : List D := [.str x.1, .bool x.2.1, .int x.2.2.1, .int x.2.2.2]
def zV.L4.dτ : Nat → List D → Option ((Bool) ⊕ (Bool))
  | 0, [.bool y0] => some (.inl y0)
  | 1, [.bool y0] => some (.inr y0)
  | _, _ => none
def zV.L4.eτ : (Bool) ⊕ (Bool) → Nat × List D
  | (.inl t) => (0, [.bool t])
  | (.inr t) => (1, [.bool t])
def zV.L4.sel (β : Type) (t : (Bool) ⊕ (Bool)) (k : Exit → Fr → Hp → Option β) : Option β := match t with
  | (.inl r) => k (.exit 0) (bldS zV.L4.X0 [.bool r]).1 (bldS zV.L4.X0 [.bool r]).2
  | (.inr r) => k (.ret) (bldS zV.L4.X1 [.bool r]).1 (bldS zV.L4.X1 [.bool r]).2
theorem zV.L4.sel_ok (β : Type) (t : (Bool) ⊕ (Bool)) (k : Exit → Fr → Hp → Option β) : zV.L4.sel β t k = k (endA zV.L4.X zV.L4.eτ t).1 (endA zV.L4.X zV.L4.eτ t).2.1 (endA zV.L4.X zV.L4.eτ t).2.2 := by rcases t with t | t <;> rfl
theorem zV.L4.dσ_ok (d : List D) (x : ByteArray × Bool × Int × Int) (h : zV.L4.dσ d = some x) : zV.L4.eσ x = d := by
  unfold zV.L4.dσ at h
  split at h <;> first | (cases h; rfl) | cases h
theorem zV.L4.dτ_ok (i : Nat) (d : List D) (t : (Bool) ⊕ (Bool)) (h : zV.L4.dτ i d = some t) : zV.L4.eτ t = (i, d) := by
  unfold zV.L4.dτ at h
  split at h <;> first | (cases h; rfl) | cases h
def zV.L4.S (K : Nat) (f71 : Int → Bool → Option (Bool)) (rec : (ByteArray × Bool × Int × Int) → Option ((Bool) ⊕ (Bool))) (x0 : ByteArray) (x1 : Bool) (x2 : Int) (x3 : Int) : Option ((Bool) ⊕ (Bool)) :=
  bif decide (x3 < x2) then if (0 : Int) ≤ x3 ∧ x3 < (↑x0.size : Int) then (f71 (byteAt x0 x3) (x3 == (0 : Int))).bind fun v1 => bif !v1 then some (Sum.inr false) else rec (x0, x1, x2, IntKind.i64.wrap (x3 + (1 : Int))) else none else some (Sum.inl x1)
set_option maxRecDepth 100000 in
theorem zV.L4.step (K : Nat) (f71 : Int → Bool → Option (Bool)) (rec : (ByteArray × Bool × Int × Int) → Option ((Bool) ⊕ (Bool))) (x0 : ByteArray) (x1 : Bool) (x2 : Int) (x3 : Int) : execA Tryz.prog lay (zV.Γ f71) [] (inlA Tryz.prog lay (zV.Γ f71) [] 3) ⟨zV.J47, [], 0, none, none⟩ 0 (loopAt Tryz.f47 0) (bldS zV.L4.T (zV.L4.eσ (x0, x1, x2, x3))).1 (bldS zV.L4.T (zV.L4.eσ (x0, x1, x2, x3))).2 (contA zV.L4.T zV.L4.X zV.L4.dσ zV.L4.dτ rec) = zV.L4.S K f71 rec x0 x1 x2 x3 := by kernel_rfl
def zV.L4 (K : Nat) (f71 : Int → Bool → Option (Bool)) : Nat → (ByteArray × Bool × Int × Int) → Option ((Bool) ⊕ (Bool))
  | 0, _ => none
  | k + 1, x => zV.L4.S K f71 (zV.L4 K f71 k) x.1 x.2.1 x.2.2.1 x.2.2.2
theorem zV.L4.ok (K : Nat) (f71 : Int → Bool → Option (Bool)) {B : Nat} {wB : World} (stab_ : ∀ w', Bel B wB w' → GW w') (hΓ_ : AllOk Tryz.prog GW lay (zV.Γ f71)) (Kr : Nat) : LSOk Tryz.prog lay B wB [] 0 (sumA zV.L4.T zV.L4.X zV.L4.dσ zV.L4.eτ zV.L4.sel zV.L4.sel_ok (zV.L4 K f71 Kr)) (loopAt Tryz.f47 0) :=
  loop_mk (by kernel_rfl) hΓ_ stab_ (inlA_ok (by kernel_rfl) hΓ_ stab_ in_nil 3) (C := ⟨zV.J47, [], 0, none, none⟩) (allL_of (l := []) (by kernel_rfl) allL_nil) (by decide) (by decide) zV.L4.dσ_ok zV.L4.dτ_ok (fun _ => rfl) (fun k x => (zV.L4.step K f71 (zV.L4 K f71 k) x.1 x.2.1 x.2.2.1 x.2.2.2).symm) Kr
def zV.t (K : Nat) (f71 : Int → Bool → Option (Bool)) (a0 : ByteArray) : Option (Bool) :=
  bif a0.toList == (ByteArray.mk #[]).toList then some false else bif decide ((↑a0.size : Int) > (60 : Int)) then some false else (zV.L4 K f71 K (a0, false, (↑a0.size : Int), (0 : Int))).bind fun v1 => Sum.elim (fun v2 => some true) (fun v3 => some v3) v1
set_option maxRecDepth 100000 in
theorem zV.run (K : Nat) (f71 : Int → Bool → Option (Bool)) (a0 : ByteArray) : runA Tryz.prog lay (zV.Γ f71) [] [] 3 ⟨zV.J47, [(4, 0, sumA zV.L4.T zV.L4.X zV.L4.dσ zV.L4.eτ zV.L4.sel zV.L4.sel_ok (zV.L4 K f71 K))], 0, none, none⟩ Tryz.f47 [.str a0] [] [.one (.bool)] zV.dec = zV.t K f71 a0 := by kernel_rfl
def zV.f (k : Nat) (a0 : ByteArray) : Option (Bool) := zV.t k (yB.f k) a0
theorem zV.allOk (k : Nat) : AllOk Tryz.prog GW lay (zV.Γ (yB.f k)) := (allOk_cons (yB.ok k) allOk_nil)
theorem zV.ok (k : Nat) : CEOk Tryz.prog GW lay 47 (zV.ce (zV.f k)) := by
  have hΓ_ := zV.allOk k
  exact tells_mk (by kernel_rfl) hΓ_ Tryz.func47 (fun args w => by kernel_rfl) (fun w w' h hb => h.step hb) no_globals (fun B wB stab_ => in_nil) (C := ⟨zV.J47, [(4, 0, sumA zV.L4.T zV.L4.X zV.L4.dσ zV.L4.eτ zV.L4.sel zV.L4.sel_ok (zV.L4 k (yB.f k) k))], 0, none, none⟩) (fun B wB stab_ => bodyL (allL_of (l := [loopAt Tryz.f47 0]) (by kernel_rfl) (allL_cons (by kernel_rfl) (zV.L4.ok k (yB.f k) stab_ hΓ_ k) allL_nil))) (fun args τ x out sel ok r hs hx => by
    unfold zV.tells at hs
    split at hs
    · rename_i a0
      cases hs
      unfold zV.f at hx
      have hr_ := zV.run k (yB.f k) a0
      rw [hx] at hr_
      exact ⟨rfl, zV.out_free _, 3, [.one (.bool)], zV.dec, hr_, fun res h => zV.dec_ok res _ h⟩
    · cases hs)
def z8.out : (Unit) ⊕ Unit → Res
  | .inl r => .ret (.tup [])
  | .inr _ => .pan (.iface 76 (.agg #[]))
def z8.dec : Res → Option ((Unit) ⊕ Unit)
  | .ret (.tup []) => some (.inl ())
  | .pan v => cond (panIs 76 v) (some (.inr ())) none
  | _ => none
theorem z8.out_free : ∀ r, (z8.out r).free = true
  | .inl _ => rfl
  | .inr _ => rfl
def z8.sel (β : Type) (t : (Unit) ⊕ Unit) (k : Res → Option β) : Option β := match t with
  | .inl r => k (.ret (.tup []))
  | .inr _ => k (.pan (.iface 76 (.agg #[])))
theorem z8.sel_ok (β : Type) (t : (Unit) ⊕ Unit) (k : Res → Option β) : z8.sel β t k = k (z8.out t) := by cases t <;> rfl
theorem z8.dec_ok (res : Res) (r : (Unit) ⊕ Unit) (h : z8.dec res = some r) : res = z8.out r := by
  unfold z8.dec at h
  split at h
  · cases h; rfl
  · rename_i v
    cases hp : panIs 76 v with
    | true => rw [hp] at h; cases h; rw [panIs_eq hp]; rfl
    | false => rw [hp] at h; cases h
  · cases h
def z8.tells (f : Bool → Option ((Unit) ⊕ Unit)) : Tells
  | [.bool a0] => some (.mk ((Unit) ⊕ Unit) (f a0) z8.out z8.sel z8.sel_ok)
  | _ => none
def z8.ce (f : Bool → Option ((Unit) ⊕ Unit)) : CE := ⟨[.one (.bool)], .flat, z8.tells f⟩
def z8.Γ : List (Nat × CE) := []
def z8.J41 : List (Nat × List Nat) := [(0, [2]), (1, [4, 5]), (1000003, [3])]
def z8.t (K : Nat) (a0 : Bool) : Option ((Unit) ⊕ Unit) :=
  bif !a0 then some (Sum.inr ()) else some (Sum.inl ())
set_option maxRecDepth 100000 in
theorem z8.run (K : Nat) (a0 : Bool) : runA Tryz.prog lay (z8.Γ) [] [] 3 ⟨z8.J41, [], 0, none, none⟩ Tryz.f41 [.bool a0] [] [] z8.dec = z8.t K a0 := by kernel_rfl
def z8.f (k : Nat) (a0 : Bool) : Option ((Unit) ⊕ Unit) := z8.t k a0
theorem z8.allOk (k : Nat) : AllOk Tryz.prog GW lay (z8.Γ) := allOk_nil
theorem z8.ok (k : Nat) : CEOk Tryz.prog GW lay 41 (z8.ce (z8.f k)) := by
  have hΓ_ := z8.allOk k
  exact tells_mk (by kernel_rfl) hΓ_ Tryz.func41 (fun args w => by kernel_rfl) (fun w w' h hb => h.step hb) no_globals (fun B wB stab_ => in_nil) (C := ⟨z8.J41, [], 0, none, none⟩) (fun B wB stab_ => bodyL (allL_of (l := []) (by kernel_rfl) allL_nil)) (fun args τ x out sel ok r hs hx => by
    unfold z8.tells at hs
    split at hs
    · rename_i a0
      cases hs
      unfold z8.f at hx
      have hr_ := z8.run k a0
      rw [hx] at hr_
      exact ⟨rfl, z8.out_free _, 3, [], z8.dec, hr_, fun res h => z8.dec_ok res _ h⟩
    · cases hs)
def zZ.out (r : ByteArray × Bool) : Res := .ret (.tup [.str r.1, .bool r.2])
def zZ.dec : Res → Option (ByteArray × Bool)
  | .ret (.tup [.str y0, .bool y1]) => some (y0, y1)
  | _ => none
theorem zZ.out_free (r : ByteArray × Bool) : (zZ.out r).free = true := rfl
def zZ.sel (β : Type) (r : ByteArray × Bool) (k : Res → Option β) : Option β := k (.ret (.tup [.str r.1, .bool r.2]))
theorem zZ.sel_ok (β : Type) (t : ByteArray × Bool) (k : Res → Option β) : zZ.sel β t k = k (zZ.out t) := rfl
theorem zZ.dec_ok (res : Res) (r : ByteArray × Bool) (h : zZ.dec res = some r) : res = zZ.out r := by
  unfold zZ.dec at h
  split at h <;> first | (cases h; rfl) | cases h
def zZ.tells (f : ByteArray → (List (List D)) → ByteArray → (List (List D)) → ByteArray → Option (ByteArray × Bool)) : Tells
  | [.agg [.str a0, .seq 52 a1, .str a2, .seq 27 a3], .str a4] => some (.mk (ByteArray × Bool) (f a0 a1 a2 a3 a4) zZ.out zZ.sel zZ.sel_ok)
  | _ => none
def zZ.ce (f : ByteArray → (List (List D)) → ByteArray → (List (List D)) → ByteArray → Option (ByteArray × Bool)) : CE := ⟨[.agg [.str, .seq 52, .str, .seq 27], .one (.str)], .flat, zZ.tells f⟩
def zZ.Γ : List (Nat × CE) := []
def zZ.J16 : List (Nat × List Nat) := [(1, [8]), (3, [13, 14]), (4, [15, 16, 17]), (5, [19, 20]), (6, [21]), (1000012, [12]), (1000018, [18])]
def zZ.L2.T : TS := ⟨[.junk, .str, .junk, .junk, .str, .bool, .junk, .junk, .junk, .seq 52, .int .i64, .int .i64, .junk, .junk, .junk, .junk, .junk, .junk, .junk, .junk, .junk, .junk], [], 0, []⟩
def zZ.L2.X0 : TS := ⟨[.junk, .junk, .junk, .junk, .str, .bool, .junk, .junk, .junk, .junk, .junk, .junk, .junk, .junk, .junk, .junk, .junk, .junk, .junk, .junk, .junk, .junk], [], 0, []⟩
def zZ.L2.X1 : TS := ⟨[.junk, .junk, .junk, .junk, .str, .bool, .junk, .junk, .junk, .junk, .junk, .junk, .junk, .junk, .junk, .junk, .junk, .junk, .junk, .junk, .junk, .junk], [], 0, []⟩
def zZ.L2.X : List (Exit × TS) := [(.exit 0, zZ.L2.X0), (.ret, zZ.L2.X1)]
def zZ.L2.dσ : List D → Option (ByteArray × ByteArray × Bool × List (List D) × Int × Int)
  | [.str x0, .str x1, .bool x2, .seq x3, .int x4, .int x5] => some (x0, x1, x2, x3, x4, x5)
  | _ => none
def zZ.L2.eσ (x : ByteArray × ByteArray × Bool × List (List D) × Int × Int) : List D := [.str x.1, .str x.2.1, .bool x.2.2.1, .seq x.2.2.2.1, .int x.2.2.2.2.1, .int x.2.2.2.2.2]
def zZ.L2.dτ : Nat → List D → Option ((ByteArray × Bool) ⊕ (ByteArray × Bool))
  | 0, [.str y0, .bool y1] => some (.inl (y0, y1))
  | 1, [.str y0, .bool y1] => some (.inr (y0, y1))
  | _, _ => none
def zZ.L2.eτ : (ByteArray × Bool) ⊕ (ByteArray × Bool) → Nat × List D
  | (.inl t) => (0, [.str t.1, .bool t.2])
  | (.inr t) => (1, [.str t.1, .bool t.2])
def zZ.L2.sel (β : Type) (t : (ByteArray × Bool) ⊕ (ByteArray × Bool)) (k : Exit → Fr → Hp → Option β) : Option β := match t with
  | (.inl r) => k (.exit 0) (bldS zZ.L2.X0 [.str r.1, .bool r.2]).1 (bldS zZ.L2.X0 [.str r.1, .bool r.2]).2
  | (.inr r) => k (.ret) (bldS zZ.L2.X1 [.str r.1, .bool r.2]).1 (bldS zZ.L2.X1 [.str r.1, .bool r.2]).2
theorem zZ.L2.sel_ok (β : Type) (t : (ByteArray × Bool) ⊕ (ByteArray × Bool)) (k : Exit → Fr → Hp → Option β) : zZ.L2.sel β t k = k (endA zZ.L2.X zZ.L2.eτ t).1 (endA zZ.L2.X zZ.L2.eτ t).2.1 (endA zZ.L2.X zZ.L2.eτ t).2.2 := by rcases t with t | t <;> rfl
theorem zZ.L2.dσ_ok (d : List D) (x : ByteArray × ByteArray × Bool × List (List D) × Int × Int) (h : zZ.L2.dσ d = some x) : zZ.L2.eσ x = d := by
  unfold zZ.L2.dσ at h
  split at h <;> first | (cases h; rfl) | cases h
theorem zZ.L2.dτ_ok (i : Nat) (d : List D) (t : (ByteArray × Bool) ⊕ (ByteArray × Bool)) (h : zZ.L2.dτ i d = some t) : zZ.L2.eτ t = (i, d) := by
  unfold zZ.L2.dτ at h
  split at h <;> first | (cases h; rfl) | cases h
def zZ.L2.S (K : Nat) (rec : (ByteArray × ByteArray × Bool × List (List D) × Int × Int) → Option ((ByteArray × Bool) ⊕ (ByteArray × Bool))) (x0 : ByteArray) (x1 : ByteArray) (x2 : Bool) (x3 : List (List D)) (x4 : Int) (x5 : Int) : Option ((ByteArray × Bool) ⊕ (ByteArray × Bool)) :=
  bif decide (x5 < x4) then if (0 : Int) ≤ x5 ∧ x5 < (↑x3.length : Int) then bif (D.at x3 x5.toNat (0 : Nat)).toStr.toList == x0.toList then some (Sum.inr ((D.at x3 x5.toNat (1 : Nat)).toStr, true)) else rec (x0, x1, x2, x3, x4, IntKind.i64.wrap (x5 + (1 : Int))) else none else some (Sum.inl (x1, x2))
set_option maxRecDepth 100000 in
theorem zZ.L2.step (K : Nat) (rec : (ByteArray × ByteArray × Bool × List (List D) × Int × Int) → Option ((ByteArray × Bool) ⊕ (ByteArray × Bool))) (x0 : ByteArray) (x1 : ByteArray) (x2 : Bool) (x3 : List (List D)) (x4 : Int) (x5 : Int) : execA Tryz.prog lay (zZ.Γ) [] (inlA Tryz.prog lay (zZ.Γ) [] 3) ⟨zZ.J16, [], 0, none, none⟩ 0 (loopAt Tryz.f16 0) (bldS zZ.L2.T (zZ.L2.eσ (x0, x1, x2, x3, x4, x5))).1 (bldS zZ.L2.T (zZ.L2.eσ (x0, x1, x2, x3, x4, x5))).2 (contA zZ.L2.T zZ.L2.X zZ.L2.dσ zZ.L2.dτ rec) = zZ.L2.S K rec x0 x1 x2 x3 x4 x5 := by kernel_rfl
def zZ.L2 (K : Nat) : Nat → (ByteArray × ByteArray × Bool × List (List D) × Int × Int) → Option ((ByteArray × Bool) ⊕ (ByteArray × Bool))
  | 0, _ => none
  | k + 1, x => zZ.L2.S K (zZ.L2 K k) x.1 x.2.1 x.2.2.1 x.2.2.2.1 x.2.2.2.2.1 x.2.2.2.2.2
theorem zZ.L2.ok (K : Nat) {B : Nat} {wB : World} (stab_ : ∀ w', Bel B wB w' → GW w') (hΓ_ : AllOk Tryz.prog GW lay (zZ.Γ)) (Kr : Nat) : LSOk Tryz.prog lay B wB [] 0 (sumA zZ.L2.T zZ.L2.X zZ.L2.dσ zZ.L2.eτ zZ.L2.sel zZ.L2.sel_ok (zZ.L2 K Kr)) (loopAt Tryz.f16 0) :=
  loop_mk (by kernel_rfl) hΓ_ stab_ (inlA_ok (by kernel_rfl) hΓ_ stab_ in_nil 3) (C := ⟨zZ.J16, [], 0, none, none⟩) (allL_of (l := []) (by kernel_rfl) allL_nil) (by decide) (by decide) zZ.L2.dσ_ok zZ.L2.dτ_ok (fun _ => rfl) (fun k x => (zZ.L2.step K (zZ.L2 K k) x.1 x.2.1 x.2.2.1 x.2.2.2.1 x.2.2.2.2.1 x.2.2.2.2.2).symm) Kr
def zZ.t (K : Nat) (a0 : ByteArray) (a1 : List (List D)) (a2 : ByteArray) (a3 : List (List D)) (a4 : ByteArray) : Option (ByteArray × Bool) :=
  (zZ.L2 K K (a4, ByteArray.mk #[], false, a1, (↑a1.length : Int), (0 : Int))).bind fun v1 => Sum.elim (fun v2 => some (ByteArray.mk #[], false)) (fun v3 => some (v3.fst, v3.snd)) v1
set_option maxRecDepth 100000 in
theorem zZ.run (K : Nat) (a0 : ByteArray) (a1 : List (List D)) (a2 : ByteArray) (a3 : List (List D)) (a4 : ByteArray) : runA Tryz.prog lay (zZ.Γ) [] [] 3 ⟨zZ.J16, [(2, 0, sumA zZ.L2.T zZ.L2.X zZ.L2.dσ zZ.L2.eτ zZ.L2.sel zZ.L2.sel_ok (zZ.L2 K K))], 0, none, none⟩ Tryz.f16 [.agg [.str a0, .seq 52 a1, .str a2, .seq 27 a3], .str a4] [] [.one (.str), .one (.bool)] zZ.dec = zZ.t K a0 a1 a2 a3 a4 := by kernel_rfl
def zZ.f (k : Nat) (a0 : ByteArray) (a1 : List (List D)) (a2 : ByteArray) (a3 : List (List D)) (a4 : ByteArray) : Option (ByteArray × Bool) := zZ.t k a0 a1 a2 a3 a4
theorem zZ.allOk (k : Nat) : AllOk Tryz.prog GW lay (zZ.Γ) := allOk_nil
theorem zZ.ok (k : Nat) : CEOk Tryz.prog GW lay 16 (zZ.ce (zZ.f k)) := by
  have hΓ_ := zZ.allOk k
  exact tells_mk (by kernel_rfl) hΓ_ Tryz.func16 (fun args w => by kernel_rfl) (fun w w' h hb => h.step hb) no_globals (fun B wB stab_ => in_nil) (C := ⟨zZ.J16, [(2, 0, sumA zZ.L2.T zZ.L2.X zZ.L2.dσ zZ.L2.eτ zZ.L2.sel zZ.L2.sel_ok (zZ.L2 k k))], 0, none, none⟩) (fun B wB stab_ => bodyL (allL_of (l := [loopAt Tryz.f16 0]) (by kernel_rfl) (allL_cons (by kernel_rfl) (zZ.L2.ok k stab_ hΓ_ k) allL_nil))) (fun args τ x out sel ok r hs hx => by
    unfold zZ.tells at hs
    split at hs
    · rename_i a0 a1 a2 a3 a4
      cases hs
      unfold zZ.f at hx
      have hr_ := zZ.run k a0 a1 a2 a3 a4
      rw [hx] at hr_
      exact ⟨rfl, zZ.out_free _, 3, [.one (.str), .one (.bool)], zZ.dec, hr_, fun res h => zZ.dec_ok res _ h⟩
    · cases hs)
def zW.out (r : Bool) : Res := .ret (.bool r)
def zW.dec : Res → Option (Bool)
  | .ret (.bool y0) => some y0
  | _ => none
theorem zW.out_free (r : Bool) : (zW.out r).free = true := rfl
def zW.sel (β : Type) (r : Bool) (k : Res → Option β) : Option β := k (.ret (.bool r))
theorem zW.sel_ok (β : Type) (t : Bool) (k : Res → Option β) : zW.sel β t k = k (zW.out t) := rfl
theorem zW.dec_ok (res : Res) (r : Bool) (h : zW.dec res = some r) : res = zW.out r := by
  unfold zW.dec at h
  split at h <;> first | (cases h; rfl) | cases h
def zW.tells (f : ByteArray → Option (Bool)) : Tells
  | [.str a0] => some (.mk (Bool) (f a0) zW.out zW.sel zW.sel_ok)
  | _ => none
def zW.ce (f : ByteArray → Option (Bool)) : CE := ⟨[.one (.str)], .flat, zW.tells f⟩
def yD.out (r : Bool) : Res := .ret (.bool r)
def yD.sel (β : Type) (r : Bool) (k : Res → Option β) : Option β := k (.ret (.bool r))
theorem yD.sel_ok (β : Type) (t : Bool) (k : Res → Option β) : yD.sel β t k = k (yD.out t) := rfl
def yD.tells (f : ByteArray → Option (Bool)) : Tells
  | [.str a0] => some (.mk (Bool) (f a0) yD.out yD.sel yD.sel_ok)
  | _ => none
def yD.ce (f : ByteArray → Option (Bool)) : CE := ⟨[.one (.str)], .flat, yD.tells f⟩
theorem yD.ok (k : Nat) : CEOk Tryz.prog GW lay 75 (yD.ce (yG.f)) :=
  tells_simple (fun args w => by kernel_rfl) fun args τ x out sel ok r hs hx => by
    unfold yD.tells at hs
    split at hs
    · cases hs
      exact ⟨rfl, _, rfl, rfl, fun w hw => yG.calls _ r w hw hx⟩
    · cases hs
def zW.Γ (f74 : Int → Option (Bool)) (f75 : ByteArray → Option (Bool)) : List (Nat × CE) := [(74, yF.ce f74), (75, yD.ce f75)]
def zW.J49 : List (Nat × List Nat) := [(1, [5]), (3, [9]), (4, [10, 11]), (6, [13, 14]), (1000008, [8]), (1000012, [12])]
def zW.L2.T : TS := ⟨[.str, .junk, .bool, .junk, .junk, .junk, .ptr 0 0, .junk, .junk, .junk, .junk, .junk, .junk, .junk, .junk], [.iter], 0, [(6, none)]⟩
def zW.L2.X0 : TS := ⟨[.str, .junk, .bool, .junk, .junk, .junk, .junk, .junk, .junk, .junk, .junk, .junk, .junk, .junk, .junk], [], 0, []⟩
def zW.L2.X1 : TS := ⟨[.junk, .junk, .bool, .junk, .junk, .junk, .junk, .junk, .junk, .junk, .junk, .junk, .junk, .junk, .junk], [], 0, []⟩
def zW.L2.X : List (Exit × TS) := [(.exit 0, zW.L2.X0), (.ret, zW.L2.X1)]
def zW.L2.dσ : List D → Option (ByteArray × Bool × ByteArray × Int)
  | [.str x0, .bool x1, .str x2, .int x3] => some (x0, x1, x2, x3)
  | _ => none
def zW.L2.eσ (x : ByteArray × Bool × ByteArray × Int) : List D := [.str x.1, .bool x.2.1, .str x.2.2.1, .int x.2.2.2]
def zW.L2.dτ : Nat → List D → Option ((ByteArray × Bool) ⊕ (Bool))
  | 0, [.str y0, .bool y1] => some (.inl (y0, y1))
  | 1, [.bool y0] => some (.inr y0)
  | _, _ => none
def zW.L2.eτ : (ByteArray × Bool) ⊕ (Bool) → Nat × List D
  | (.inl t) => (0, [.str t.1, .bool t.2])
  | (.inr t) => (1, [.bool t])
def zW.L2.sel (β : Type) (t : (ByteArray × Bool) ⊕ (Bool)) (k : Exit → Fr → Hp → Option β) : Option β := match t with
  | (.inl r) => k (.exit 0) (bldS zW.L2.X0 [.str r.1, .bool r.2]).1 (bldS zW.L2.X0 [.str r.1, .bool r.2]).2
  | (.inr r) => k (.ret) (bldS zW.L2.X1 [.bool r]).1 (bldS zW.L2.X1 [.bool r]).2
theorem zW.L2.sel_ok (β : Type) (t : (ByteArray × Bool) ⊕ (Bool)) (k : Exit → Fr → Hp → Option β) : zW.L2.sel β t k = k (endA zW.L2.X zW.L2.eτ t).1 (endA zW.L2.X zW.L2.eτ t).2.1 (endA zW.L2.X zW.L2.eτ t).2.2 := by rcases t with t | t <;> rfl
theorem zW.L2.dσ_ok (d : List D) (x : ByteArray × Bool × ByteArray × Int) (h : zW.L2.dσ d = some x) : zW.L2.eσ x = d := by
  unfold zW.L2.dσ at h
  split at h <;> first | (cases h; rfl) | cases h
theorem zW.L2.dτ_ok (i : Nat) (d : List D) (t : (ByteArray × Bool) ⊕ (Bool)) (h : zW.L2.dτ i d = some t) : zW.L2.eτ t = (i, d) := by
  unfold zW.L2.dτ at h
  split at h <;> first | (cases h; rfl) | cases h
def zW.L2.S (K : Nat) (f74 : Int → Option (Bool)) (f75 : ByteArray → Option (Bool)) (rec : (ByteArray × Bool × ByteArray × Int) → Option ((ByteArray × Bool) ⊕ (Bool))) (x0 : ByteArray) (x1 : Bool) (x2 : ByteArray) (x3 : Int) : Option ((ByteArray × Bool) ⊕ (Bool)) :=
  if x3.toNat < x2.size then (f74 (↑(Utf8.decode x2 x3.toNat).fst : Int)).bind fun v1 => bif !v1 then some (Sum.inr false) else rec (x0, x1, x2, (↑(x3.toNat + (Utf8.decode x2 x3.toNat).snd) : Int)) else some (Sum.inl (x0, x1))
set_option maxRecDepth 100000 in
theorem zW.L2.step (K : Nat) (f74 : Int → Option (Bool)) (f75 : ByteArray → Option (Bool)) (rec : (ByteArray × Bool × ByteArray × Int) → Option ((ByteArray × Bool) ⊕ (Bool))) (x0 : ByteArray) (x1 : Bool) (x2 : ByteArray) (x3 : Int) : execA Tryz.prog lay (zW.Γ f74 f75) [] (inlA Tryz.prog lay (zW.Γ f74 f75) [] 3) ⟨zW.J49, [], 0, none, none⟩ 0 (loopAt Tryz.f49 0) (bldS zW.L2.T (zW.L2.eσ (x0, x1, x2, x3))).1 (bldS zW.L2.T (zW.L2.eσ (x0, x1, x2, x3))).2 (contA zW.L2.T zW.L2.X zW.L2.dσ zW.L2.dτ rec) = zW.L2.S K f74 f75 rec x0 x1 x2 x3 := by kernel_rfl
def zW.L2 (K : Nat) (f74 : Int → Option (Bool)) (f75 : ByteArray → Option (Bool)) : Nat → (ByteArray × Bool × ByteArray × Int) → Option ((ByteArray × Bool) ⊕ (Bool))
  | 0, _ => none
  | k + 1, x => zW.L2.S K f74 f75 (zW.L2 K f74 f75 k) x.1 x.2.1 x.2.2.1 x.2.2.2
theorem zW.L2.ok (K : Nat) (f74 : Int → Option (Bool)) (f75 : ByteArray → Option (Bool)) {B : Nat} {wB : World} (stab_ : ∀ w', Bel B wB w' → GW w') (hΓ_ : AllOk Tryz.prog GW lay (zW.Γ f74 f75)) (Kr : Nat) : LSOk Tryz.prog lay B wB [] 0 (sumA zW.L2.T zW.L2.X zW.L2.dσ zW.L2.eτ zW.L2.sel zW.L2.sel_ok (zW.L2 K f74 f75 Kr)) (loopAt Tryz.f49 0) :=
  loop_mk (by kernel_rfl) hΓ_ stab_ (inlA_ok (by kernel_rfl) hΓ_ stab_ in_nil 3) (C := ⟨zW.J49, [], 0, none, none⟩) (allL_of (l := []) (by kernel_rfl) allL_nil) (by decide) (by decide) zW.L2.dσ_ok zW.L2.dτ_ok (fun _ => rfl) (fun k x => (zW.L2.step K f74 f75 (zW.L2 K f74 f75 k) x.1 x.2.1 x.2.2.1 x.2.2.2).symm) Kr
def zW.t (K : Nat) (f74 : Int → Option (Bool)) (f75 : ByteArray → Option (Bool)) (a0 : ByteArray) : Option (Bool) :=
  (zW.L2 K f74 f75 K (a0, false, a0, (↑(0 : Nat) : Int))).bind fun v1 => Sum.elim (fun v2 => (f75 v2.fst).bind fun v3 => some v3) (fun v4 => some v4) v1
set_option maxRecDepth 100000 in
theorem zW.run (K : Nat) (f74 : Int → Option (Bool)) (f75 : ByteArray → Option (Bool)) (a0 : ByteArray) : runA Tryz.prog lay (zW.Γ f74 f75) [] [] 3 ⟨zW.J49, [(2, 0, sumA zW.L2.T zW.L2.X zW.L2.dσ zW.L2.eτ zW.L2.sel zW.L2.sel_ok (zW.L2 K f74 f75 K))], 0, none, none⟩ Tryz.f49 [.str a0] [] [.one (.bool)] zW.dec = zW.t K f74 f75 a0 := by kernel_rfl
def zW.f (k : Nat) (a0 : ByteArray) : Option (Bool) := zW.t k (yF.f k) (yG.f) a0
theorem zW.allOk (k : Nat) : AllOk Tryz.prog GW lay (zW.Γ (yF.f k) (yG.f)) := (allOk_cons (yF.ok k) (allOk_cons (yD.ok k) allOk_nil))
theorem zW.ok (k : Nat) : CEOk Tryz.prog GW lay 49 (zW.ce (zW.f k)) := by
  have hΓ_ := zW.allOk k
  exact tells_mk (by kernel_rfl) hΓ_ Tryz.func49 (fun args w => by kernel_rfl) (fun w w' h hb => h.step hb) no_globals (fun B wB stab_ => in_nil) (C := ⟨zW.J49, [(2, 0, sumA zW.L2.T zW.L2.X zW.L2.dσ zW.L2.eτ zW.L2.sel zW.L2.sel_ok (zW.L2 k (yF.f k) (yG.f) k))], 0, none, none⟩) (fun B wB stab_ => bodyL (allL_of (l := [loopAt Tryz.f49 0]) (by kernel_rfl) (allL_cons (by kernel_rfl) (zW.L2.ok k (yF.f k) (yG.f) stab_ hΓ_ k) allL_nil))) (fun args τ x out sel ok r hs hx => by
    unfold zW.tells at hs
    split at hs
    · rename_i a0
      cases hs
      unfold zW.f at hx
      have hr_ := zW.run k (yF.f k) (yG.f) a0
      rw [hx] at hr_
      exact ⟨rfl, zW.out_free _, 3, [.one (.bool)], zW.dec, hr_, fun res h => zW.dec_ok res _ h⟩
    · cases hs)
def zS.out (r : Bool) : Res := .ret (.bool r)
def zS.dec : Res → Option (Bool)
  | .ret (.bool y0) => some y0
  | _ => none
theorem zS.out_free (r : Bool) : (zS.out r).free = true := rfl
def zS.sel (β : Type) (r : Bool) (k : Res → Option β) : Option β := k (.ret (.bool r))
theorem zS.sel_ok (β : Type) (t : Bool) (k : Res → Option β) : zS.sel β t k = k (zS.out t) := rfl
theorem zS.dec_ok (res : Res) (r : Bool) (h : zS.dec res = some r) : res = zS.out r := by
  unfold zS.dec at h
  split at h <;> first | (cases h; rfl) | cases h
def zS.tells (f : Int → Option (Bool)) : Tells
  | [.int .i32 a0] => some (.mk (Bool) (f a0) zS.out zS.sel zS.sel_ok)
  | _ => none
def zS.ce (f : Int → Option (Bool)) : CE := ⟨[.one (.int .i32)], .flat, zS.tells f⟩
def zS.Γ : List (Nat × CE) := []
def zS.J129 : List (Nat × List Nat) := [(1, [4, 5, 6, 7, 8, 9]), (3, [11, 12, 13, 14, 15, 16]), (1000003, [3]), (1000010, [10])]
def zS.t.J1 (a0 : Int) : Option (Bool) :=
  bif decide ((57343 : Int) < a0) then bif decide (a0 ≤ (1114111 : Int)) then some true else some false else some false
def zS.t (K : Nat) (a0 : Int) : Option (Bool) :=
  bif decide ((0 : Int) ≤ a0) then bif decide (a0 < (55296 : Int)) then some true else zS.t.J1 a0 else zS.t.J1 a0
set_option maxRecDepth 100000 in
theorem zS.run (K : Nat) (a0 : Int) : runA Tryz.prog lay (zS.Γ) [] [] 3 ⟨zS.J129, [], 0, none, none⟩ Tryz.f129 [.int .i32 a0] [] [.one (.bool)] zS.dec = zS.t K a0 := by kernel_rfl
def zS.f (k : Nat) (a0 : Int) : Option (Bool) := zS.t k a0
theorem zS.allOk (k : Nat) : AllOk Tryz.prog GW lay (zS.Γ) := allOk_nil
theorem zS.ok (k : Nat) : CEOk Tryz.prog GW lay 129 (zS.ce (zS.f k)) := by
  have hΓ_ := zS.allOk k
  exact tells_mk (by kernel_rfl) hΓ_ Tryz.func129 (fun args w => by kernel_rfl) (fun w w' h hb => h.step hb) no_globals (fun B wB stab_ => in_nil) (C := ⟨zS.J129, [], 0, none, none⟩) (fun B wB stab_ => bodyL (allL_of (l := []) (by kernel_rfl) allL_nil)) (fun args τ x out sel ok r hs hx => by
    unfold zS.tells at hs
    split at hs
    · rename_i a0
      cases hs
      unfold zS.f at hx
      have hr_ := zS.run k a0
      rw [hx] at hr_
      exact ⟨rfl, zS.out_free _, 3, [.one (.bool)], zS.dec, hr_, fun res h => zS.dec_ok res _ h⟩
    · cases hs)

end Go.Proofs.YtphlamnaaogmaaaGreatDoor.M
