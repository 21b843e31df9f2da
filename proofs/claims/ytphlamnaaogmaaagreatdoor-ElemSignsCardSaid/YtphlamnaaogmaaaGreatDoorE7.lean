import Derived.Test.YtphlamnaaogmaaaGreatDoorE4
set_option linter.unusedVariables false
set_option linter.unusedSimpArgs false
set_option maxRecDepth 100000
namespace Go.Proofs.YtphlamnaaogmaaaGreatDoor.M
open Go Go.RowKit Go.Proofs Go.Proofs.Qx 

abbrev Dc : Type := ByteArray × Int × Int × ByteArray × List (List D) × ByteArray × List (List D) × Bool × List (List D)
def yI.out (r : Bool) : Res := .ret (.bool r)
def yI.sel (β : Type) (r : Bool) (k : Res → Option β) : Option β := k (.ret (.bool r))
theorem yI.sel_ok (β : Type) (t : Bool) (k : Res → Option β) : yI.sel β t k = k (yI.out t) := rfl
def yI.tells (f : ByteArray → ByteArray → Option (Bool)) : Tells
  | [.str a0, .str a1] => some (.mk (Bool) (f a0 a1) yI.out yI.sel yI.sel_ok)
  | _ => none
def yI.ce (f : ByteArray → ByteArray → Option (Bool)) : CE := ⟨[.one (.str), .one (.str)], .flat, yI.tells f⟩
theorem yI.ok (k : Nat) : CEOk Tryz.prog GW lay 96 (yI.ce (strings_HasPrefix.f)) :=
  tells_simple (fun args w => by kernel_rfl) fun args τ x out sel ok r hs hx => by
    unfold yI.tells at hs
    split at hs
    · cases hs
      exact ⟨rfl, _, rfl, rfl, fun w hw => strings_HasPrefix.calls _ _ r w hx⟩
    · cases hs
def zO.Γ (f96 : ByteArray → ByteArray → Option (Bool)) : List (Nat × CE) := [(96, yI.ce f96)]
def zO.J78 : List (Nat × List Nat) := [(1, [5, 6, 7, 8, 9, 10, 11, 12, 13, 14, 15])]
def zO.T : TS := ⟨[.ptr 0 0, .str], [.cells 74 [.str, .int .i64, .int .i64, .rs 1 0, .str, .seq 52, .str, .seq 27, .bool] .own, .trow 27 0], 0, [(0, none), (0, some 3)]⟩
def zO.X0 : TS := ⟨[.bool], [.cells 74 [.str, .int .i64, .int .i64, .rs 1 0, .str, .seq 52, .str, .seq 27, .bool] .own, .trow 27 0], 2, []⟩
def zO.X : List (Exit × TS) := [(.ret, zO.X0)]
def zO.dσ : List D → Option (ByteArray × Dc)
  | [.str x0, .str x1, .int x2, .int x3, .str x4, .seq x5, .str x6, .seq x7, .bool x8, .seq x9] => some (x0, x1, x2, x3, x4, x5, x6, x7, x8, x9)
  | _ => none
def zO.eσ (x : ByteArray × Dc) : List D := [.str x.1, .str x.2.1, .int x.2.2.1, .int x.2.2.2.1, .str x.2.2.2.2.1, .seq x.2.2.2.2.2.1, .str x.2.2.2.2.2.2.1, .seq x.2.2.2.2.2.2.2.1, .bool x.2.2.2.2.2.2.2.2.1, .seq x.2.2.2.2.2.2.2.2.2]
def zO.dτ : Nat → List D → Option (Bool × Dc)
  | 0, [.bool y0, .str y1, .int y2, .int y3, .str y4, .seq y5, .str y6, .seq y7, .bool y8, .seq y9] => some (y0, y1, y2, y3, y4, y5, y6, y7, y8, y9)
  | _, _ => none
def zO.eτ (t : Bool × Dc) : Nat × List D := (0, [.bool t.1, .str t.2.1, .int t.2.2.1, .int t.2.2.2.1, .str t.2.2.2.2.1, .seq t.2.2.2.2.2.1, .str t.2.2.2.2.2.2.1, .seq t.2.2.2.2.2.2.2.1, .bool t.2.2.2.2.2.2.2.2.1, .seq t.2.2.2.2.2.2.2.2.2])
def zO.sel (ρ : List Nat) (q : List (Option Nat)) (h : Hp) (β : Type) (t : Bool × Dc) (k : Res → Hp → Option β) : Option β := k (endM ρ q h (.ret) (bldS zO.X0 [.bool t.1, .str t.2.1, .int t.2.2.1, .int t.2.2.2.1, .str t.2.2.2.2.1, .seq t.2.2.2.2.2.1, .str t.2.2.2.2.2.2.1, .seq t.2.2.2.2.2.2.2.1, .bool t.2.2.2.2.2.2.2.2.1, .seq t.2.2.2.2.2.2.2.2.2])).1 (endM ρ q h (.ret) (bldS zO.X0 [.bool t.1, .str t.2.1, .int t.2.2.1, .int t.2.2.2.1, .str t.2.2.2.2.1, .seq t.2.2.2.2.2.1, .str t.2.2.2.2.2.2.1, .seq t.2.2.2.2.2.2.2.1, .bool t.2.2.2.2.2.2.2.2.1, .seq t.2.2.2.2.2.2.2.2.2])).2
theorem zO.sel_ok (ρ : List Nat) (q : List (Option Nat)) (h : Hp) (β : Type) (t : Bool × Dc) (k : Res → Hp → Option β) : zO.sel ρ q h β t k = k (endM ρ q h (endA zO.X zO.eτ t).1 (endA zO.X zO.eτ t).2).1 (endM ρ q h (endA zO.X zO.eτ t).1 (endA zO.X zO.eτ t).2).2 := by rfl
def zO.mem (L : (ByteArray × Dc) → Option (Bool × Dc)) : MSum := memA zO.T zO.X zO.dσ zO.eτ zO.sel zO.sel_ok L
def zO.t (K : Nat) (f96 : ByteArray → ByteArray → Option (Bool)) (x0 : ByteArray) (x1 : ByteArray) (x2 : Int) (x3 : Int) (x4 : ByteArray) (x5 : List (List D)) (x6 : ByteArray) (x7 : List (List D)) (x8 : Bool) (x9 : List (List D)) : Option (Bool × Dc) :=
  if (0 : Int) ≤ (↑x1.size : Int) ∧ (↑x1.size : Int) ≤ (↑x1.size : Int) then if (0 : Int) ≤ x3 ∧ x3 ≤ (↑x1.size : Int) then (f96 (x1.extract x3.toNat (↑x1.size : Int).toNat) x0).bind fun v1 => some (v1, x1, x2, x3, x4, x5, x6, x7, x8, x9) else none else none
set_option maxRecDepth 100000 in
theorem zO.run (K : Nat) (f96 : ByteArray → ByteArray → Option (Bool)) (x0 : ByteArray) (x1 : ByteArray) (x2 : Int) (x3 : Int) (x4 : ByteArray) (x5 : List (List D)) (x6 : ByteArray) (x7 : List (List D)) (x8 : Bool) (x9 : List (List D)) : bodyC Tryz.prog lay (zO.Γ f96) [] (inlA Tryz.prog lay (zO.Γ f96) [] 3) ⟨zO.J78, [], 0, none, none⟩ Tryz.f78 (bldS zO.T (zO.eσ (x0, x1, x2, x3, x4, x5, x6, x7, x8, x9))).1 (bldS zO.T (zO.eσ (x0, x1, x2, x3, x4, x5, x6, x7, x8, x9))).2 (contM zO.X zO.dτ) = zO.t K f96 x0 x1 x2 x3 x4 x5 x6 x7 x8 x9 := by kernel_rfl
def zO.f (k : Nat) (x : (ByteArray × Dc)) : Option (Bool × Dc) := zO.t k (strings_HasPrefix.f) x.1 x.2.1 x.2.2.1 x.2.2.2.1 x.2.2.2.2.1 x.2.2.2.2.2.1 x.2.2.2.2.2.2.1 x.2.2.2.2.2.2.2.1 x.2.2.2.2.2.2.2.2.1 x.2.2.2.2.2.2.2.2.2
theorem zO.dσ_ok (d : List D) (x : (ByteArray × Dc)) (h : zO.dσ d = some x) : zO.eσ x = d := by
  unfold zO.dσ at h
  split at h <;> first | (cases h; rfl) | cases h
theorem zO.dτ_ok (i : Nat) (d : List D) (t : Bool × Dc) (h : zO.dτ i d = some t) : zO.eτ t = (i, d) := by
  unfold zO.dτ at h
  split at h <;> first | (cases h; rfl) | cases h
theorem zO.allOk (k : Nat) : AllOk Tryz.prog GW lay (zO.Γ (strings_HasPrefix.f)) := (allOk_cons (yI.ok k) allOk_nil)
theorem zO.ok (k : Nat) {B : Nat} {wB : World} (stab_ : ∀ w', Bel B wB w' → GW w') : HandM Tryz.prog lay B wB 78 (zO.mem (zO.f k)) := by
  have hΓ_ := zO.allOk k
  exact mem_mk (by kernel_rfl) hΓ_ stab_ (inlA_ok (by kernel_rfl) hΓ_ stab_ in_nil 3) (C := ⟨zO.J78, [], 0, none, none⟩) Tryz.func78 (bodyL (allL_of (l := []) (by kernel_rfl) allL_nil)) (by kernel_rfl) (by kernel_rfl) zO.dσ_ok zO.dτ_ok (fun x => zO.run k (strings_HasPrefix.f) x.1 x.2.1 x.2.2.1 x.2.2.2.1 x.2.2.2.2.1 x.2.2.2.2.2.1 x.2.2.2.2.2.2.1 x.2.2.2.2.2.2.2.1 x.2.2.2.2.2.2.2.2.1 x.2.2.2.2.2.2.2.2.2)
def zN.Γ : List (Nat × CE) := []
def zN.J54 : List (Nat × List Nat) := [(1, [5, 6, 7]), (3, [9, 10, 11, 12, 13, 14, 15, 16, 17]), (1000008, [8])]
def zN.T : TS := ⟨[.ptr 0 0, .str], [.cells 74 [.str, .int .i64, .int .i64, .rs 1 0, .str, .seq 52, .str, .seq 27, .bool] .own, .trow 27 0], 0, [(0, none), (0, some 3)]⟩
def zN.X0 : TS := ⟨[.bool], [.cells 74 [.str, .int .i64, .int .i64, .rs 1 0, .str, .seq 52, .str, .seq 27, .bool] .own, .trow 27 0], 2, []⟩
def zN.X : List (Exit × TS) := [(.ret, zN.X0)]
def zN.dσ : List D → Option (ByteArray × Dc)
  | [.str x0, .str x1, .int x2, .int x3, .str x4, .seq x5, .str x6, .seq x7, .bool x8, .seq x9] => some (x0, x1, x2, x3, x4, x5, x6, x7, x8, x9)
  | _ => none
def zN.eσ (x : ByteArray × Dc) : List D := [.str x.1, .str x.2.1, .int x.2.2.1, .int x.2.2.2.1, .str x.2.2.2.2.1, .seq x.2.2.2.2.2.1, .str x.2.2.2.2.2.2.1, .seq x.2.2.2.2.2.2.2.1, .bool x.2.2.2.2.2.2.2.2.1, .seq x.2.2.2.2.2.2.2.2.2]
def zN.dτ : Nat → List D → Option (Bool × Dc)
  | 0, [.bool y0, .str y1, .int y2, .int y3, .str y4, .seq y5, .str y6, .seq y7, .bool y8, .seq y9] => some (y0, y1, y2, y3, y4, y5, y6, y7, y8, y9)
  | _, _ => none
def zN.eτ (t : Bool × Dc) : Nat × List D := (0, [.bool t.1, .str t.2.1, .int t.2.2.1, .int t.2.2.2.1, .str t.2.2.2.2.1, .seq t.2.2.2.2.2.1, .str t.2.2.2.2.2.2.1, .seq t.2.2.2.2.2.2.2.1, .bool t.2.2.2.2.2.2.2.2.1, .seq t.2.2.2.2.2.2.2.2.2])
def zN.sel (ρ : List Nat) (q : List (Option Nat)) (h : Hp) (β : Type) (t : Bool × Dc) (k : Res → Hp → Option β) : Option β := k (endM ρ q h (.ret) (bldS zN.X0 [.bool t.1, .str t.2.1, .int t.2.2.1, .int t.2.2.2.1, .str t.2.2.2.2.1, .seq t.2.2.2.2.2.1, .str t.2.2.2.2.2.2.1, .seq t.2.2.2.2.2.2.2.1, .bool t.2.2.2.2.2.2.2.2.1, .seq t.2.2.2.2.2.2.2.2.2])).1 (endM ρ q h (.ret) (bldS zN.X0 [.bool t.1, .str t.2.1, .int t.2.2.1, .int t.2.2.2.1, .str t.2.2.2.2.1, .seq t.2.2.2.2.2.1, .str t.2.2.2.2.2.2.1, .seq t.2.2.2.2.2.2.2.1, .bool t.2.2.2.2.2.2.2.2.1, .seq t.2.2.2.2.2.2.2.2.2])).2
theorem zN.sel_ok (ρ : List Nat) (q : List (Option Nat)) (h : Hp) (β : Type) (t : Bool × Dc) (k : Res → Hp → Option β) : zN.sel ρ q h β t k = k (endM ρ q h (endA zN.X zN.eτ t).1 (endA zN.X zN.eτ t).2).1 (endM ρ q h (endA zN.X zN.eτ t).1 (endA zN.X zN.eτ t).2).2 := by rfl
def zN.mem (L : (ByteArray × Dc) → Option (Bool × Dc)) : MSum := memA zN.T zN.X zN.dσ zN.eτ zN.sel zN.sel_ok L
def zN.t (K : Nat) (f78 : (ByteArray × Dc) → Option (Bool × Dc)) (x0 : ByteArray) (x1 : ByteArray) (x2 : Int) (x3 : Int) (x4 : ByteArray) (x5 : List (List D)) (x6 : ByteArray) (x7 : List (List D)) (x8 : Bool) (x9 : List (List D)) : Option (Bool × Dc) :=
  (f78 (x0, x1, x2, x3, x4, x5, x6, x7, x8, x9)).bind fun v1 => bif !v1.fst then some (false, v1.q1, v1.q2, v1.q3, v1.q4, v1.q5, v1.q6, v1.q7, v1.q8, v1.r9) else some (true, v1.q1, v1.q2, IntKind.i64.wrap (v1.q3 + (↑x0.size : Int)), v1.q4, v1.q5, v1.q6, v1.q7, v1.q8, v1.r9)
set_option maxRecDepth 100000 in
theorem zN.run (K : Nat) (f78 : (ByteArray × Dc) → Option (Bool × Dc)) (x0 : ByteArray) (x1 : ByteArray) (x2 : Int) (x3 : Int) (x4 : ByteArray) (x5 : List (List D)) (x6 : ByteArray) (x7 : List (List D)) (x8 : Bool) (x9 : List (List D)) : bodyC Tryz.prog lay (zN.Γ) [] (inlA Tryz.prog lay (zN.Γ) [(78, Tryz.f78, ⟨[], [], 0, none, some (zO.mem f78)⟩)] 3) ⟨zN.J54, [], 0, none, none⟩ Tryz.f54 (bldS zN.T (zN.eσ (x0, x1, x2, x3, x4, x5, x6, x7, x8, x9))).1 (bldS zN.T (zN.eσ (x0, x1, x2, x3, x4, x5, x6, x7, x8, x9))).2 (contM zN.X zN.dτ) = zN.t K f78 x0 x1 x2 x3 x4 x5 x6 x7 x8 x9 := by kernel_rfl
def zN.f (k : Nat) (x : (ByteArray × Dc)) : Option (Bool × Dc) := zN.t k (zO.f k) x.1 x.2.1 x.2.2.1 x.2.2.2.1 x.2.2.2.2.1 x.2.2.2.2.2.1 x.2.2.2.2.2.2.1 x.2.2.2.2.2.2.2.1 x.2.2.2.2.2.2.2.2.1 x.2.2.2.2.2.2.2.2.2
theorem zN.dσ_ok (d : List D) (x : (ByteArray × Dc)) (h : zN.dσ d = some x) : zN.eσ x = d := by
  unfold zN.dσ at h
  split at h <;> first | (cases h; rfl) | cases h
theorem zN.dτ_ok (i : Nat) (d : List D) (t : Bool × Dc) (h : zN.dτ i d = some t) : zN.eτ t = (i, d) := by
  unfold zN.dτ at h
  split at h <;> first | (cases h; rfl) | cases h
theorem zN.allOk (k : Nat) : AllOk Tryz.prog GW lay (zN.Γ) := allOk_nil
theorem zN.ok (k : Nat) {B : Nat} {wB : World} (stab_ : ∀ w', Bel B wB w' → GW w') : HandM Tryz.prog lay B wB 54 (zN.mem (zN.f k)) := by
  have hΓ_ := zN.allOk k
  exact mem_mk (by kernel_rfl) hΓ_ stab_ (inlA_ok (by kernel_rfl) hΓ_ stab_ (in_mem in_nil (fun args w => by kernel_rfl) rfl (zO.ok k stab_)) 3) (C := ⟨zN.J54, [], 0, none, none⟩) Tryz.func54 (bodyL (allL_of (l := []) (by kernel_rfl) allL_nil)) (by kernel_rfl) (by kernel_rfl) zN.dσ_ok zN.dτ_ok (fun x => zN.run k (zO.f k) x.1 x.2.1 x.2.2.1 x.2.2.2.1 x.2.2.2.2.1 x.2.2.2.2.2.1 x.2.2.2.2.2.2.1 x.2.2.2.2.2.2.2.1 x.2.2.2.2.2.2.2.2.1 x.2.2.2.2.2.2.2.2.2)
def yM.out (r : Int) : Res := .ret (.int .i64 r)
def yM.sel (β : Type) (r : Int) (k : Res → Option β) : Option β := k (.ret (.int .i64 r))
theorem yM.sel_ok (β : Type) (t : Int) (k : Res → Option β) : yM.sel β t k = k (yM.out t) := rfl
def yM.tells (f : ByteArray → ByteArray → Option (Int)) : Tells
  | [.str a0, .str a1] => some (.mk (Int) (f a0 a1) yM.out yM.sel yM.sel_ok)
  | _ => none
def yM.ce (f : ByteArray → ByteArray → Option (Int)) : CE := ⟨[.one (.str), .one (.str)], .flat, yM.tells f⟩
theorem yM.ok (k : Nat) : CEOk Tryz.prog GW lay 79 (yM.ce (strings_Index.f)) :=
  tells_simple (fun args w => by kernel_rfl) fun args τ x out sel ok r hs hx => by
    unfold yM.tells at hs
    split at hs
    · cases hs
      exact ⟨rfl, _, rfl, rfl, fun w hw => strings_Index.calls _ _ r w hw hx⟩
    · cases hs
def zR.Γ (f41 : Bool → Option ((Unit) ⊕ Unit)) (f79 : ByteArray → ByteArray → Option (Int)) : List (Nat × CE) := [(41, z8.ce f41), (79, yM.ce f79)]
def zR.J55 : List (Nat × List Nat) := [(0, [5, 6, 7, 8, 9, 10, 11, 12, 13, 14, 15]), (1, [16, 17, 18]), (2, [19, 20, 21, 22, 23, 24, 25, 26, 27, 28, 29])]
def zR.T : TS := ⟨[.ptr 0 0, .str], [.cells 74 [.str, .int .i64, .int .i64, .rs 1 0, .str, .seq 52, .str, .seq 27, .bool] .own, .trow 27 0], 0, [(0, none), (0, some 3)]⟩
def zR.X0 : TS := ⟨[.junk], [.cells 74 [.str, .int .i64, .int .i64, .rs 1 0, .str, .seq 52, .str, .seq 27, .bool] .own, .trow 27 0], 2, []⟩
def zR.X1 : TS := ⟨[], [.cells 74 [.str, .int .i64, .int .i64, .rs 1 0, .str, .seq 52, .str, .seq 27, .bool] .own, .trow 27 0], 2, []⟩
def zR.X : List (Exit × TS) := [(.ret, zR.X0), (.panic [⟨.iface 76 (.agg #[]), false, false⟩], zR.X1)]
def zR.dσ : List D → Option (ByteArray × Dc)
  | [.str x0, .str x1, .int x2, .int x3, .str x4, .seq x5, .str x6, .seq x7, .bool x8, .seq x9] => some (x0, x1, x2, x3, x4, x5, x6, x7, x8, x9)
  | _ => none
def zR.eσ (x : ByteArray × Dc) : List D := [.str x.1, .str x.2.1, .int x.2.2.1, .int x.2.2.2.1, .str x.2.2.2.2.1, .seq x.2.2.2.2.2.1, .str x.2.2.2.2.2.2.1, .seq x.2.2.2.2.2.2.2.1, .bool x.2.2.2.2.2.2.2.2.1, .seq x.2.2.2.2.2.2.2.2.2]
def zR.dτ : Nat → List D → Option ((Dc) ⊕ (Dc))
  | 0, [.str y0, .int y1, .int y2, .str y3, .seq y4, .str y5, .seq y6, .bool y7, .seq y8] => some (.inl (y0, y1, y2, y3, y4, y5, y6, y7, y8))
  | 1, [.str y0, .int y1, .int y2, .str y3, .seq y4, .str y5, .seq y6, .bool y7, .seq y8] => some (.inr (y0, y1, y2, y3, y4, y5, y6, y7, y8))
  | _, _ => none
def zR.eτ : (Dc) ⊕ (Dc) → Nat × List D
  | (.inl t) => (0, [.str t.1, .int t.2.1, .int t.2.2.1, .str t.2.2.2.1, .seq t.2.2.2.2.1, .str t.2.2.2.2.2.1, .seq t.2.2.2.2.2.2.1, .bool t.2.2.2.2.2.2.2.1, .seq t.2.2.2.2.2.2.2.2])
  | (.inr t) => (1, [.str t.1, .int t.2.1, .int t.2.2.1, .str t.2.2.2.1, .seq t.2.2.2.2.1, .str t.2.2.2.2.2.1, .seq t.2.2.2.2.2.2.1, .bool t.2.2.2.2.2.2.2.1, .seq t.2.2.2.2.2.2.2.2])
def zR.sel (ρ : List Nat) (q : List (Option Nat)) (h : Hp) (β : Type) (t : (Dc) ⊕ (Dc)) (k : Res → Hp → Option β) : Option β := match t with
  | (.inl r) => k (endM ρ q h (.ret) (bldS zR.X0 [.str r.1, .int r.2.1, .int r.2.2.1, .str r.2.2.2.1, .seq r.2.2.2.2.1, .str r.2.2.2.2.2.1, .seq r.2.2.2.2.2.2.1, .bool r.2.2.2.2.2.2.2.1, .seq r.2.2.2.2.2.2.2.2])).1 (endM ρ q h (.ret) (bldS zR.X0 [.str r.1, .int r.2.1, .int r.2.2.1, .str r.2.2.2.1, .seq r.2.2.2.2.1, .str r.2.2.2.2.2.1, .seq r.2.2.2.2.2.2.1, .bool r.2.2.2.2.2.2.2.1, .seq r.2.2.2.2.2.2.2.2])).2
  | (.inr r) => k (endM ρ q h (.panic [⟨.iface 76 (.agg #[]), false, false⟩]) (bldS zR.X1 [.str r.1, .int r.2.1, .int r.2.2.1, .str r.2.2.2.1, .seq r.2.2.2.2.1, .str r.2.2.2.2.2.1, .seq r.2.2.2.2.2.2.1, .bool r.2.2.2.2.2.2.2.1, .seq r.2.2.2.2.2.2.2.2])).1 (endM ρ q h (.panic [⟨.iface 76 (.agg #[]), false, false⟩]) (bldS zR.X1 [.str r.1, .int r.2.1, .int r.2.2.1, .str r.2.2.2.1, .seq r.2.2.2.2.1, .str r.2.2.2.2.2.1, .seq r.2.2.2.2.2.2.1, .bool r.2.2.2.2.2.2.2.1, .seq r.2.2.2.2.2.2.2.2])).2
theorem zR.sel_ok (ρ : List Nat) (q : List (Option Nat)) (h : Hp) (β : Type) (t : (Dc) ⊕ (Dc)) (k : Res → Hp → Option β) : zR.sel ρ q h β t k = k (endM ρ q h (endA zR.X zR.eτ t).1 (endA zR.X zR.eτ t).2).1 (endM ρ q h (endA zR.X zR.eτ t).1 (endA zR.X zR.eτ t).2).2 := by rcases t with t | t <;> rfl
def zR.mem (L : (ByteArray × Dc) → Option ((Dc) ⊕ (Dc))) : MSum := memA zR.T zR.X zR.dσ zR.eτ zR.sel zR.sel_ok L
def zR.t (K : Nat) (f41 : Bool → Option ((Unit) ⊕ Unit)) (f79 : ByteArray → ByteArray → Option (Int)) (x0 : ByteArray) (x1 : ByteArray) (x2 : Int) (x3 : Int) (x4 : ByteArray) (x5 : List (List D)) (x6 : ByteArray) (x7 : List (List D)) (x8 : Bool) (x9 : List (List D)) : Option ((Dc) ⊕ (Dc)) :=
  if (0 : Int) ≤ (↑x1.size : Int) ∧ (↑x1.size : Int) ≤ (↑x1.size : Int) then if (0 : Int) ≤ x3 ∧ x3 ≤ (↑x1.size : Int) then (f79 (x1.extract x3.toNat (↑x1.size : Int).toNat) x0).bind fun v1 => (f41 (decide (v1 ≥ (0 : Int)))).bind fun v2 => Sum.elim (fun v3 => some (Sum.inl (x1, x2, IntKind.i64.wrap (x3 + IntKind.i64.wrap (v1 + (↑x0.size : Int))), x4, x5, x6, x7, x8, x9))) (fun v4 => some (Sum.inr (x1, x2, x3, x4, x5, x6, x7, x8, x9))) v2 else none else none
set_option maxRecDepth 100000 in
theorem zR.run (K : Nat) (f41 : Bool → Option ((Unit) ⊕ Unit)) (f79 : ByteArray → ByteArray → Option (Int)) (x0 : ByteArray) (x1 : ByteArray) (x2 : Int) (x3 : Int) (x4 : ByteArray) (x5 : List (List D)) (x6 : ByteArray) (x7 : List (List D)) (x8 : Bool) (x9 : List (List D)) : bodyC Tryz.prog lay (zR.Γ f41 f79) [] (inlA Tryz.prog lay (zR.Γ f41 f79) [] 3) ⟨zR.J55, [], 0, none, none⟩ Tryz.f55 (bldS zR.T (zR.eσ (x0, x1, x2, x3, x4, x5, x6, x7, x8, x9))).1 (bldS zR.T (zR.eσ (x0, x1, x2, x3, x4, x5, x6, x7, x8, x9))).2 (contM zR.X zR.dτ) = zR.t K f41 f79 x0 x1 x2 x3 x4 x5 x6 x7 x8 x9 := by kernel_rfl
def zR.f (k : Nat) (x : (ByteArray × Dc)) : Option ((Dc) ⊕ (Dc)) := zR.t k (z8.f k) (strings_Index.f) x.1 x.2.1 x.2.2.1 x.2.2.2.1 x.2.2.2.2.1 x.2.2.2.2.2.1 x.2.2.2.2.2.2.1 x.2.2.2.2.2.2.2.1 x.2.2.2.2.2.2.2.2.1 x.2.2.2.2.2.2.2.2.2
theorem zR.dσ_ok (d : List D) (x : (ByteArray × Dc)) (h : zR.dσ d = some x) : zR.eσ x = d := by
  unfold zR.dσ at h
  split at h <;> first | (cases h; rfl) | cases h
theorem zR.dτ_ok (i : Nat) (d : List D) (t : (Dc) ⊕ (Dc)) (h : zR.dτ i d = some t) : zR.eτ t = (i, d) := by
  unfold zR.dτ at h
  split at h <;> first | (cases h; rfl) | cases h
theorem zR.allOk (k : Nat) : AllOk Tryz.prog GW lay (zR.Γ (z8.f k) (strings_Index.f)) := (allOk_cons (z8.ok k) (allOk_cons (yM.ok k) allOk_nil))
theorem zR.ok (k : Nat) {B : Nat} {wB : World} (stab_ : ∀ w', Bel B wB w' → GW w') : HandM Tryz.prog lay B wB 55 (zR.mem (zR.f k)) := by
  have hΓ_ := zR.allOk k
  exact mem_mk (by kernel_rfl) hΓ_ stab_ (inlA_ok (by kernel_rfl) hΓ_ stab_ in_nil 3) (C := ⟨zR.J55, [], 0, none, none⟩) Tryz.func55 (bodyL (allL_of (l := []) (by kernel_rfl) allL_nil)) (by kernel_rfl) (by kernel_rfl) zR.dσ_ok zR.dτ_ok (fun x => zR.run k (z8.f k) (strings_Index.f) x.1 x.2.1 x.2.2.1 x.2.2.2.1 x.2.2.2.2.1 x.2.2.2.2.2.1 x.2.2.2.2.2.2.1 x.2.2.2.2.2.2.2.1 x.2.2.2.2.2.2.2.2.1 x.2.2.2.2.2.2.2.2.2)
def yJ.out (r : Int) : Res := .ret (.int .i64 r)
def yJ.sel (β : Type) (r : Int) (k : Res → Option β) : Option β := k (.ret (.int .i64 r))
theorem yJ.sel_ok (β : Type) (t : Int) (k : Res → Option β) : yJ.sel β t k = k (yJ.out t) := rfl
def yJ.tells (f : ByteArray → Int → Option (Int)) : Tells
  | [.str a0, .int .u8 a1] => some (.mk (Int) (f a0 a1) yJ.out yJ.sel yJ.sel_ok)
  | _ => none
def yJ.ce (f : ByteArray → Int → Option (Int)) : CE := ⟨[.one (.str), .one (.int .u8)], .flat, yJ.tells f⟩
theorem yJ.ok (k : Nat) : CEOk Tryz.prog GW lay 100 (yJ.ce (strings_IndexByte.f)) :=
  tells_simple (fun args w => by kernel_rfl) fun args τ x out sel ok r hs hx => by
    unfold yJ.tells at hs
    split at hs
    · cases hs
      exact ⟨rfl, _, rfl, rfl, fun w hw => strings_IndexByte.calls _ _ r w hx⟩
    · cases hs
def zF.Γ (f100 : ByteArray → Int → Option (Int)) : List (Nat × CE) := [(100, yJ.ce f100)]
def zF.J81 : List (Nat × List Nat) := [(1, [3, 4, 5])]
def zF.J99 : List (Nat × List Nat) := [(1, [3, 4, 5])]
def zF.J59 : List (Nat × List Nat) := [(1, [6, 7, 8, 9]), (2, [10, 11, 12, 13, 14, 15, 16, 17, 18, 19, 20, 21, 22, 23, 24, 25, 26, 27, 28, 29, 30, 31]), (3, [33, 34, 35, 36, 37, 38, 39]), (4, [40, 41, 42, 43, 44, 45, 46, 47, 48, 49]), (1000032, [32])]
def zF.T : TS := ⟨[.ptr 0 0], [.cells 74 [.str, .int .i64, .int .i64, .rs 1 0, .str, .seq 52, .str, .seq 27, .bool] .own, .trow 27 0], 0, [(0, none), (0, some 3)]⟩
def zF.X0 : TS := ⟨[.bool], [.cells 74 [.str, .int .i64, .int .i64, .rs 1 0, .str, .seq 52, .str, .seq 27, .bool] .own, .trow 27 0], 2, []⟩
def zF.X : List (Exit × TS) := [(.ret, zF.X0)]
def zF.dσ : List D → Option (Dc)
  | [.str x0, .int x1, .int x2, .str x3, .seq x4, .str x5, .seq x6, .bool x7, .seq x8] => some (x0, x1, x2, x3, x4, x5, x6, x7, x8)
  | _ => none
def zF.eσ (x : Dc) : List D := [.str x.1, .int x.2.1, .int x.2.2.1, .str x.2.2.2.1, .seq x.2.2.2.2.1, .str x.2.2.2.2.2.1, .seq x.2.2.2.2.2.2.1, .bool x.2.2.2.2.2.2.2.1, .seq x.2.2.2.2.2.2.2.2]
def zF.dτ : Nat → List D → Option (Bool × Dc)
  | 0, [.bool y0, .str y1, .int y2, .int y3, .str y4, .seq y5, .str y6, .seq y7, .bool y8, .seq y9] => some (y0, y1, y2, y3, y4, y5, y6, y7, y8, y9)
  | _, _ => none
def zF.eτ (t : Bool × Dc) : Nat × List D := (0, [.bool t.1, .str t.2.1, .int t.2.2.1, .int t.2.2.2.1, .str t.2.2.2.2.1, .seq t.2.2.2.2.2.1, .str t.2.2.2.2.2.2.1, .seq t.2.2.2.2.2.2.2.1, .bool t.2.2.2.2.2.2.2.2.1, .seq t.2.2.2.2.2.2.2.2.2])
def zF.sel (ρ : List Nat) (q : List (Option Nat)) (h : Hp) (β : Type) (t : Bool × Dc) (k : Res → Hp → Option β) : Option β := k (endM ρ q h (.ret) (bldS zF.X0 [.bool t.1, .str t.2.1, .int t.2.2.1, .int t.2.2.2.1, .str t.2.2.2.2.1, .seq t.2.2.2.2.2.1, .str t.2.2.2.2.2.2.1, .seq t.2.2.2.2.2.2.2.1, .bool t.2.2.2.2.2.2.2.2.1, .seq t.2.2.2.2.2.2.2.2.2])).1 (endM ρ q h (.ret) (bldS zF.X0 [.bool t.1, .str t.2.1, .int t.2.2.1, .int t.2.2.2.1, .str t.2.2.2.2.1, .seq t.2.2.2.2.2.1, .str t.2.2.2.2.2.2.1, .seq t.2.2.2.2.2.2.2.1, .bool t.2.2.2.2.2.2.2.2.1, .seq t.2.2.2.2.2.2.2.2.2])).2
theorem zF.sel_ok (ρ : List Nat) (q : List (Option Nat)) (h : Hp) (β : Type) (t : Bool × Dc) (k : Res → Hp → Option β) : zF.sel ρ q h β t k = k (endM ρ q h (endA zF.X zF.eτ t).1 (endA zF.X zF.eτ t).2).1 (endM ρ q h (endA zF.X zF.eτ t).1 (endA zF.X zF.eτ t).2).2 := by rfl
def zF.mem (L : (Dc) → Option (Bool × Dc)) : MSum := memA zF.T zF.X zF.dσ zF.eτ zF.sel zF.sel_ok L
def zF.L59_2.T : TS := ⟨[.ptr 0 0, .fn 99 [] [], .junk, .junk, .str, .int .i64, .junk, .junk, .junk, .junk, .junk, .junk, .junk, .junk, .junk, .junk, .junk, .junk, .junk, .junk, .junk, .junk, .junk, .junk, .junk, .junk, .junk, .junk, .junk, .junk, .junk, .junk, .junk, .junk, .junk, .junk, .junk, .junk, .junk, .junk, .junk, .junk, .junk, .junk, .junk, .junk, .junk, .junk, .junk, .junk], [.cells 74 [.str, .int .i64, .int .i64, .rs 1 0, .str, .seq 52, .str, .seq 27, .bool] .own, .trow 27 0], 2, []⟩
def zF.L59_2.X0 : TS := ⟨[.ptr 0 0, .junk, .junk, .junk, .str, .int .i64, .junk, .junk, .junk, .junk, .junk, .junk, .junk, .junk, .junk, .junk, .junk, .junk, .junk, .junk, .junk, .junk, .junk, .junk, .junk, .junk, .junk, .junk, .junk, .junk, .junk, .junk, .junk, .junk, .junk, .junk, .junk, .junk, .junk, .junk, .junk, .junk, .junk, .junk, .junk, .junk, .junk, .junk, .junk, .junk], [.cells 74 [.str, .int .i64, .int .i64, .rs 1 0, .str, .seq 52, .str, .seq 27, .bool] .own, .trow 27 0], 2, []⟩
def zF.L59_2.X : List (Exit × TS) := [(.exit 0, zF.L59_2.X0)]
def zF.L59_2.dσ : List D → Option (ByteArray × Int × Dc)
  | [.str x0, .int x1, .str x2, .int x3, .int x4, .str x5, .seq x6, .str x7, .seq x8, .bool x9, .seq x10] => some (x0, x1, x2, x3, x4, x5, x6, x7, x8, x9, x10)
  | _ => none
def zF.L59_2.eσ (x : ByteArray × Int × Dc) : List D := [.str x.1, .int x.2.1, .str x.2.2.1, .int x.2.2.2.1, .int x.2.2.2.2.1, .str x.2.2.2.2.2.1, .seq x.2.2.2.2.2.2.1, .str x.2.2.2.2.2.2.2.1, .seq x.2.2.2.2.2.2.2.2.1, .bool x.2.2.2.2.2.2.2.2.2.1, .seq x.2.2.2.2.2.2.2.2.2.2]
def zF.L59_2.dτ : Nat → List D → Option (ByteArray × Int × Dc)
  | 0, [.str y0, .int y1, .str y2, .int y3, .int y4, .str y5, .seq y6, .str y7, .seq y8, .bool y9, .seq y10] => some (y0, y1, y2, y3, y4, y5, y6, y7, y8, y9, y10)
  | _, _ => none
def zF.L59_2.eτ (t : ByteArray × Int × Dc) : Nat × List D := (0, [.str t.1, .int t.2.1, .str t.2.2.1, .int t.2.2.2.1, .int t.2.2.2.2.1, .str t.2.2.2.2.2.1, .seq t.2.2.2.2.2.2.1, .str t.2.2.2.2.2.2.2.1, .seq t.2.2.2.2.2.2.2.2.1, .bool t.2.2.2.2.2.2.2.2.2.1, .seq t.2.2.2.2.2.2.2.2.2.2])
def zF.L59_2.sel (β : Type) (t : ByteArray × Int × Dc) (k : Exit → Fr → Hp → Option β) : Option β := k (.exit 0) (bldS zF.L59_2.X0 [.str t.1, .int t.2.1, .str t.2.2.1, .int t.2.2.2.1, .int t.2.2.2.2.1, .str t.2.2.2.2.2.1, .seq t.2.2.2.2.2.2.1, .str t.2.2.2.2.2.2.2.1, .seq t.2.2.2.2.2.2.2.2.1, .bool t.2.2.2.2.2.2.2.2.2.1, .seq t.2.2.2.2.2.2.2.2.2.2]).1 (bldS zF.L59_2.X0 [.str t.1, .int t.2.1, .str t.2.2.1, .int t.2.2.2.1, .int t.2.2.2.2.1, .str t.2.2.2.2.2.1, .seq t.2.2.2.2.2.2.1, .str t.2.2.2.2.2.2.2.1, .seq t.2.2.2.2.2.2.2.2.1, .bool t.2.2.2.2.2.2.2.2.2.1, .seq t.2.2.2.2.2.2.2.2.2.2]).2
theorem zF.L59_2.sel_ok (β : Type) (t : ByteArray × Int × Dc) (k : Exit → Fr → Hp → Option β) : zF.L59_2.sel β t k = k (endA zF.L59_2.X zF.L59_2.eτ t).1 (endA zF.L59_2.X zF.L59_2.eτ t).2.1 (endA zF.L59_2.X zF.L59_2.eτ t).2.2 := by rfl
theorem zF.L59_2.dσ_ok (d : List D) (x : ByteArray × Int × Dc) (h : zF.L59_2.dσ d = some x) : zF.L59_2.eσ x = d := by
  unfold zF.L59_2.dσ at h
  split at h <;> first | (cases h; rfl) | cases h
theorem zF.L59_2.dτ_ok (i : Nat) (d : List D) (t : ByteArray × Int × Dc) (h : zF.L59_2.dτ i d = some t) : zF.L59_2.eτ t = (i, d) := by
  unfold zF.L59_2.dτ at h
  split at h <;> first | (cases h; rfl) | cases h
def zF.L59_2.S (K : Nat) (f100 : ByteArray → Int → Option (Int)) (rec : (ByteArray × Int × Dc) → Option (ByteArray × Int × Dc)) (x0 : ByteArray) (x1 : Int) (x2 : ByteArray) (x3 : Int) (x4 : Int) (x5 : ByteArray) (x6 : List (List D)) (x7 : ByteArray) (x8 : List (List D)) (x9 : Bool) (x10 : List (List D)) : Option (ByteArray × Int × Dc) :=
  bif decide (x4 < (↑x2.size : Int)) then if (0 : Int) ≤ x4 ∧ x4 < (↑x2.size : Int) then (f100 (ByteArray.mk #[9, 10, 13, 32]) (byteAt x2 x4)).bind fun v1 => bif decide (v1 ≥ (0 : Int)) then rec (x0, x1, x2, x3, IntKind.i64.wrap (x4 + (1 : Int)), x5, x6, x7, x8, x9, x10) else some (x0, x1, x2, x3, x4, x5, x6, x7, x8, x9, x10) else none else some (x0, x1, x2, x3, x4, x5, x6, x7, x8, x9, x10)
set_option maxRecDepth 100000 in
theorem zF.L59_2.step (K : Nat) (f100 : ByteArray → Int → Option (Int)) (rec : (ByteArray × Int × Dc) → Option (ByteArray × Int × Dc)) (x0 : ByteArray) (x1 : Int) (x2 : ByteArray) (x3 : Int) (x4 : Int) (x5 : ByteArray) (x6 : List (List D)) (x7 : ByteArray) (x8 : List (List D)) (x9 : Bool) (x10 : List (List D)) : execA Tryz.prog lay (zF.Γ f100) [] (inlA Tryz.prog lay (zF.Γ f100) [(99, Tryz.f99, ⟨zF.J99, [], 0, none, none⟩)] 3) ⟨zF.J59, [], 0, none, none⟩ 2 (loopAt Tryz.f59 0) (bldS zF.L59_2.T (zF.L59_2.eσ (x0, x1, x2, x3, x4, x5, x6, x7, x8, x9, x10))).1 (bldS zF.L59_2.T (zF.L59_2.eσ (x0, x1, x2, x3, x4, x5, x6, x7, x8, x9, x10))).2 (contA zF.L59_2.T zF.L59_2.X zF.L59_2.dσ zF.L59_2.dτ rec) = zF.L59_2.S K f100 rec x0 x1 x2 x3 x4 x5 x6 x7 x8 x9 x10 := by kernel_rfl
def zF.L59_2 (K : Nat) (f100 : ByteArray → Int → Option (Int)) : Nat → (ByteArray × Int × Dc) → Option (ByteArray × Int × Dc)
  | 0, _ => none
  | k + 1, x => zF.L59_2.S K f100 (zF.L59_2 K f100 k) x.1 x.2.1 x.2.2.1 x.2.2.2.1 x.2.2.2.2.1 x.2.2.2.2.2.1 x.2.2.2.2.2.2.1 x.2.2.2.2.2.2.2.1 x.2.2.2.2.2.2.2.2.1 x.2.2.2.2.2.2.2.2.2.1 x.2.2.2.2.2.2.2.2.2.2
theorem zF.L59_2.ok (K : Nat) (f100 : ByteArray → Int → Option (Int)) {B : Nat} {wB : World} (stab_ : ∀ w', Bel B wB w' → GW w') (hΓ_ : AllOk Tryz.prog GW lay (zF.Γ f100)) (Kr : Nat) : LSOk Tryz.prog lay B wB [] 2 (sumA zF.L59_2.T zF.L59_2.X zF.L59_2.dσ zF.L59_2.eτ zF.L59_2.sel zF.L59_2.sel_ok (zF.L59_2 K f100 Kr)) (loopAt Tryz.f59 0) :=
  loop_mk (by kernel_rfl) hΓ_ stab_ (inlA_ok (by kernel_rfl) hΓ_ stab_ (in_app in_nil Tryz.func99 (fun args w => by kernel_rfl) rfl rfl (allL_of (l := []) (by kernel_rfl) allL_nil)) 3) (C := ⟨zF.J59, [], 0, none, none⟩) (allL_of (l := []) (by kernel_rfl) allL_nil) (by decide) (by decide) zF.L59_2.dσ_ok zF.L59_2.dτ_ok (fun _ => rfl) (fun k x => (zF.L59_2.step K f100 (zF.L59_2 K f100 k) x.1 x.2.1 x.2.2.1 x.2.2.2.1 x.2.2.2.2.1 x.2.2.2.2.2.1 x.2.2.2.2.2.2.1 x.2.2.2.2.2.2.2.1 x.2.2.2.2.2.2.2.2.1 x.2.2.2.2.2.2.2.2.2.1 x.2.2.2.2.2.2.2.2.2.2).symm) Kr
def zF.t (K : Nat) (f100 : ByteArray → Int → Option (Int)) (x0 : ByteArray) (x1 : Int) (x2 : Int) (x3 : ByteArray) (x4 : List (List D)) (x5 : ByteArray) (x6 : List (List D)) (x7 : Bool) (x8 : List (List D)) : Option (Bool × Dc) :=
  (zF.L59_2 K f100 K (ByteArray.mk #[], x2, x0, x1, x2, x3, x4, x5, x6, x7, x8)).bind fun v1 => if (0 : Int) ≤ v1.q4 ∧ v1.q4 ≤ (↑v1.snd.snd.fst.size : Int) then if (0 : Int) ≤ v1.q1 ∧ v1.q1 ≤ v1.q4 then some (!(v1.snd.snd.fst.extract v1.snd.fst.toNat v1.snd.snd.snd.snd.fst.toNat).toList == (ByteArray.mk #[]).toList, v1.q2, v1.q3, v1.q4, v1.q5, v1.q6, v1.q7, v1.q8, v1.q9, v1.r10) else none else none
set_option maxRecDepth 100000 in
theorem zF.run (K : Nat) (f100 : ByteArray → Int → Option (Int)) (x0 : ByteArray) (x1 : Int) (x2 : Int) (x3 : ByteArray) (x4 : List (List D)) (x5 : ByteArray) (x6 : List (List D)) (x7 : Bool) (x8 : List (List D)) : bodyC Tryz.prog lay (zF.Γ f100) [] (inlA Tryz.prog lay (zF.Γ f100) [(99, Tryz.f99, ⟨zF.J99, [], 0, none, none⟩), (59, Tryz.f59, ⟨zF.J59, [(2, 2, sumA zF.L59_2.T zF.L59_2.X zF.L59_2.dσ zF.L59_2.eτ zF.L59_2.sel zF.L59_2.sel_ok (zF.L59_2 K f100 K))], 0, none, none⟩)] 3) ⟨zF.J81, [], 0, none, none⟩ Tryz.f81 (bldS zF.T (zF.eσ (x0, x1, x2, x3, x4, x5, x6, x7, x8))).1 (bldS zF.T (zF.eσ (x0, x1, x2, x3, x4, x5, x6, x7, x8))).2 (contM zF.X zF.dτ) = zF.t K f100 x0 x1 x2 x3 x4 x5 x6 x7 x8 := by kernel_rfl
def zF.f (k : Nat) (x : (Dc)) : Option (Bool × Dc) := zF.t k (strings_IndexByte.f) x.1 x.2.1 x.2.2.1 x.2.2.2.1 x.2.2.2.2.1 x.2.2.2.2.2.1 x.2.2.2.2.2.2.1 x.2.2.2.2.2.2.2.1 x.2.2.2.2.2.2.2.2
theorem zF.dσ_ok (d : List D) (x : (Dc)) (h : zF.dσ d = some x) : zF.eσ x = d := by
  unfold zF.dσ at h
  split at h <;> first | (cases h; rfl) | cases h
theorem zF.dτ_ok (i : Nat) (d : List D) (t : Bool × Dc) (h : zF.dτ i d = some t) : zF.eτ t = (i, d) := by
  unfold zF.dτ at h
  split at h <;> first | (cases h; rfl) | cases h
theorem zF.allOk (k : Nat) : AllOk Tryz.prog GW lay (zF.Γ (strings_IndexByte.f)) := (allOk_cons (yJ.ok k) allOk_nil)
theorem zF.ok (k : Nat) {B : Nat} {wB : World} (stab_ : ∀ w', Bel B wB w' → GW w') : HandM Tryz.prog lay B wB 81 (zF.mem (zF.f k)) := by
  have hΓ_ := zF.allOk k
  exact mem_mk (by kernel_rfl) hΓ_ stab_ (inlA_ok (by kernel_rfl) hΓ_ stab_ (in_app (in_app in_nil Tryz.func99 (fun args w => by kernel_rfl) rfl rfl (allL_of (l := []) (by kernel_rfl) allL_nil)) Tryz.func59 (fun args w => by kernel_rfl) rfl rfl (allL_of (l := [loopAt Tryz.f59 0]) (by kernel_rfl) (allL_cons (by kernel_rfl) (zF.L59_2.ok k (strings_IndexByte.f) stab_ hΓ_ k) allL_nil))) 3) (C := ⟨zF.J81, [], 0, none, none⟩) Tryz.func81 (bodyL (allL_of (l := []) (by kernel_rfl) allL_nil)) (by kernel_rfl) (by kernel_rfl) zF.dσ_ok zF.dτ_ok (fun x => zF.run k (strings_IndexByte.f) x.1 x.2.1 x.2.2.1 x.2.2.2.1 x.2.2.2.2.1 x.2.2.2.2.2.1 x.2.2.2.2.2.2.1 x.2.2.2.2.2.2.2.1 x.2.2.2.2.2.2.2.2)
def zG.Γ (f41 : Bool → Option ((Unit) ⊕ Unit)) (f47 : ByteArray → Option (Bool)) (f71 : Int → Bool → Option (Bool)) : List (Nat × CE) := [(41, z8.ce f41), (47, zV.ce f47), (71, yB.ce f71)]
def zG.J80 : List (Nat × List Nat) := [(1, [4, 5]), (2, [6, 7, 8]), (3, [9])]
def zG.J98 : List (Nat × List Nat) := [(1, [3, 4])]
def zG.J59 : List (Nat × List Nat) := [(1, [6, 7, 8, 9]), (2, [10, 11, 12, 13, 14, 15, 16, 17, 18, 19, 20, 21, 22, 23, 24, 25, 26, 27, 28, 29, 30, 31]), (3, [33, 34, 35, 36, 37, 38, 39]), (4, [40, 41, 42, 43, 44, 45, 46, 47, 48, 49]), (1000032, [32])]
def zG.T : TS := ⟨[.ptr 0 0], [.cells 74 [.str, .int .i64, .int .i64, .rs 1 0, .str, .seq 52, .str, .seq 27, .bool] .own, .trow 27 0], 0, [(0, none), (0, some 3)]⟩
def zG.X0 : TS := ⟨[.str], [.cells 74 [.str, .int .i64, .int .i64, .rs 1 0, .str, .seq 52, .str, .seq 27, .bool] .own, .trow 27 0], 2, []⟩
def zG.X1 : TS := ⟨[], [.cells 74 [.str, .int .i64, .int .i64, .rs 1 0, .str, .seq 52, .str, .seq 27, .bool] .own, .trow 27 0], 2, []⟩
def zG.X : List (Exit × TS) := [(.ret, zG.X0), (.panic [⟨.iface 76 (.agg #[]), false, false⟩], zG.X1)]
def zG.dσ : List D → Option (Dc)
  | [.str x0, .int x1, .int x2, .str x3, .seq x4, .str x5, .seq x6, .bool x7, .seq x8] => some (x0, x1, x2, x3, x4, x5, x6, x7, x8)
  | _ => none
def zG.eσ (x : Dc) : List D := [.str x.1, .int x.2.1, .int x.2.2.1, .str x.2.2.2.1, .seq x.2.2.2.2.1, .str x.2.2.2.2.2.1, .seq x.2.2.2.2.2.2.1, .bool x.2.2.2.2.2.2.2.1, .seq x.2.2.2.2.2.2.2.2]
def zG.dτ : Nat → List D → Option ((ByteArray × Dc) ⊕ (Dc))
  | 0, [.str y0, .str y1, .int y2, .int y3, .str y4, .seq y5, .str y6, .seq y7, .bool y8, .seq y9] => some (.inl (y0, y1, y2, y3, y4, y5, y6, y7, y8, y9))
  | 1, [.str y0, .int y1, .int y2, .str y3, .seq y4, .str y5, .seq y6, .bool y7, .seq y8] => some (.inr (y0, y1, y2, y3, y4, y5, y6, y7, y8))
  | _, _ => none
def zG.eτ : (ByteArray × Dc) ⊕ (Dc) → Nat × List D
  | (.inl t) => (0, [.str t.1, .str t.2.1, .int t.2.2.1, .int t.2.2.2.1, .str t.2.2.2.2.1, .seq t.2.2.2.2.2.1, .str t.2.2.2.2.2.2.1, .seq t.2.2.2.2.2.2.2.1, .bool t.2.2.2.2.2.2.2.2.1, .seq t.2.2.2.2.2.2.2.2.2])
  | (.inr t) => (1, [.str t.1, .int t.2.1, .int t.2.2.1, .str t.2.2.2.1, .seq t.2.2.2.2.1, .str t.2.2.2.2.2.1, .seq t.2.2.2.2.2.2.1, .bool t.2.2.2.2.2.2.2.1, .seq t.2.2.2.2.2.2.2.2])
def zG.sel (ρ : List Nat) (q : List (Option Nat)) (h : Hp) (β : Type) (t : (ByteArray × Dc) ⊕ (Dc)) (k : Res → Hp → Option β) : Option β := match t with
  | (.inl r) => k (endM ρ q h (.ret) (bldS zG.X0 [.str r.1, .str r.2.1, .int r.2.2.1, .int r.2.2.2.1, .str r.2.2.2.2.1, .seq r.2.2.2.2.2.1, .str r.2.2.2.2.2.2.1, .seq r.2.2.2.2.2.2.2.1, .bool r.2.2.2.2.2.2.2.2.1, .seq r.2.2.2.2.2.2.2.2.2])).1 (endM ρ q h (.ret) (bldS zG.X0 [.str r.1, .str r.2.1, .int r.2.2.1, .int r.2.2.2.1, .str r.2.2.2.2.1, .seq r.2.2.2.2.2.1, .str r.2.2.2.2.2.2.1, .seq r.2.2.2.2.2.2.2.1, .bool r.2.2.2.2.2.2.2.2.1, .seq r.2.2.2.2.2.2.2.2.2])).2
  | (.inr r) => k (endM ρ q h (.panic [⟨.iface 76 (.agg #[]), false, false⟩]) (bldS zG.X1 [.str r.1, .int r.2.1, .int r.2.2.1, .str r.2.2.2.1, .seq r.2.2.2.2.1, .str r.2.2.2.2.2.1, .seq r.2.2.2.2.2.2.1, .bool r.2.2.2.2.2.2.2.1, .seq r.2.2.2.2.2.2.2.2])).1 (endM ρ q h (.panic [⟨.iface 76 (.agg #[]), false, false⟩]) (bldS zG.X1 [.str r.1, .int r.2.1, .int r.2.2.1, .str r.2.2.2.1, .seq r.2.2.2.2.1, .str r.2.2.2.2.2.1, .seq r.2.2.2.2.2.2.1, .bool r.2.2.2.2.2.2.2.1, .seq r.2.2.2.2.2.2.2.2])).2
theorem zG.sel_ok (ρ : List Nat) (q : List (Option Nat)) (h : Hp) (β : Type) (t : (ByteArray × Dc) ⊕ (Dc)) (k : Res → Hp → Option β) : zG.sel ρ q h β t k = k (endM ρ q h (endA zG.X zG.eτ t).1 (endA zG.X zG.eτ t).2).1 (endM ρ q h (endA zG.X zG.eτ t).1 (endA zG.X zG.eτ t).2).2 := by rcases t with t | t <;> rfl
def zG.mem (L : (Dc) → Option ((ByteArray × Dc) ⊕ (Dc))) : MSum := memA zG.T zG.X zG.dσ zG.eτ zG.sel zG.sel_ok L
def zG.L59_2.T : TS := ⟨[.ptr 0 0, .fn 98 [] [], .junk, .junk, .str, .int .i64, .junk, .junk, .junk, .junk, .junk, .junk, .junk, .junk, .junk, .junk, .junk, .junk, .junk, .junk, .junk, .junk, .junk, .junk, .junk, .junk, .junk, .junk, .junk, .junk, .junk, .junk, .junk, .junk, .junk, .junk, .junk, .junk, .junk, .junk, .junk, .junk, .junk, .junk, .junk, .junk, .junk, .junk, .junk, .junk], [.cells 74 [.str, .int .i64, .int .i64, .rs 1 0, .str, .seq 52, .str, .seq 27, .bool] .own, .trow 27 0], 2, []⟩
def zG.L59_2.X0 : TS := ⟨[.ptr 0 0, .junk, .junk, .junk, .str, .int .i64, .junk, .junk, .junk, .junk, .junk, .junk, .junk, .junk, .junk, .junk, .junk, .junk, .junk, .junk, .junk, .junk, .junk, .junk, .junk, .junk, .junk, .junk, .junk, .junk, .junk, .junk, .junk, .junk, .junk, .junk, .junk, .junk, .junk, .junk, .junk, .junk, .junk, .junk, .junk, .junk, .junk, .junk, .junk, .junk], [.cells 74 [.str, .int .i64, .int .i64, .rs 1 0, .str, .seq 52, .str, .seq 27, .bool] .own, .trow 27 0], 2, []⟩
def zG.L59_2.X : List (Exit × TS) := [(.exit 0, zG.L59_2.X0)]
def zG.L59_2.dσ : List D → Option (ByteArray × Int × Dc)
  | [.str x0, .int x1, .str x2, .int x3, .int x4, .str x5, .seq x6, .str x7, .seq x8, .bool x9, .seq x10] => some (x0, x1, x2, x3, x4, x5, x6, x7, x8, x9, x10)
  | _ => none
def zG.L59_2.eσ (x : ByteArray × Int × Dc) : List D := [.str x.1, .int x.2.1, .str x.2.2.1, .int x.2.2.2.1, .int x.2.2.2.2.1, .str x.2.2.2.2.2.1, .seq x.2.2.2.2.2.2.1, .str x.2.2.2.2.2.2.2.1, .seq x.2.2.2.2.2.2.2.2.1, .bool x.2.2.2.2.2.2.2.2.2.1, .seq x.2.2.2.2.2.2.2.2.2.2]
def zG.L59_2.dτ : Nat → List D → Option (ByteArray × Int × Dc)
  | 0, [.str y0, .int y1, .str y2, .int y3, .int y4, .str y5, .seq y6, .str y7, .seq y8, .bool y9, .seq y10] => some (y0, y1, y2, y3, y4, y5, y6, y7, y8, y9, y10)
  | _, _ => none
def zG.L59_2.eτ (t : ByteArray × Int × Dc) : Nat × List D := (0, [.str t.1, .int t.2.1, .str t.2.2.1, .int t.2.2.2.1, .int t.2.2.2.2.1, .str t.2.2.2.2.2.1, .seq t.2.2.2.2.2.2.1, .str t.2.2.2.2.2.2.2.1, .seq t.2.2.2.2.2.2.2.2.1, .bool t.2.2.2.2.2.2.2.2.2.1, .seq t.2.2.2.2.2.2.2.2.2.2])
def zG.L59_2.sel (β : Type) (t : ByteArray × Int × Dc) (k : Exit → Fr → Hp → Option β) : Option β := k (.exit 0) (bldS zG.L59_2.X0 [.str t.1, .int t.2.1, .str t.2.2.1, .int t.2.2.2.1, .int t.2.2.2.2.1, .str t.2.2.2.2.2.1, .seq t.2.2.2.2.2.2.1, .str t.2.2.2.2.2.2.2.1, .seq t.2.2.2.2.2.2.2.2.1, .bool t.2.2.2.2.2.2.2.2.2.1, .seq t.2.2.2.2.2.2.2.2.2.2]).1 (bldS zG.L59_2.X0 [.str t.1, .int t.2.1, .str t.2.2.1, .int t.2.2.2.1, .int t.2.2.2.2.1, .str t.2.2.2.2.2.1, .seq t.2.2.2.2.2.2.1, .str t.2.2.2.2.2.2.2.1, .seq t.2.2.2.2.2.2.2.2.1, .bool t.2.2.2.2.2.2.2.2.2.1, .seq t.2.2.2.2.2.2.2.2.2.2]).2
theorem zG.L59_2.sel_ok (β : Type) (t : ByteArray × Int × Dc) (k : Exit → Fr → Hp → Option β) : zG.L59_2.sel β t k = k (endA zG.L59_2.X zG.L59_2.eτ t).1 (endA zG.L59_2.X zG.L59_2.eτ t).2.1 (endA zG.L59_2.X zG.L59_2.eτ t).2.2 := by rfl
theorem zG.L59_2.dσ_ok (d : List D) (x : ByteArray × Int × Dc) (h : zG.L59_2.dσ d = some x) : zG.L59_2.eσ x = d := by
  unfold zG.L59_2.dσ at h
  split at h <;> first | (cases h; rfl) | cases h
theorem zG.L59_2.dτ_ok (i : Nat) (d : List D) (t : ByteArray × Int × Dc) (h : zG.L59_2.dτ i d = some t) : zG.L59_2.eτ t = (i, d) := by
  unfold zG.L59_2.dτ at h
  split at h <;> first | (cases h; rfl) | cases h
def zG.L59_2.S (K : Nat) (f41 : Bool → Option ((Unit) ⊕ Unit)) (f47 : ByteArray → Option (Bool)) (f71 : Int → Bool → Option (Bool)) (rec : (ByteArray × Int × Dc) → Option (ByteArray × Int × Dc)) (x0 : ByteArray) (x1 : Int) (x2 : ByteArray) (x3 : Int) (x4 : Int) (x5 : ByteArray) (x6 : List (List D)) (x7 : ByteArray) (x8 : List (List D)) (x9 : Bool) (x10 : List (List D)) : Option (ByteArray × Int × Dc) :=
  bif decide (x4 < (↑x2.size : Int)) then if (0 : Int) ≤ x4 ∧ x4 < (↑x2.size : Int) then (f71 (byteAt x2 x4) false).bind fun v1 => bif v1 then rec (x0, x1, x2, x3, IntKind.i64.wrap (x4 + (1 : Int)), x5, x6, x7, x8, x9, x10) else some (x0, x1, x2, x3, x4, x5, x6, x7, x8, x9, x10) else none else some (x0, x1, x2, x3, x4, x5, x6, x7, x8, x9, x10)
set_option maxRecDepth 100000 in
theorem zG.L59_2.step (K : Nat) (f41 : Bool → Option ((Unit) ⊕ Unit)) (f47 : ByteArray → Option (Bool)) (f71 : Int → Bool → Option (Bool)) (rec : (ByteArray × Int × Dc) → Option (ByteArray × Int × Dc)) (x0 : ByteArray) (x1 : Int) (x2 : ByteArray) (x3 : Int) (x4 : Int) (x5 : ByteArray) (x6 : List (List D)) (x7 : ByteArray) (x8 : List (List D)) (x9 : Bool) (x10 : List (List D)) : execA Tryz.prog lay (zG.Γ f41 f47 f71) [] (inlA Tryz.prog lay (zG.Γ f41 f47 f71) [(98, Tryz.f98, ⟨zG.J98, [], 0, none, none⟩)] 3) ⟨zG.J59, [], 0, none, none⟩ 2 (loopAt Tryz.f59 0) (bldS zG.L59_2.T (zG.L59_2.eσ (x0, x1, x2, x3, x4, x5, x6, x7, x8, x9, x10))).1 (bldS zG.L59_2.T (zG.L59_2.eσ (x0, x1, x2, x3, x4, x5, x6, x7, x8, x9, x10))).2 (contA zG.L59_2.T zG.L59_2.X zG.L59_2.dσ zG.L59_2.dτ rec) = zG.L59_2.S K f41 f47 f71 rec x0 x1 x2 x3 x4 x5 x6 x7 x8 x9 x10 := by kernel_rfl
def zG.L59_2 (K : Nat) (f41 : Bool → Option ((Unit) ⊕ Unit)) (f47 : ByteArray → Option (Bool)) (f71 : Int → Bool → Option (Bool)) : Nat → (ByteArray × Int × Dc) → Option (ByteArray × Int × Dc)
  | 0, _ => none
  | k + 1, x => zG.L59_2.S K f41 f47 f71 (zG.L59_2 K f41 f47 f71 k) x.1 x.2.1 x.2.2.1 x.2.2.2.1 x.2.2.2.2.1 x.2.2.2.2.2.1 x.2.2.2.2.2.2.1 x.2.2.2.2.2.2.2.1 x.2.2.2.2.2.2.2.2.1 x.2.2.2.2.2.2.2.2.2.1 x.2.2.2.2.2.2.2.2.2.2
theorem zG.L59_2.ok (K : Nat) (f41 : Bool → Option ((Unit) ⊕ Unit)) (f47 : ByteArray → Option (Bool)) (f71 : Int → Bool → Option (Bool)) {B : Nat} {wB : World} (stab_ : ∀ w', Bel B wB w' → GW w') (hΓ_ : AllOk Tryz.prog GW lay (zG.Γ f41 f47 f71)) (Kr : Nat) : LSOk Tryz.prog lay B wB [] 2 (sumA zG.L59_2.T zG.L59_2.X zG.L59_2.dσ zG.L59_2.eτ zG.L59_2.sel zG.L59_2.sel_ok (zG.L59_2 K f41 f47 f71 Kr)) (loopAt Tryz.f59 0) :=
  loop_mk (by kernel_rfl) hΓ_ stab_ (inlA_ok (by kernel_rfl) hΓ_ stab_ (in_app in_nil Tryz.func98 (fun args w => by kernel_rfl) rfl rfl (allL_of (l := []) (by kernel_rfl) allL_nil)) 3) (C := ⟨zG.J59, [], 0, none, none⟩) (allL_of (l := []) (by kernel_rfl) allL_nil) (by decide) (by decide) zG.L59_2.dσ_ok zG.L59_2.dτ_ok (fun _ => rfl) (fun k x => (zG.L59_2.step K f41 f47 f71 (zG.L59_2 K f41 f47 f71 k) x.1 x.2.1 x.2.2.1 x.2.2.2.1 x.2.2.2.2.1 x.2.2.2.2.2.1 x.2.2.2.2.2.2.1 x.2.2.2.2.2.2.2.1 x.2.2.2.2.2.2.2.2.1 x.2.2.2.2.2.2.2.2.2.1 x.2.2.2.2.2.2.2.2.2.2).symm) Kr
def zG.t (K : Nat) (f41 : Bool → Option ((Unit) ⊕ Unit)) (f47 : ByteArray → Option (Bool)) (f71 : Int → Bool → Option (Bool)) (x0 : ByteArray) (x1 : Int) (x2 : Int) (x3 : ByteArray) (x4 : List (List D)) (x5 : ByteArray) (x6 : List (List D)) (x7 : Bool) (x8 : List (List D)) : Option ((ByteArray × Dc) ⊕ (Dc)) :=
  (zG.L59_2 K f41 f47 f71 K (ByteArray.mk #[], x2, x0, x1, x2, x3, x4, x5, x6, x7, x8)).bind fun v1 => if (0 : Int) ≤ v1.q4 ∧ v1.q4 ≤ (↑v1.snd.snd.fst.size : Int) then if (0 : Int) ≤ v1.q1 ∧ v1.q1 ≤ v1.q4 then (f47 (v1.snd.snd.fst.extract v1.snd.fst.toNat v1.snd.snd.snd.snd.fst.toNat)).bind fun v2 => (f41 v2).bind fun v3 => Sum.elim (fun v4 => some (Sum.inl (v1.snd.snd.fst.extract v1.snd.fst.toNat v1.snd.snd.snd.snd.fst.toNat, v1.q2, v1.q3, v1.q4, v1.q5, v1.q6, v1.q7, v1.q8, v1.q9, v1.r10))) (fun v5 => some (Sum.inr (v1.q2, v1.q3, v1.q4, v1.q5, v1.q6, v1.q7, v1.q8, v1.q9, v1.r10))) v3 else none else none
set_option maxRecDepth 100000 in
theorem zG.run (K : Nat) (f41 : Bool → Option ((Unit) ⊕ Unit)) (f47 : ByteArray → Option (Bool)) (f71 : Int → Bool → Option (Bool)) (x0 : ByteArray) (x1 : Int) (x2 : Int) (x3 : ByteArray) (x4 : List (List D)) (x5 : ByteArray) (x6 : List (List D)) (x7 : Bool) (x8 : List (List D)) : bodyC Tryz.prog lay (zG.Γ f41 f47 f71) [] (inlA Tryz.prog lay (zG.Γ f41 f47 f71) [(98, Tryz.f98, ⟨zG.J98, [], 0, none, none⟩), (59, Tryz.f59, ⟨zG.J59, [(2, 2, sumA zG.L59_2.T zG.L59_2.X zG.L59_2.dσ zG.L59_2.eτ zG.L59_2.sel zG.L59_2.sel_ok (zG.L59_2 K f41 f47 f71 K))], 0, none, none⟩)] 3) ⟨zG.J80, [], 0, none, none⟩ Tryz.f80 (bldS zG.T (zG.eσ (x0, x1, x2, x3, x4, x5, x6, x7, x8))).1 (bldS zG.T (zG.eσ (x0, x1, x2, x3, x4, x5, x6, x7, x8))).2 (contM zG.X zG.dτ) = zG.t K f41 f47 f71 x0 x1 x2 x3 x4 x5 x6 x7 x8 := by kernel_rfl
def zG.f (k : Nat) (x : (Dc)) : Option ((ByteArray × Dc) ⊕ (Dc)) := zG.t k (z8.f k) (zV.f k) (yB.f k) x.1 x.2.1 x.2.2.1 x.2.2.2.1 x.2.2.2.2.1 x.2.2.2.2.2.1 x.2.2.2.2.2.2.1 x.2.2.2.2.2.2.2.1 x.2.2.2.2.2.2.2.2
theorem zG.dσ_ok (d : List D) (x : (Dc)) (h : zG.dσ d = some x) : zG.eσ x = d := by
  unfold zG.dσ at h
  split at h <;> first | (cases h; rfl) | cases h
theorem zG.dτ_ok (i : Nat) (d : List D) (t : (ByteArray × Dc) ⊕ (Dc)) (h : zG.dτ i d = some t) : zG.eτ t = (i, d) := by
  unfold zG.dτ at h
  split at h <;> first | (cases h; rfl) | cases h
theorem zG.allOk (k : Nat) : AllOk Tryz.prog GW lay (zG.Γ (z8.f k) (zV.f k) (yB.f k)) := (allOk_cons (z8.ok k) (allOk_cons (zV.ok k) (allOk_cons (yB.ok k) allOk_nil)))
theorem zG.ok (k : Nat) {B : Nat} {wB : World} (stab_ : ∀ w', Bel B wB w' → GW w') : HandM Tryz.prog lay B wB 80 (zG.mem (zG.f k)) := by
  have hΓ_ := zG.allOk k
  exact mem_mk (by kernel_rfl) hΓ_ stab_ (inlA_ok (by kernel_rfl) hΓ_ stab_ (in_app (in_app in_nil Tryz.func98 (fun args w => by kernel_rfl) rfl rfl (allL_of (l := []) (by kernel_rfl) allL_nil)) Tryz.func59 (fun args w => by kernel_rfl) rfl rfl (allL_of (l := [loopAt Tryz.f59 0]) (by kernel_rfl) (allL_cons (by kernel_rfl) (zG.L59_2.ok k (z8.f k) (zV.f k) (yB.f k) stab_ hΓ_ k) allL_nil))) 3) (C := ⟨zG.J80, [], 0, none, none⟩) Tryz.func80 (bodyL (allL_of (l := []) (by kernel_rfl) allL_nil)) (by kernel_rfl) (by kernel_rfl) zG.dσ_ok zG.dτ_ok (fun x => zG.run k (z8.f k) (zV.f k) (yB.f k) x.1 x.2.1 x.2.2.1 x.2.2.2.1 x.2.2.2.2.1 x.2.2.2.2.2.1 x.2.2.2.2.2.2.1 x.2.2.2.2.2.2.2.1 x.2.2.2.2.2.2.2.2)

end Go.Proofs.YtphlamnaaogmaaaGreatDoor.M
