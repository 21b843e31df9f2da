import Derived.Test.YtphlamnaaogmaaaGreatDoorE8
import Derived.Test.YtphlamnaaogmaaaGreatDoorHClosed
set_option linter.unusedVariables false
set_option linter.unusedSimpArgs false
set_option maxRecDepth 100000
namespace Go.Proofs.YtphlamnaaogmaaaGreatDoor.M
open Go Go.RowKit Go.Proofs Go.Proofs.Qx 

def yN.out (r : ByteArray) : Res := .ret (.str r)
def yN.sel (β : Type) (r : ByteArray) (k : Res → Option β) : Option β := k (.ret (.str r))
theorem yN.sel_ok (β : Type) (t : ByteArray) (k : Res → Option β) : yN.sel β t k = k (yN.out t) := rfl
def yN.tells (f : ByteArray → ByteArray → Option (ByteArray)) : Tells
  | [.str a0, .str a1] => some (.mk (ByteArray) (f a0 a1) yN.out yN.sel yN.sel_ok)
  | _ => none
def yN.ce (f : ByteArray → ByteArray → Option (ByteArray)) : CE := ⟨[.one (.str), .one (.str)], .flat, yN.tells f⟩
theorem yN.ok (k : Nat) : CEOk Tryz.prog GW lay 84 (yN.ce (strings_Trim.f)) :=
  tells_simple (fun args w => by kernel_rfl) fun args τ x out sel ok r hs hx => by
    unfold yN.tells at hs
    split at hs
    · cases hs
      exact ⟨rfl, _, rfl, rfl, fun w hw => strings_Trim.calls _ _ r w hx⟩
    · cases hs
def zK.Γ (f41 : Bool → Option ((Unit) ⊕ Unit)) (f84 : ByteArray → ByteArray → Option (ByteArray)) (f85 : ByteArray → Option ((ByteArray) ⊕ Unit)) : List (Nat × CE) := [(41, z8.ce f41), (84, yN.ce f84), (85, zX.ce f85)]
def zK.J58 : List (Nat × List Nat) := [(0, [6, 7, 8, 9, 10]), (1, [11, 12]), (2, [13, 14, 15]), (3, [16, 17, 18, 19, 20, 21, 22, 23, 24, 25, 26, 27, 28]), (4, [30, 31]), (5, [32, 33]), (6, [35, 36, 37, 38, 39, 40, 41, 42, 43, 44, 45]), (7, [46, 47]), (1000029, [29]), (1000034, [34])]
def zK.T : TS := ⟨[.ptr 0 0, .str], [.cells 74 [.str, .int .i64, .int .i64, .rs 1 0, .str, .seq 52, .str, .seq 27, .bool] .own, .trow 27 0], 0, [(0, none), (0, some 3)]⟩
def zK.X0 : TS := ⟨[.junk], [.cells 74 [.str, .int .i64, .int .i64, .rs 1 0, .str, .seq 52, .str, .seq 27, .bool] .own, .trow 27 0], 2, []⟩
def zK.X1 : TS := ⟨[], [.cells 74 [.str, .int .i64, .int .i64, .rs 1 0, .str, .seq 52, .str, .seq 27, .bool] .own, .trow 27 0], 2, []⟩
def zK.X : List (Exit × TS) := [(.ret, zK.X0), (.panic [⟨.iface 76 (.agg #[]), false, false⟩], zK.X1)]
def zK.dσ : List D → Option (ByteArray × Dc)
  | [.str x0, .str x1, .int x2, .int x3, .str x4, .seq x5, .str x6, .seq x7, .bool x8, .seq x9] => some (x0, x1, x2, x3, x4, x5, x6, x7, x8, x9)
  | _ => none
def zK.eσ (x : ByteArray × Dc) : List D := [.str x.1, .str x.2.1, .int x.2.2.1, .int x.2.2.2.1, .str x.2.2.2.2.1, .seq x.2.2.2.2.2.1, .str x.2.2.2.2.2.2.1, .seq x.2.2.2.2.2.2.2.1, .bool x.2.2.2.2.2.2.2.2.1, .seq x.2.2.2.2.2.2.2.2.2]
def zK.dτ : Nat → List D → Option ((Dc) ⊕ (Dc))
  | 0, [.str y0, .int y1, .int y2, .str y3, .seq y4, .str y5, .seq y6, .bool y7, .seq y8] => some (.inl (y0, y1, y2, y3, y4, y5, y6, y7, y8))
  | 1, [.str y0, .int y1, .int y2, .str y3, .seq y4, .str y5, .seq y6, .bool y7, .seq y8] => some (.inr (y0, y1, y2, y3, y4, y5, y6, y7, y8))
  | _, _ => none
def zK.eτ : (Dc) ⊕ (Dc) → Nat × List D
  | (.inl t) => (0, [.str t.1, .int t.2.1, .int t.2.2.1, .str t.2.2.2.1, .seq t.2.2.2.2.1, .str t.2.2.2.2.2.1, .seq t.2.2.2.2.2.2.1, .bool t.2.2.2.2.2.2.2.1, .seq t.2.2.2.2.2.2.2.2])
  | (.inr t) => (1, [.str t.1, .int t.2.1, .int t.2.2.1, .str t.2.2.2.1, .seq t.2.2.2.2.1, .str t.2.2.2.2.2.1, .seq t.2.2.2.2.2.2.1, .bool t.2.2.2.2.2.2.2.1, .seq t.2.2.2.2.2.2.2.2])
def zK.sel (ρ : List Nat) (q : List (Option Nat)) (h : Hp) (β : Type) (t : (Dc) ⊕ (Dc)) (k : Res → Hp → Option β) : Option β := match t with
  | (.inl r) => k (endM ρ q h (.ret) (bldS zK.X0 [.str r.1, .int r.2.1, .int r.2.2.1, .str r.2.2.2.1, .seq r.2.2.2.2.1, .str r.2.2.2.2.2.1, .seq r.2.2.2.2.2.2.1, .bool r.2.2.2.2.2.2.2.1, .seq r.2.2.2.2.2.2.2.2])).1 (endM ρ q h (.ret) (bldS zK.X0 [.str r.1, .int r.2.1, .int r.2.2.1, .str r.2.2.2.1, .seq r.2.2.2.2.1, .str r.2.2.2.2.2.1, .seq r.2.2.2.2.2.2.1, .bool r.2.2.2.2.2.2.2.1, .seq r.2.2.2.2.2.2.2.2])).2
  | (.inr r) => k (endM ρ q h (.panic [⟨.iface 76 (.agg #[]), false, false⟩]) (bldS zK.X1 [.str r.1, .int r.2.1, .int r.2.2.1, .str r.2.2.2.1, .seq r.2.2.2.2.1, .str r.2.2.2.2.2.1, .seq r.2.2.2.2.2.2.1, .bool r.2.2.2.2.2.2.2.1, .seq r.2.2.2.2.2.2.2.2])).1 (endM ρ q h (.panic [⟨.iface 76 (.agg #[]), false, false⟩]) (bldS zK.X1 [.str r.1, .int r.2.1, .int r.2.2.1, .str r.2.2.2.1, .seq r.2.2.2.2.1, .str r.2.2.2.2.2.1, .seq r.2.2.2.2.2.2.1, .bool r.2.2.2.2.2.2.2.1, .seq r.2.2.2.2.2.2.2.2])).2
theorem zK.sel_ok (ρ : List Nat) (q : List (Option Nat)) (h : Hp) (β : Type) (t : (Dc) ⊕ (Dc)) (k : Res → Hp → Option β) : zK.sel ρ q h β t k = k (endM ρ q h (endA zK.X zK.eτ t).1 (endA zK.X zK.eτ t).2).1 (endM ρ q h (endA zK.X zK.eτ t).1 (endA zK.X zK.eτ t).2).2 := by rcases t with t | t <;> rfl
def zK.mem (L : (ByteArray × Dc) → Option ((Dc) ⊕ (Dc))) : MSum := memA zK.T zK.X zK.dσ zK.eτ zK.sel zK.sel_ok L
noncomputable def zK.t (K : Nat) (f41 : Bool → Option ((Unit) ⊕ Unit)) (f84 : ByteArray → ByteArray → Option (ByteArray)) (f85 : ByteArray → Option ((ByteArray) ⊕ Unit)) (x0 : ByteArray) (x1 : ByteArray) (x2 : Int) (x3 : Int) (x4 : ByteArray) (x5 : List (List D)) (x6 : ByteArray) (x7 : List (List D)) (x8 : Bool) (x9 : List (List D)) : Option ((Dc) ⊕ (Dc)) :=
  (f85 x0).bind fun v1 => Sum.elim (fun v2 => (f84 v2 (ByteArray.mk #[9, 10, 13, 32])).bind fun v3 => bif (↑x9.length : Int) == (0 : Int) then (f41 (v3.toList == (ByteArray.mk #[]).toList)).bind fun v7 => Sum.elim (fun v8 => some (Sum.inl (x1, x2, x3, x4, x5, x6, x7, x8, x9))) (fun v9 => some (Sum.inr (x1, x2, x3, x4, x5, x6, x7, x8, x9))) v7 else if (0 : Int) ≤ IntKind.i64.wrap ((↑x9.length : Int) - (1 : Int)) ∧ IntKind.i64.wrap ((↑x9.length : Int) - (1 : Int)) < (↑x9.length : Int) then bif decide ((↑(D.at x9 (IntKind.i64.wrap ((↑x9.length : Int) - (1 : Int))).toNat (3 : Nat)).toSeq.length : Int) > (0 : Int)) then (f41 (v3.toList == (ByteArray.mk #[]).toList)).bind fun v4 => Sum.elim (fun v5 => some (Sum.inl (x1, x2, x3, x4, x5, x6, x7, x8, x9))) (fun v6 => some (Sum.inr (x1, x2, x3, x4, x5, x6, x7, x8, x9))) v4 else if (0 : Int) ≤ IntKind.i64.wrap ((↑x9.length : Int) - (1 : Int)) ∧ IntKind.i64.wrap ((↑x9.length : Int) - (1 : Int)) < (↑x9.length : Int) then if (↑((D.at x9 (IntKind.i64.wrap ((↑x9.length : Int) - (1 : Int))).toNat (2 : Nat)).toStr.size + v2.size) : Int) > IntKind.i64.max then none else if (0 : Int) ≤ IntKind.i64.wrap ((↑x9.length : Int) - (1 : Int)) ∧ IntKind.i64.wrap ((↑x9.length : Int) - (1 : Int)) < (↑x9.length : Int) then some (Sum.inl (x1, x2, x3, x4, x5, x6, x7, x8, x9.set (IntKind.i64.wrap ((↑x9.length : Int) - (1 : Int))).toNat [D.at x9 (IntKind.i64.wrap ((↑x9.length : Int) - (1 : Int))).toNat (0 : Nat), D.at x9 (IntKind.i64.wrap ((↑x9.length : Int) - (1 : Int))).toNat (1 : Nat), D.str ((D.at x9 (IntKind.i64.wrap ((↑x9.length : Int) - (1 : Int))).toNat (2 : Nat)).toStr ++ v2), D.at x9 (IntKind.i64.wrap ((↑x9.length : Int) - (1 : Int))).toNat (3 : Nat)])) else none else none else none) (fun v10 => some (Sum.inr (x1, x2, x3, x4, x5, x6, x7, x8, x9))) v1
set_option maxRecDepth 100000 in
theorem zK.run (K : Nat) (f41 : Bool → Option ((Unit) ⊕ Unit)) (f84 : ByteArray → ByteArray → Option (ByteArray)) (f85 : ByteArray → Option ((ByteArray) ⊕ Unit)) (x0 : ByteArray) (x1 : ByteArray) (x2 : Int) (x3 : Int) (x4 : ByteArray) (x5 : List (List D)) (x6 : ByteArray) (x7 : List (List D)) (x8 : Bool) (x9 : List (List D)) : bodyC Tryz.prog lay (zK.Γ f41 f84 f85) [] (inlA Tryz.prog lay (zK.Γ f41 f84 f85) [] 3) ⟨zK.J58, [], 0, none, none⟩ Tryz.f58 (bldS zK.T (zK.eσ (x0, x1, x2, x3, x4, x5, x6, x7, x8, x9))).1 (bldS zK.T (zK.eσ (x0, x1, x2, x3, x4, x5, x6, x7, x8, x9))).2 (contM zK.X zK.dτ) = zK.t K f41 f84 f85 x0 x1 x2 x3 x4 x5 x6 x7 x8 x9 := by kernel_rfl
noncomputable def zK.f (k : Nat) (x : (ByteArray × Dc)) : Option ((Dc) ⊕ (Dc)) := zK.t k (z8.f k) (strings_Trim.f) (zX.f k) x.1 x.2.1 x.2.2.1 x.2.2.2.1 x.2.2.2.2.1 x.2.2.2.2.2.1 x.2.2.2.2.2.2.1 x.2.2.2.2.2.2.2.1 x.2.2.2.2.2.2.2.2.1 x.2.2.2.2.2.2.2.2.2
theorem zK.dσ_ok (d : List D) (x : (ByteArray × Dc)) (h : zK.dσ d = some x) : zK.eσ x = d := by
  unfold zK.dσ at h
  split at h <;> first | (cases h; rfl) | cases h
theorem zK.dτ_ok (i : Nat) (d : List D) (t : (Dc) ⊕ (Dc)) (h : zK.dτ i d = some t) : zK.eτ t = (i, d) := by
  unfold zK.dτ at h
  split at h <;> first | (cases h; rfl) | cases h
theorem zK.allOk (k : Nat) : AllOk Tryz.prog GW lay (zK.Γ (z8.f k) (strings_Trim.f) (zX.f k)) := (allOk_cons (z8.ok k) (allOk_cons (yN.ok k) (allOk_cons (zX.ok k) allOk_nil)))
theorem zK.ok (k : Nat) {B : Nat} {wB : World} (stab_ : ∀ w', Bel B wB w' → GW w') : HandM Tryz.prog lay B wB 58 (zK.mem (zK.f k)) := by
  have hΓ_ := zK.allOk k
  exact mem_mk (by kernel_rfl) hΓ_ stab_ (inlA_ok (by kernel_rfl) hΓ_ stab_ in_nil 3) (C := ⟨zK.J58, [], 0, none, none⟩) Tryz.func58 (bodyL (allL_of (l := []) (by kernel_rfl) allL_nil)) (by kernel_rfl) (by kernel_rfl) zK.dσ_ok zK.dτ_ok (fun x => zK.run k (z8.f k) (strings_Trim.f) (zX.f k) x.1 x.2.1 x.2.2.1 x.2.2.2.1 x.2.2.2.2.1 x.2.2.2.2.2.1 x.2.2.2.2.2.2.1 x.2.2.2.2.2.2.2.1 x.2.2.2.2.2.2.2.2.1 x.2.2.2.2.2.2.2.2.2)
def zP.Γ (f41 : Bool → Option ((Unit) ⊕ Unit)) : List (Nat × CE) := [(41, z8.ce f41)]
def zP.J56 : List (Nat × List Nat) := [(0, [5, 6, 7, 8, 9]), (1, [10, 11, 12, 13]), (2, [14, 15, 16, 17]), (3, [18, 19, 20, 21, 22, 23, 24, 25, 26, 27, 28, 29, 30, 31, 32, 33, 34, 35, 36, 37, 38, 39]), (4, [40, 41, 42, 43, 44, 45, 46, 47]), (5, [48, 49, 50, 51, 52, 53, 54, 55, 56, 57]), (6, [58, 59, 60])]
def zP.T : TS := ⟨[.ptr 0 0], [.cells 74 [.str, .int .i64, .int .i64, .rs 1 0, .str, .seq 52, .str, .seq 27, .bool] .own, .trow 27 0], 0, [(0, none), (0, some 3)]⟩
def zP.X0 : TS := ⟨[.junk], [.cells 74 [.str, .int .i64, .int .i64, .rs 1 1, .str, .seq 52, .str, .seq 27, .bool] .own, .trow 27 1], 2, []⟩
def zP.X1 : TS := ⟨[], [.cells 74 [.str, .int .i64, .int .i64, .rs 1 0, .str, .seq 52, .str, .seq 27, .bool] .own, .trow 27 0], 2, []⟩
def zP.X : List (Exit × TS) := [(.ret, zP.X0), (.panic [⟨.iface 76 (.agg #[]), false, false⟩], zP.X1)]
def zP.dσ : List D → Option (Dc)
  | [.str x0, .int x1, .int x2, .str x3, .seq x4, .str x5, .seq x6, .bool x7, .seq x8] => some (x0, x1, x2, x3, x4, x5, x6, x7, x8)
  | _ => none
def zP.eσ (x : Dc) : List D := [.str x.1, .int x.2.1, .int x.2.2.1, .str x.2.2.2.1, .seq x.2.2.2.2.1, .str x.2.2.2.2.2.1, .seq x.2.2.2.2.2.2.1, .bool x.2.2.2.2.2.2.2.1, .seq x.2.2.2.2.2.2.2.2]
def zP.dτ : Nat → List D → Option ((Dc) ⊕ (Dc))
  | 0, [.str y0, .int y1, .int y2, .str y3, .seq y4, .str y5, .seq y6, .bool y7, .seq y8] => some (.inl (y0, y1, y2, y3, y4, y5, y6, y7, y8))
  | 1, [.str y0, .int y1, .int y2, .str y3, .seq y4, .str y5, .seq y6, .bool y7, .seq y8] => some (.inr (y0, y1, y2, y3, y4, y5, y6, y7, y8))
  | _, _ => none
def zP.eτ : (Dc) ⊕ (Dc) → Nat × List D
  | (.inl t) => (0, [.str t.1, .int t.2.1, .int t.2.2.1, .str t.2.2.2.1, .seq t.2.2.2.2.1, .str t.2.2.2.2.2.1, .seq t.2.2.2.2.2.2.1, .bool t.2.2.2.2.2.2.2.1, .seq t.2.2.2.2.2.2.2.2])
  | (.inr t) => (1, [.str t.1, .int t.2.1, .int t.2.2.1, .str t.2.2.2.1, .seq t.2.2.2.2.1, .str t.2.2.2.2.2.1, .seq t.2.2.2.2.2.2.1, .bool t.2.2.2.2.2.2.2.1, .seq t.2.2.2.2.2.2.2.2])
def zP.sel (ρ : List Nat) (q : List (Option Nat)) (h : Hp) (β : Type) (t : (Dc) ⊕ (Dc)) (k : Res → Hp → Option β) : Option β := match t with
  | (.inl r) => k (endM ρ q h (.ret) (bldS zP.X0 [.str r.1, .int r.2.1, .int r.2.2.1, .str r.2.2.2.1, .seq r.2.2.2.2.1, .str r.2.2.2.2.2.1, .seq r.2.2.2.2.2.2.1, .bool r.2.2.2.2.2.2.2.1, .seq r.2.2.2.2.2.2.2.2])).1 (endM ρ q h (.ret) (bldS zP.X0 [.str r.1, .int r.2.1, .int r.2.2.1, .str r.2.2.2.1, .seq r.2.2.2.2.1, .str r.2.2.2.2.2.1, .seq r.2.2.2.2.2.2.1, .bool r.2.2.2.2.2.2.2.1, .seq r.2.2.2.2.2.2.2.2])).2
  | (.inr r) => k (endM ρ q h (.panic [⟨.iface 76 (.agg #[]), false, false⟩]) (bldS zP.X1 [.str r.1, .int r.2.1, .int r.2.2.1, .str r.2.2.2.1, .seq r.2.2.2.2.1, .str r.2.2.2.2.2.1, .seq r.2.2.2.2.2.2.1, .bool r.2.2.2.2.2.2.2.1, .seq r.2.2.2.2.2.2.2.2])).1 (endM ρ q h (.panic [⟨.iface 76 (.agg #[]), false, false⟩]) (bldS zP.X1 [.str r.1, .int r.2.1, .int r.2.2.1, .str r.2.2.2.1, .seq r.2.2.2.2.1, .str r.2.2.2.2.2.1, .seq r.2.2.2.2.2.2.1, .bool r.2.2.2.2.2.2.2.1, .seq r.2.2.2.2.2.2.2.2])).2
theorem zP.sel_ok (ρ : List Nat) (q : List (Option Nat)) (h : Hp) (β : Type) (t : (Dc) ⊕ (Dc)) (k : Res → Hp → Option β) : zP.sel ρ q h β t k = k (endM ρ q h (endA zP.X zP.eτ t).1 (endA zP.X zP.eτ t).2).1 (endM ρ q h (endA zP.X zP.eτ t).1 (endA zP.X zP.eτ t).2).2 := by rcases t with t | t <;> rfl
def zP.mem (L : (Dc) → Option ((Dc) ⊕ (Dc))) : MSum := memA zP.T zP.X zP.dσ zP.eτ zP.sel zP.sel_ok L
noncomputable def zP.t.J3 (x0 : ByteArray) (x1 : Int) (x2 : Int) (x3 : ByteArray) (x4 : List (List D)) (x5 : ByteArray) (x6 : List (List D)) (x7 : Bool) (x8 : List (List D)) (v4 : Bool × Dc) : Option ((Dc) ⊕ (Dc)) :=
  if (0 : Int) ≤ IntKind.i64.wrap ((↑x8.length : Int) - (1 : Int)) ∧ IntKind.i64.wrap ((↑x8.length : Int) - (1 : Int)) < (↑v4.snd.snd.snd.snd.snd.snd.snd.snd.snd.length : Int) then if (0 : Nat) = (0 : Nat) ∧ (27 : Nat) = (27 : TypeId) ∧ szT Tryz.prog (27 : Nat) = some (4 : Nat) ∧ (0 : Int) ≤ IntKind.i64.wrap ((↑x8.length : Int) - (1 : Int)) ∧ IntKind.i64.wrap ((↑x8.length : Int) - (1 : Int)) ≤ (↑v4.snd.snd.snd.snd.snd.snd.snd.snd.snd.length : Int) then (if (D.at (List.take (IntKind.i64.wrap ((↑(x0, x1, x2, x3, x4, x5, x6, x7, x8).snd.snd.snd.snd.snd.snd.snd.snd.length : Int) - (1 : Int))).toNat v4.r9) ((List.take (IntKind.i64.wrap ((↑(x0, x1, x2, x3, x4, x5, x6, x7, x8).snd.snd.snd.snd.snd.snd.snd.snd.length : Int) - (1 : Int))).toNat v4.r9).length - (1 : Nat)) (3 : Nat)).toSeq.length < (1073741823 : Nat) then some (List.take (IntKind.i64.wrap ((↑x8.length : Int) - (1 : Int))).toNat v4.r9).isEmpty else none).bind fun v7 => bif v7 then some (Sum.inl (v4.q1, v4.q2, v4.q3, (D.at v4.r9 (IntKind.i64.wrap ((↑x8.length : Int) - (1 : Int))).toNat (0 : Nat)).toStr, (D.at v4.r9 (IntKind.i64.wrap ((↑x8.length : Int) - (1 : Int))).toNat (1 : Nat)).toSeq, (D.at v4.r9 (IntKind.i64.wrap ((↑x8.length : Int) - (1 : Int))).toNat (2 : Nat)).toStr, (D.at v4.r9 (IntKind.i64.wrap ((↑x8.length : Int) - (1 : Int))).toNat (3 : Nat)).toSeq, true, List.take (IntKind.i64.wrap ((↑x8.length : Int) - (1 : Int))).toNat v4.r9)) else some (Sum.inl (v4.q1, v4.q2, v4.q3, v4.q4, v4.q5, v4.q6, v4.q7, v4.q8, (List.take (IntKind.i64.wrap ((↑x8.length : Int) - (1 : Int))).toNat v4.r9).set ((List.take (IntKind.i64.wrap ((↑x8.length : Int) - (1 : Int))).toNat v4.r9).length - (1 : Nat)) [D.at (List.take (IntKind.i64.wrap ((↑x8.length : Int) - (1 : Int))).toNat v4.r9) ((List.take (IntKind.i64.wrap ((↑x8.length : Int) - (1 : Int))).toNat v4.r9).length - (1 : Nat)) (0 : Nat), D.at (List.take (IntKind.i64.wrap ((↑x8.length : Int) - (1 : Int))).toNat v4.r9) ((List.take (IntKind.i64.wrap ((↑x8.length : Int) - (1 : Int))).toNat v4.r9).length - (1 : Nat)) (1 : Nat), D.at (List.take (IntKind.i64.wrap ((↑x8.length : Int) - (1 : Int))).toNat v4.r9) ((List.take (IntKind.i64.wrap ((↑x8.length : Int) - (1 : Int))).toNat v4.r9).length - (1 : Nat)) (2 : Nat), D.seq ((D.at (List.take (IntKind.i64.wrap ((↑x8.length : Int) - (1 : Int))).toNat v4.r9) ((List.take (IntKind.i64.wrap ((↑x8.length : Int) - (1 : Int))).toNat v4.r9).length - (1 : Nat)) (3 : Nat)).toSeq ++ [[D.str (D.at v4.r9 (IntKind.i64.wrap ((↑x8.length : Int) - (1 : Int))).toNat (0 : Nat)).toStr, D.seq (D.at v4.r9 (IntKind.i64.wrap ((↑x8.length : Int) - (1 : Int))).toNat (1 : Nat)).toSeq, D.str (D.at v4.r9 (IntKind.i64.wrap ((↑x8.length : Int) - (1 : Int))).toNat (2 : Nat)).toStr, D.seq (D.at v4.r9 (IntKind.i64.wrap ((↑x8.length : Int) - (1 : Int))).toNat (3 : Nat)).toSeq]])])) else none else none
noncomputable def zP.t (K : Nat) (f41 : Bool → Option ((Unit) ⊕ Unit)) (f54 : (ByteArray × Dc) → Option (Bool × Dc)) (f80 : (Dc) → Option ((ByteArray × Dc) ⊕ (Dc))) (f81 : (Dc) → Option (Bool × Dc)) (x0 : ByteArray) (x1 : Int) (x2 : Int) (x3 : ByteArray) (x4 : List (List D)) (x5 : ByteArray) (x6 : List (List D)) (x7 : Bool) (x8 : List (List D)) : Option ((Dc) ⊕ (Dc)) :=
  (f80 (x0, x1, x2, x3, x4, x5, x6, x7, x8)).bind fun v1 => Sum.elim (fun v2 => (f81 (v2.q1, v2.q2, v2.q3, v2.q4, v2.q5, v2.q6, v2.q7, v2.q8, v2.r9)).bind fun v3 => (f54 (ByteArray.mk #[62], v3.q1, v3.q2, v3.q3, v3.q4, v3.q5, v3.q6, v3.q7, v3.q8, v3.r9)).bind fun v4 => bif v4.fst then bif decide ((↑x8.length : Int) > (0 : Int)) then if (0 : Int) ≤ IntKind.i64.wrap ((↑x8.length : Int) - (1 : Int)) ∧ IntKind.i64.wrap ((↑x8.length : Int) - (1 : Int)) < (↑v4.snd.snd.snd.snd.snd.snd.snd.snd.snd.length : Int) then (f41 ((D.at v4.r9 (IntKind.i64.wrap ((↑x8.length : Int) - (1 : Int))).toNat (0 : Nat)).toStr.toList == v2.fst.toList)).bind fun v12 => Sum.elim (fun v13 => zP.t.J3 x0 x1 x2 x3 x4 x5 x6 x7 x8 v4) (fun v14 => some (Sum.inr (v4.q1, v4.q2, v4.q3, v4.q4, v4.q5, v4.q6, v4.q7, v4.q8, v4.r9))) v12 else none else (f41 false).bind fun v9 => Sum.elim (fun v10 => zP.t.J3 x0 x1 x2 x3 x4 x5 x6 x7 x8 v4) (fun v11 => some (Sum.inr (v4.q1, v4.q2, v4.q3, v4.q4, v4.q5, v4.q6, v4.q7, v4.q8, v4.r9))) v9 else (f41 false).bind fun v5 => Sum.elim (fun v6 => zP.t.J3 x0 x1 x2 x3 x4 x5 x6 x7 x8 v4) (fun v8 => some (Sum.inr (v4.q1, v4.q2, v4.q3, v4.q4, v4.q5, v4.q6, v4.q7, v4.q8, v4.r9))) v5) (fun v15 => some (Sum.inr (v15.fst, v15.q1, v15.q2, v15.q3, v15.q4, v15.q5, v15.q6, v15.q7, v15.r8))) v1
set_option maxRecDepth 100000 in
theorem zP.run (K : Nat) (f41 : Bool → Option ((Unit) ⊕ Unit)) (f54 : (ByteArray × Dc) → Option (Bool × Dc)) (f80 : (Dc) → Option ((ByteArray × Dc) ⊕ (Dc))) (f81 : (Dc) → Option (Bool × Dc)) (x0 : ByteArray) (x1 : Int) (x2 : Int) (x3 : ByteArray) (x4 : List (List D)) (x5 : ByteArray) (x6 : List (List D)) (x7 : Bool) (x8 : List (List D)) : bodyC Tryz.prog lay (zP.Γ f41) [] (inlA Tryz.prog lay (zP.Γ f41) [(82, Tryz.f82, ⟨[], [], 0, none, some closedM⟩), (54, Tryz.f54, ⟨[], [], 0, none, some (zN.mem f54)⟩), (80, Tryz.f80, ⟨[], [], 0, none, some (zG.mem f80)⟩), (81, Tryz.f81, ⟨[], [], 0, none, some (zF.mem f81)⟩)] 3) ⟨zP.J56, [], 0, none, none⟩ Tryz.f56 (bldS zP.T (zP.eσ (x0, x1, x2, x3, x4, x5, x6, x7, x8))).1 (bldS zP.T (zP.eσ (x0, x1, x2, x3, x4, x5, x6, x7, x8))).2 (contM zP.X zP.dτ) = zP.t K f41 f54 f80 f81 x0 x1 x2 x3 x4 x5 x6 x7 x8 := by kernel_rfl
noncomputable def zP.f (k : Nat) (x : (Dc)) : Option ((Dc) ⊕ (Dc)) := zP.t k (z8.f k) (zN.f k) (zG.f k) (zF.f k) x.1 x.2.1 x.2.2.1 x.2.2.2.1 x.2.2.2.2.1 x.2.2.2.2.2.1 x.2.2.2.2.2.2.1 x.2.2.2.2.2.2.2.1 x.2.2.2.2.2.2.2.2
theorem zP.dσ_ok (d : List D) (x : (Dc)) (h : zP.dσ d = some x) : zP.eσ x = d := by
  unfold zP.dσ at h
  split at h <;> first | (cases h; rfl) | cases h
theorem zP.dτ_ok (i : Nat) (d : List D) (t : (Dc) ⊕ (Dc)) (h : zP.dτ i d = some t) : zP.eτ t = (i, d) := by
  unfold zP.dτ at h
  split at h <;> first | (cases h; rfl) | cases h
theorem zP.allOk (k : Nat) : AllOk Tryz.prog GW lay (zP.Γ (z8.f k)) := (allOk_cons (z8.ok k) allOk_nil)
theorem zP.ok (k : Nat) {B : Nat} {wB : World} (stab_ : ∀ w', Bel B wB w' → GW w') : HandM Tryz.prog lay B wB 56 (zP.mem (zP.f k)) := by
  have hΓ_ := zP.allOk k
  exact mem_mk (by kernel_rfl) hΓ_ stab_ (inlA_ok (by kernel_rfl) hΓ_ stab_ (in_mem (in_mem (in_mem (in_mem in_nil (fun args w => by kernel_rfl) rfl (closedM.ok stab_)) (fun args w => by kernel_rfl) rfl (zN.ok k stab_)) (fun args w => by kernel_rfl) rfl (zG.ok k stab_)) (fun args w => by kernel_rfl) rfl (zF.ok k stab_)) 3) (C := ⟨zP.J56, [], 0, none, none⟩) Tryz.func56 (bodyL (allL_of (l := []) (by kernel_rfl) allL_nil)) (by kernel_rfl) (by kernel_rfl) zP.dσ_ok zP.dτ_ok (fun x => zP.run k (z8.f k) (zN.f k) (zG.f k) (zF.f k) x.1 x.2.1 x.2.2.1 x.2.2.2.1 x.2.2.2.2.1 x.2.2.2.2.2.1 x.2.2.2.2.2.2.1 x.2.2.2.2.2.2.2.1 x.2.2.2.2.2.2.2.2)

end Go.Proofs.YtphlamnaaogmaaaGreatDoor.M
