import Derived.Test.YtphlamnaaogmaaaGreatDoorE5
import Derived.Test.YtphlamnaaogmaaaGreatDoorHRepl7
set_option linter.unusedVariables false
set_option linter.unusedSimpArgs false
set_option maxRecDepth 100000
namespace Go.Proofs.YtphlamnaaogmaaaGreatDoor.M
open Go Go.RowKit Go.Proofs Go.Proofs.Qx 

def zM.Γ (f46 : ByteArray → Option ByteArray) : List (Nat × CE) := [(46, yK.ce f46)]
def zM.J32 : List (Nat × List Nat) := [(1, [8, 9, 10, 11, 12]), (2, [13]), (4, [18, 19]), (5, [20, 21, 22, 23, 24, 25, 26, 27, 28, 29, 30]), (6, [31]), (7, [32, 33, 34, 35, 36, 37, 38, 39]), (8, [41, 42]), (9, [43, 44, 45, 46, 47, 48]), (10, [49]), (12, [54, 55]), (13, [56, 57, 58]), (14, [59]), (15, [60, 61, 62, 63, 64, 65]), (1000017, [17]), (1000040, [40]), (1000053, [53])]
def zM.T : TS := ⟨[.ptr 0 0, .agg [.str, .seq 52, .str, .seq 27]], [.bld 59 5 false], 0, [(0, none)]⟩
def zM.X0 : TS := ⟨[.junk], [.bld 59 5 false], 1, []⟩
def zM.X : List (Exit × TS) := [(.ret, zM.X0)]
def zM.dσ : List D → Option (ByteArray × List (List D) × ByteArray × List (List D) × ByteArray)
  | [.str x0, .seq x1, .str x2, .seq x3, .str x4] => some (x0, x1, x2, x3, x4)
  | _ => none
def zM.eσ (x : ByteArray × List (List D) × ByteArray × List (List D) × ByteArray) : List D := [.str x.1, .seq x.2.1, .str x.2.2.1, .seq x.2.2.2.1, .str x.2.2.2.2]
def zM.dτ : Nat → List D → Option (ByteArray)
  | 0, [.str y0] => some y0
  | _, _ => none
def zM.eτ (t : ByteArray) : Nat × List D := (0, [.str t])
def zM.sel (ρ : List Nat) (q : List (Option Nat)) (h : Hp) (β : Type) (t : ByteArray) (k : Res → Hp → Option β) : Option β := k (endM ρ q h (.ret) (bldS zM.X0 [.str t])).1 (endM ρ q h (.ret) (bldS zM.X0 [.str t])).2
theorem zM.sel_ok (ρ : List Nat) (q : List (Option Nat)) (h : Hp) (β : Type) (t : ByteArray) (k : Res → Hp → Option β) : zM.sel ρ q h β t k = k (endM ρ q h (endA zM.X zM.eτ t).1 (endA zM.X zM.eτ t).2).1 (endM ρ q h (endA zM.X zM.eτ t).1 (endA zM.X zM.eτ t).2).2 := by rfl
def zM.mem (L : (ByteArray × List (List D) × ByteArray × List (List D) × ByteArray) → Option (ByteArray)) : MSum := memA zM.T zM.X zM.dσ zM.eτ zM.sel zM.sel_ok L
def zM.L3.T : TS := ⟨[.ptr 0 0, .junk, .junk, .ptr 1 0, .junk, .junk, .junk, .junk, .junk, .junk, .junk, .junk, .junk, .junk, .seq 52, .int .i64, .int .i64, .junk, .junk, .junk, .junk, .junk, .junk, .junk, .junk, .junk, .junk, .junk, .junk, .junk, .junk, .junk, .junk, .junk, .junk, .junk, .junk, .junk, .junk, .junk, .junk, .junk, .junk, .junk, .junk, .junk, .junk, .junk, .junk, .junk, .junk, .junk, .junk, .junk, .junk, .junk, .junk, .junk, .junk, .junk, .junk, .junk, .junk, .junk, .junk, .junk], [.bld 59 5 false, .cells 27 [.str, .seq 52, .str, .seq 27] .own], 1, [(3, none)]⟩
def zM.L3.X0 : TS := ⟨[.ptr 0 0, .junk, .junk, .ptr 1 0, .junk, .junk, .junk, .junk, .junk, .junk, .junk, .junk, .junk, .junk, .junk, .junk, .junk, .junk, .junk, .junk, .junk, .junk, .junk, .junk, .junk, .junk, .junk, .junk, .junk, .junk, .junk, .junk, .junk, .junk, .junk, .junk, .junk, .junk, .junk, .junk, .junk, .junk, .junk, .junk, .junk, .junk, .junk, .junk, .junk, .junk, .junk, .junk, .junk, .junk, .junk, .junk, .junk, .junk, .junk, .junk, .junk, .junk, .junk, .junk, .junk, .junk], [.bld 59 5 false, .cells 27 [.str, .seq 52, .str, .seq 27] .own], 1, [(3, none)]⟩
def zM.L3.X : List (Exit × TS) := [(.exit 0, zM.L3.X0)]
def zM.L3.dσ : List D → Option (List (List D) × Int × Int × ByteArray × ByteArray × List (List D) × ByteArray × List (List D))
  | [.seq x0, .int x1, .int x2, .str x3, .str x4, .seq x5, .str x6, .seq x7] => some (x0, x1, x2, x3, x4, x5, x6, x7)
  | _ => none
def zM.L3.eσ (x : List (List D) × Int × Int × ByteArray × ByteArray × List (List D) × ByteArray × List (List D)) : List D := [.seq x.1, .int x.2.1, .int x.2.2.1, .str x.2.2.2.1, .str x.2.2.2.2.1, .seq x.2.2.2.2.2.1, .str x.2.2.2.2.2.2.1, .seq x.2.2.2.2.2.2.2]
def zM.L3.dτ : Nat → List D → Option (ByteArray × ByteArray × List (List D) × ByteArray × List (List D))
  | 0, [.str y0, .str y1, .seq y2, .str y3, .seq y4] => some (y0, y1, y2, y3, y4)
  | _, _ => none
def zM.L3.eτ (t : ByteArray × ByteArray × List (List D) × ByteArray × List (List D)) : Nat × List D := (0, [.str t.1, .str t.2.1, .seq t.2.2.1, .str t.2.2.2.1, .seq t.2.2.2.2])
def zM.L3.sel (β : Type) (t : ByteArray × ByteArray × List (List D) × ByteArray × List (List D)) (k : Exit → Fr → Hp → Option β) : Option β := k (.exit 0) (bldS zM.L3.X0 [.str t.1, .str t.2.1, .seq t.2.2.1, .str t.2.2.2.1, .seq t.2.2.2.2]).1 (bldS zM.L3.X0 [.str t.1, .str t.2.1, .seq t.2.2.1, .str t.2.2.2.1, .seq t.2.2.2.2]).2
theorem zM.L3.sel_ok (β : Type) (t : ByteArray × ByteArray × List (List D) × ByteArray × List (List D)) (k : Exit → Fr → Hp → Option β) : zM.L3.sel β t k = k (endA zM.L3.X zM.L3.eτ t).1 (endA zM.L3.X zM.L3.eτ t).2.1 (endA zM.L3.X zM.L3.eτ t).2.2 := by rfl
theorem zM.L3.dσ_ok (d : List D) (x : List (List D) × Int × Int × ByteArray × ByteArray × List (List D) × ByteArray × List (List D)) (h : zM.L3.dσ d = some x) : zM.L3.eσ x = d := by
  unfold zM.L3.dσ at h
  split at h <;> first | (cases h; rfl) | cases h
theorem zM.L3.dτ_ok (i : Nat) (d : List D) (t : ByteArray × ByteArray × List (List D) × ByteArray × List (List D)) (h : zM.L3.dτ i d = some t) : zM.L3.eτ t = (i, d) := by
  unfold zM.L3.dτ at h
  split at h <;> first | (cases h; rfl) | cases h
def zM.L3.S (K : Nat) (f46 : ByteArray → Option ByteArray) (f32 : (ByteArray × List (List D) × ByteArray × List (List D) × ByteArray) → Option (ByteArray)) (rec : (List (List D) × Int × Int × ByteArray × ByteArray × List (List D) × ByteArray × List (List D)) → Option (ByteArray × ByteArray × List (List D) × ByteArray × List (List D))) (x0 : List (List D)) (x1 : Int) (x2 : Int) (x3 : ByteArray) (x4 : ByteArray) (x5 : List (List D)) (x6 : ByteArray) (x7 : List (List D)) : Option (ByteArray × ByteArray × List (List D) × ByteArray × List (List D)) :=
  bif decide (x2 < x1) then if (0 : Int) ≤ x2 ∧ x2 < (↑x0.length : Int) then if (↑((ByteArray.mk #[32]).size + (D.at x0 x2.toNat (0 : Nat)).toStr.size) : Int) > IntKind.i64.max then none else if (↑((ByteArray.mk #[32] ++ (D.at x0 x2.toNat (0 : Nat)).toStr).size + (ByteArray.mk #[61, 34]).size) : Int) > IntKind.i64.max then none else (f46 (D.at x0 x2.toNat (1 : Nat)).toStr).bind fun v1 => if (↑((ByteArray.mk #[32] ++ (D.at x0 x2.toNat (0 : Nat)).toStr ++ ByteArray.mk #[61, 34]).size + v1.size) : Int) > IntKind.i64.max then none else if (↑((ByteArray.mk #[32] ++ (D.at x0 x2.toNat (0 : Nat)).toStr ++ ByteArray.mk #[61, 34] ++ v1).size + (ByteArray.mk #[34]).size) : Int) > IntKind.i64.max then none else (if (x0, x1, x2, x3, x4, x5, x6, x7).snd.snd.snd.fst.size + (ByteArray.mk #[32] ++ (D.at (x0, x1, x2, x3, x4, x5, x6, x7).fst (x0, x1, x2, x3, x4, x5, x6, x7).snd.snd.fst.toNat (0 : Nat)).toStr ++ ByteArray.mk #[61, 34] ++ v1 ++ ByteArray.mk #[34]).size ≤ (140737488355328 : Nat) then some () else none).bind fun v2 => rec (x0, x1, IntKind.i64.wrap (x2 + (1 : Int)), x3 ++ (ByteArray.mk #[32] ++ (D.at x0 x2.toNat (0 : Nat)).toStr ++ ByteArray.mk #[61, 34] ++ v1 ++ ByteArray.mk #[34]), x4, x5, x6, x7) else none else some (x3, x4, x5, x6, x7)
set_option maxRecDepth 100000 in
theorem zM.L3.step (K : Nat) (f46 : ByteArray → Option ByteArray) (f32 : (ByteArray × List (List D) × ByteArray × List (List D) × ByteArray) → Option (ByteArray)) (rec : (List (List D) × Int × Int × ByteArray × ByteArray × List (List D) × ByteArray × List (List D)) → Option (ByteArray × ByteArray × List (List D) × ByteArray × List (List D))) (x0 : List (List D)) (x1 : Int) (x2 : Int) (x3 : ByteArray) (x4 : ByteArray) (x5 : List (List D)) (x6 : ByteArray) (x7 : List (List D)) : execA Tryz.prog lay (zM.Γ f46) [] (inlA Tryz.prog lay (zM.Γ f46) [(31, Tryz.f31, ⟨[], [], 0, none, some writeM⟩), (32, Tryz.f32, ⟨[], [], 0, none, some (zM.mem f32)⟩)] 3) ⟨zM.J32, [], 0, none, none⟩ 1 (loopAt Tryz.f32 0) (bldS zM.L3.T (zM.L3.eσ (x0, x1, x2, x3, x4, x5, x6, x7))).1 (bldS zM.L3.T (zM.L3.eσ (x0, x1, x2, x3, x4, x5, x6, x7))).2 (contA zM.L3.T zM.L3.X zM.L3.dσ zM.L3.dτ rec) = zM.L3.S K f46 f32 rec x0 x1 x2 x3 x4 x5 x6 x7 := by kernel_rfl
def zM.L3 (K : Nat) (f46 : ByteArray → Option ByteArray) (f32 : (ByteArray × List (List D) × ByteArray × List (List D) × ByteArray) → Option (ByteArray)) : Nat → (List (List D) × Int × Int × ByteArray × ByteArray × List (List D) × ByteArray × List (List D)) → Option (ByteArray × ByteArray × List (List D) × ByteArray × List (List D))
  | 0, _ => none
  | k + 1, x => zM.L3.S K f46 f32 (zM.L3 K f46 f32 k) x.1 x.2.1 x.2.2.1 x.2.2.2.1 x.2.2.2.2.1 x.2.2.2.2.2.1 x.2.2.2.2.2.2.1 x.2.2.2.2.2.2.2
theorem zM.L3.ok (K : Nat) (f46 : ByteArray → Option ByteArray) (f32 : (ByteArray × List (List D) × ByteArray × List (List D) × ByteArray) → Option (ByteArray)) {B : Nat} {wB : World} (stab_ : ∀ w', Bel B wB w' → GW w') (hΓ_ : AllOk Tryz.prog GW lay (zM.Γ f46)) (hM32_ : HandM Tryz.prog lay B wB 32 (zM.mem f32)) (Kr : Nat) : LSOk Tryz.prog lay B wB [] 1 (sumA zM.L3.T zM.L3.X zM.L3.dσ zM.L3.eτ zM.L3.sel zM.L3.sel_ok (zM.L3 K f46 f32 Kr)) (loopAt Tryz.f32 0) :=
  loop_mk (by kernel_rfl) hΓ_ stab_ (inlA_ok (by kernel_rfl) hΓ_ stab_ (in_mem (in_mem in_nil (fun args w => by kernel_rfl) rfl (writeM.ok stab_)) (fun args w => by kernel_rfl) rfl hM32_) 3) (C := ⟨zM.J32, [], 0, none, none⟩) (allL_of (l := []) (by kernel_rfl) allL_nil) (by decide) (by decide) zM.L3.dσ_ok zM.L3.dτ_ok (fun _ => rfl) (fun k x => (zM.L3.step K f46 f32 (zM.L3 K f46 f32 k) x.1 x.2.1 x.2.2.1 x.2.2.2.1 x.2.2.2.2.1 x.2.2.2.2.2.1 x.2.2.2.2.2.2.1 x.2.2.2.2.2.2.2).symm) Kr
def zM.L11.T : TS := ⟨[.ptr 0 0, .junk, .junk, .ptr 1 0, .junk, .junk, .junk, .junk, .junk, .junk, .junk, .junk, .junk, .junk, .junk, .junk, .junk, .junk, .junk, .junk, .junk, .junk, .junk, .junk, .junk, .junk, .junk, .junk, .junk, .junk, .junk, .junk, .junk, .junk, .junk, .junk, .junk, .junk, .junk, .junk, .junk, .junk, .junk, .junk, .junk, .junk, .junk, .junk, .junk, .junk, .seq 27, .int .i64, .int .i64, .junk, .junk, .junk, .junk, .junk, .junk, .junk, .junk, .junk, .junk, .junk, .junk, .junk], [.bld 59 5 false, .cells 27 [.str, .seq 52, .str, .seq 27] .own], 1, [(3, none)]⟩
def zM.L11.X0 : TS := ⟨[.ptr 0 0, .junk, .junk, .ptr 1 0, .junk, .junk, .junk, .junk, .junk, .junk, .junk, .junk, .junk, .junk, .junk, .junk, .junk, .junk, .junk, .junk, .junk, .junk, .junk, .junk, .junk, .junk, .junk, .junk, .junk, .junk, .junk, .junk, .junk, .junk, .junk, .junk, .junk, .junk, .junk, .junk, .junk, .junk, .junk, .junk, .junk, .junk, .junk, .junk, .junk, .junk, .junk, .junk, .junk, .junk, .junk, .junk, .junk, .junk, .junk, .junk, .junk, .junk, .junk, .junk, .junk, .junk], [.bld 59 5 false, .cells 27 [.str, .seq 52, .str, .seq 27] .own], 1, [(3, none)]⟩
def zM.L11.X : List (Exit × TS) := [(.exit 2, zM.L11.X0)]
def zM.L11.dσ : List D → Option (List (List D) × Int × Int × ByteArray × ByteArray × List (List D) × ByteArray × List (List D))
  | [.seq x0, .int x1, .int x2, .str x3, .str x4, .seq x5, .str x6, .seq x7] => some (x0, x1, x2, x3, x4, x5, x6, x7)
  | _ => none
def zM.L11.eσ (x : List (List D) × Int × Int × ByteArray × ByteArray × List (List D) × ByteArray × List (List D)) : List D := [.seq x.1, .int x.2.1, .int x.2.2.1, .str x.2.2.2.1, .str x.2.2.2.2.1, .seq x.2.2.2.2.2.1, .str x.2.2.2.2.2.2.1, .seq x.2.2.2.2.2.2.2]
def zM.L11.dτ : Nat → List D → Option (ByteArray × ByteArray × List (List D) × ByteArray × List (List D))
  | 0, [.str y0, .str y1, .seq y2, .str y3, .seq y4] => some (y0, y1, y2, y3, y4)
  | _, _ => none
def zM.L11.eτ (t : ByteArray × ByteArray × List (List D) × ByteArray × List (List D)) : Nat × List D := (0, [.str t.1, .str t.2.1, .seq t.2.2.1, .str t.2.2.2.1, .seq t.2.2.2.2])
def zM.L11.sel (β : Type) (t : ByteArray × ByteArray × List (List D) × ByteArray × List (List D)) (k : Exit → Fr → Hp → Option β) : Option β := k (.exit 2) (bldS zM.L11.X0 [.str t.1, .str t.2.1, .seq t.2.2.1, .str t.2.2.2.1, .seq t.2.2.2.2]).1 (bldS zM.L11.X0 [.str t.1, .str t.2.1, .seq t.2.2.1, .str t.2.2.2.1, .seq t.2.2.2.2]).2
theorem zM.L11.sel_ok (β : Type) (t : ByteArray × ByteArray × List (List D) × ByteArray × List (List D)) (k : Exit → Fr → Hp → Option β) : zM.L11.sel β t k = k (endA zM.L11.X zM.L11.eτ t).1 (endA zM.L11.X zM.L11.eτ t).2.1 (endA zM.L11.X zM.L11.eτ t).2.2 := by rfl
theorem zM.L11.dσ_ok (d : List D) (x : List (List D) × Int × Int × ByteArray × ByteArray × List (List D) × ByteArray × List (List D)) (h : zM.L11.dσ d = some x) : zM.L11.eσ x = d := by
  unfold zM.L11.dσ at h
  split at h <;> first | (cases h; rfl) | cases h
theorem zM.L11.dτ_ok (i : Nat) (d : List D) (t : ByteArray × ByteArray × List (List D) × ByteArray × List (List D)) (h : zM.L11.dτ i d = some t) : zM.L11.eτ t = (i, d) := by
  unfold zM.L11.dτ at h
  split at h <;> first | (cases h; rfl) | cases h
def zM.L11.S (K : Nat) (f46 : ByteArray → Option ByteArray) (f32 : (ByteArray × List (List D) × ByteArray × List (List D) × ByteArray) → Option (ByteArray)) (rec : (List (List D) × Int × Int × ByteArray × ByteArray × List (List D) × ByteArray × List (List D)) → Option (ByteArray × ByteArray × List (List D) × ByteArray × List (List D))) (x0 : List (List D)) (x1 : Int) (x2 : Int) (x3 : ByteArray) (x4 : ByteArray) (x5 : List (List D)) (x6 : ByteArray) (x7 : List (List D)) : Option (ByteArray × ByteArray × List (List D) × ByteArray × List (List D)) :=
  bif decide (x2 < x1) then if (0 : Int) ≤ x2 ∧ x2 < (↑x0.length : Int) then (f32 ((D.at x0 x2.toNat (0 : Nat)).toStr, (D.at x0 x2.toNat (1 : Nat)).toSeq, (D.at x0 x2.toNat (2 : Nat)).toStr, (D.at x0 x2.toNat (3 : Nat)).toSeq, x3)).bind fun v1 => rec (x0, x1, IntKind.i64.wrap (x2 + (1 : Int)), v1, x4, x5, x6, x7) else none else some (x3, x4, x5, x6, x7)
set_option maxRecDepth 100000 in
theorem zM.L11.step (K : Nat) (f46 : ByteArray → Option ByteArray) (f32 : (ByteArray × List (List D) × ByteArray × List (List D) × ByteArray) → Option (ByteArray)) (rec : (List (List D) × Int × Int × ByteArray × ByteArray × List (List D) × ByteArray × List (List D)) → Option (ByteArray × ByteArray × List (List D) × ByteArray × List (List D))) (x0 : List (List D)) (x1 : Int) (x2 : Int) (x3 : ByteArray) (x4 : ByteArray) (x5 : List (List D)) (x6 : ByteArray) (x7 : List (List D)) : execA Tryz.prog lay (zM.Γ f46) [] (inlA Tryz.prog lay (zM.Γ f46) [(31, Tryz.f31, ⟨[], [], 0, none, some writeM⟩), (32, Tryz.f32, ⟨[], [], 0, none, some (zM.mem f32)⟩)] 3) ⟨zM.J32, [], 0, none, none⟩ 1 (loopAt Tryz.f32 1) (bldS zM.L11.T (zM.L11.eσ (x0, x1, x2, x3, x4, x5, x6, x7))).1 (bldS zM.L11.T (zM.L11.eσ (x0, x1, x2, x3, x4, x5, x6, x7))).2 (contA zM.L11.T zM.L11.X zM.L11.dσ zM.L11.dτ rec) = zM.L11.S K f46 f32 rec x0 x1 x2 x3 x4 x5 x6 x7 := by kernel_rfl
def zM.L11 (K : Nat) (f46 : ByteArray → Option ByteArray) (f32 : (ByteArray × List (List D) × ByteArray × List (List D) × ByteArray) → Option (ByteArray)) : Nat → (List (List D) × Int × Int × ByteArray × ByteArray × List (List D) × ByteArray × List (List D)) → Option (ByteArray × ByteArray × List (List D) × ByteArray × List (List D))
  | 0, _ => none
  | k + 1, x => zM.L11.S K f46 f32 (zM.L11 K f46 f32 k) x.1 x.2.1 x.2.2.1 x.2.2.2.1 x.2.2.2.2.1 x.2.2.2.2.2.1 x.2.2.2.2.2.2.1 x.2.2.2.2.2.2.2
theorem zM.L11.ok (K : Nat) (f46 : ByteArray → Option ByteArray) (f32 : (ByteArray × List (List D) × ByteArray × List (List D) × ByteArray) → Option (ByteArray)) {B : Nat} {wB : World} (stab_ : ∀ w', Bel B wB w' → GW w') (hΓ_ : AllOk Tryz.prog GW lay (zM.Γ f46)) (hM32_ : HandM Tryz.prog lay B wB 32 (zM.mem f32)) (Kr : Nat) : LSOk Tryz.prog lay B wB [] 1 (sumA zM.L11.T zM.L11.X zM.L11.dσ zM.L11.eτ zM.L11.sel zM.L11.sel_ok (zM.L11 K f46 f32 Kr)) (loopAt Tryz.f32 1) :=
  loop_mk (by kernel_rfl) hΓ_ stab_ (inlA_ok (by kernel_rfl) hΓ_ stab_ (in_mem (in_mem in_nil (fun args w => by kernel_rfl) rfl (writeM.ok stab_)) (fun args w => by kernel_rfl) rfl hM32_) 3) (C := ⟨zM.J32, [], 0, none, none⟩) (allL_of (l := []) (by kernel_rfl) allL_nil) (by decide) (by decide) zM.L11.dσ_ok zM.L11.dτ_ok (fun _ => rfl) (fun k x => (zM.L11.step K f46 f32 (zM.L11 K f46 f32 k) x.1 x.2.1 x.2.2.1 x.2.2.2.1 x.2.2.2.2.1 x.2.2.2.2.2.1 x.2.2.2.2.2.2.1 x.2.2.2.2.2.2.2).symm) Kr
def zM.t.J6 (K : Nat) (f46 : ByteArray → Option ByteArray) (f32 : ByteArray × List (List D) × ByteArray × List (List D) × ByteArray → Option ByteArray) (v2 : ByteArray × ByteArray × List (List D) × ByteArray × List (List D)) : Option (ByteArray) :=
  (f46 v2.q3).bind fun v3 => if (↑((ByteArray.mk #[62]).size + v3.size) : Int) > IntKind.i64.max then none else (if v2.fst.size + (ByteArray.mk #[62] ++ v3).size ≤ (140737488355328 : Nat) then some () else none).bind fun v4 => (zM.L11 K f46 f32 K (v2.r4, (↑v2.snd.snd.snd.snd.length : Int), (0 : Int), v2.fst ++ (ByteArray.mk #[62] ++ v3), v2.q1, v2.q2, v2.q3, v2.r4)).bind fun v5 => if (↑((ByteArray.mk #[60, 47]).size + v5.snd.fst.size) : Int) > IntKind.i64.max then none else if (↑((ByteArray.mk #[60, 47] ++ v5.q1).size + (ByteArray.mk #[62]).size) : Int) > IntKind.i64.max then none else (if v5.fst.size + (ByteArray.mk #[60, 47] ++ v5.q1 ++ ByteArray.mk #[62]).size ≤ (140737488355328 : Nat) then some () else none).bind fun v6 => some (v5.fst ++ (ByteArray.mk #[60, 47] ++ v5.q1 ++ ByteArray.mk #[62]))
def zM.t (K : Nat) (f46 : ByteArray → Option ByteArray) (f32 : (ByteArray × List (List D) × ByteArray × List (List D) × ByteArray) → Option (ByteArray)) (x0 : ByteArray) (x1 : List (List D)) (x2 : ByteArray) (x3 : List (List D)) (x4 : ByteArray) : Option (ByteArray) :=
  if (↑((ByteArray.mk #[60]).size + x0.size) : Int) > IntKind.i64.max then none else (if (x0, x1, x2, x3, x4).snd.snd.snd.snd.size + (ByteArray.mk #[60] ++ (x0, x1, x2, x3, x4).fst).size ≤ (140737488355328 : Nat) then some () else none).bind fun v1 => (zM.L3 K f46 f32 K (x1, (↑x1.length : Int), (0 : Int), x4 ++ (ByteArray.mk #[60] ++ x0), x0, x1, x2, x3)).bind fun v2 => bif v2.snd.snd.snd.fst.toList == (ByteArray.mk #[]).toList then bif (↑v2.snd.snd.snd.snd.length : Int) == (0 : Int) then (if v2.fst.size + (ByteArray.mk #[47, 62]).size ≤ (140737488355328 : Nat) then some () else none).bind fun v7 => some (v2.fst ++ ByteArray.mk #[47, 62]) else zM.t.J6 K f46 f32 v2 else zM.t.J6 K f46 f32 v2
set_option maxRecDepth 100000 in
theorem zM.run (K : Nat) (f46 : ByteArray → Option ByteArray) (f32 : (ByteArray × List (List D) × ByteArray × List (List D) × ByteArray) → Option (ByteArray)) (x0 : ByteArray) (x1 : List (List D)) (x2 : ByteArray) (x3 : List (List D)) (x4 : ByteArray) : bodyC Tryz.prog lay (zM.Γ f46) [] (inlA Tryz.prog lay (zM.Γ f46) [(31, Tryz.f31, ⟨[], [], 0, none, some writeM⟩), (32, Tryz.f32, ⟨[], [], 0, none, some (zM.mem f32)⟩)] 3) ⟨zM.J32, [(3, 1, sumA zM.L3.T zM.L3.X zM.L3.dσ zM.L3.eτ zM.L3.sel zM.L3.sel_ok (zM.L3 K f46 f32 K)), (11, 1, sumA zM.L11.T zM.L11.X zM.L11.dσ zM.L11.eτ zM.L11.sel zM.L11.sel_ok (zM.L11 K f46 f32 K))], 0, none, none⟩ Tryz.f32 (bldS zM.T (zM.eσ (x0, x1, x2, x3, x4))).1 (bldS zM.T (zM.eσ (x0, x1, x2, x3, x4))).2 (contM zM.X zM.dτ) = zM.t K f46 f32 x0 x1 x2 x3 x4 := by kernel_rfl
def zM.f : Nat → (ByteArray × List (List D) × ByteArray × List (List D) × ByteArray) → Option (ByteArray)
  | 0, _ => none
  | k + 1, x => zM.t k (yK.f) (zM.f k) x.1 x.2.1 x.2.2.1 x.2.2.2.1 x.2.2.2.2
theorem zM.dσ_ok (d : List D) (x : (ByteArray × List (List D) × ByteArray × List (List D) × ByteArray)) (h : zM.dσ d = some x) : zM.eσ x = d := by
  unfold zM.dσ at h
  split at h <;> first | (cases h; rfl) | cases h
theorem zM.dτ_ok (i : Nat) (d : List D) (t : ByteArray) (h : zM.dτ i d = some t) : zM.eτ t = (i, d) := by
  unfold zM.dτ at h
  split at h <;> first | (cases h; rfl) | cases h
theorem zM.allOk (k : Nat) : AllOk Tryz.prog GW lay (zM.Γ (yK.f)) := (allOk_cons (yK.ok k) allOk_nil)
theorem zM.ok (k : Nat) : ∀ {B : Nat} {wB : World} (stab_ : ∀ w', Bel B wB w' → GW w'), HandM Tryz.prog lay B wB 32 (zM.mem (zM.f k)) := by
  induction k with
  | zero => intro B wB stab_; exact mem_none fun _ => rfl
  | succ k ih =>
    intro B wB stab_
    have hΓ_ := zM.allOk k
    exact mem_mk (by kernel_rfl) hΓ_ stab_ (inlA_ok (by kernel_rfl) hΓ_ stab_ (in_mem (in_mem in_nil (fun args w => by kernel_rfl) rfl (writeM.ok stab_)) (fun args w => by kernel_rfl) rfl (ih stab_)) 3) (C := ⟨zM.J32, [(3, 1, sumA zM.L3.T zM.L3.X zM.L3.dσ zM.L3.eτ zM.L3.sel zM.L3.sel_ok (zM.L3 k (yK.f) (zM.f k) k)), (11, 1, sumA zM.L11.T zM.L11.X zM.L11.dσ zM.L11.eτ zM.L11.sel zM.L11.sel_ok (zM.L11 k (yK.f) (zM.f k) k))], 0, none, none⟩) Tryz.func32 (bodyL (allL_of (l := [loopAt Tryz.f32 0, loopAt Tryz.f32 1]) (by kernel_rfl) (allL_cons (by kernel_rfl) (zM.L3.ok k (yK.f) (zM.f k) stab_ hΓ_ (ih stab_) k) (allL_cons (by kernel_rfl) (zM.L11.ok k (yK.f) (zM.f k) stab_ hΓ_ (ih stab_) k) allL_nil)))) (by kernel_rfl) (by kernel_rfl) zM.dσ_ok zM.dτ_ok (fun x => zM.run k (yK.f) (zM.f k) x.1 x.2.1 x.2.2.1 x.2.2.2.1 x.2.2.2.2)
def yE.out (r : ByteArray × Int) : Res := .ret (.tup [.str r.1, .int .i64 r.2])
def yE.dec : Res → Option (ByteArray × Int)
  | .ret (.tup [.str y0, .int .i64 y1]) => some (y0, y1)
  | _ => none
theorem yE.out_free (r : ByteArray × Int) : (yE.out r).free = true := rfl
def yE.sel (β : Type) (r : ByteArray × Int) (k : Res → Option β) : Option β := k (.ret (.tup [.str r.1, .int .i64 r.2]))
theorem yE.sel_ok (β : Type) (t : ByteArray × Int) (k : Res → Option β) : yE.sel β t k = k (yE.out t) := rfl
theorem yE.dec_ok (res : Res) (r : ByteArray × Int) (h : yE.dec res = some r) : res = yE.out r := by
  unfold yE.dec at h
  split at h <;> first | (cases h; rfl) | cases h
def yE.tells (f : ByteArray → (List (List D)) → ByteArray → (List (List D)) → Option (ByteArray × Int)) : Tells
  | [.agg [.str a0, .seq 52 a1, .str a2, .seq 27 a3]] => some (.mk (ByteArray × Int) (f a0 a1 a2 a3) yE.out yE.sel yE.sel_ok)
  | _ => none
def yE.ce (f : ByteArray → (List (List D)) → ByteArray → (List (List D)) → Option (ByteArray × Int)) : CE := ⟨[.agg [.str, .seq 52, .str, .seq 27]], .flat, yE.tells f⟩
def yE.Γ (f18 : ByteArray → (List (List D)) → ByteArray → (List (List D)) → Option (Bool)) : List (Nat × CE) := [(18, yC.ce f18)]
def yE.J14 : List (Nat × List Nat) := [(1, [5, 6]), (4, [8]), (5, [9, 10]), (6, [11, 12]), (1000007, [7])]
def yE.t (K : Nat) (f18 : ByteArray → (List (List D)) → ByteArray → (List (List D)) → Option (Bool)) (f32 : (ByteArray × List (List D) × ByteArray × List (List D) × ByteArray) → Option (ByteArray)) (a0 : ByteArray) (a1 : List (List D)) (a2 : ByteArray) (a3 : List (List D)) : Option (ByteArray × Int) :=
  (f18 a0 a1 a2 a3).bind fun v1 => bif !v1 then some (ByteArray.mk #[], (200 : Int)) else (f32 (a0, a1, a2, a3, ByteArray.mk #[60, 63, 120, 109, 108, 32, 118, 101, 114, 115, 105, 111, 110, 61, 34, 49, 46, 48, 34, 32, 101, 110, 99, 111, 100, 105, 110, 103, 61, 34, 85, 84, 70, 45, 56, 34, 63, 62, 10])).bind fun v2 => if (↑(v2.size + (ByteArray.mk #[10]).size) : Int) > IntKind.i64.max then none else some (v2 ++ ByteArray.mk #[10], (0 : Int))
set_option maxRecDepth 100000 in
theorem yE.run (K : Nat) (f18 : ByteArray → (List (List D)) → ByteArray → (List (List D)) → Option (Bool)) (f32 : (ByteArray × List (List D) × ByteArray × List (List D) × ByteArray) → Option (ByteArray)) (a0 : ByteArray) (a1 : List (List D)) (a2 : ByteArray) (a3 : List (List D)) : runA Tryz.prog lay (yE.Γ f18) [] [(31, Tryz.f31, ⟨[], [], 0, none, some writeM⟩), (33, Tryz.f33, ⟨[], [], 0, some stringS, none⟩), (32, Tryz.f32, ⟨[], [], 0, none, some (zM.mem f32)⟩)] 3 ⟨yE.J14, [], 0, none, none⟩ Tryz.f14 [.agg [.str a0, .seq 52 a1, .str a2, .seq 27 a3]] [] [.one (.str), .one (.int .i64)] yE.dec = yE.t K f18 f32 a0 a1 a2 a3 := by kernel_rfl
def yE.f (k : Nat) (a0 : ByteArray) (a1 : List (List D)) (a2 : ByteArray) (a3 : List (List D)) : Option (ByteArray × Int) := yE.t k (yC.f k) (zM.f k) a0 a1 a2 a3
theorem yE.allOk (k : Nat) : AllOk Tryz.prog GW lay (yE.Γ (yC.f k)) := (allOk_cons (yC.ok k) allOk_nil)
theorem yE.ok (k : Nat) : CEOk Tryz.prog GW lay 14 (yE.ce (yE.f k)) := by
  have hΓ_ := yE.allOk k
  exact tells_mk (by kernel_rfl) hΓ_ Tryz.func14 (fun args w => by kernel_rfl) (fun w w' h hb => h.step hb) no_globals (fun B wB stab_ => (in_mem (in_hand (in_mem in_nil (fun args w => by kernel_rfl) rfl (writeM.ok stab_)) (fun args w => by kernel_rfl) rfl rfl (stringS.ok stab_)) (fun args w => by kernel_rfl) rfl (zM.ok k stab_))) (C := ⟨yE.J14, [], 0, none, none⟩) (fun B wB stab_ => bodyL (allL_of (l := []) (by kernel_rfl) allL_nil)) (fun args τ x out sel ok r hs hx => by
    unfold yE.tells at hs
    split at hs
    · rename_i a0 a1 a2 a3
      cases hs
      unfold yE.f at hx
      have hr_ := yE.run k (yC.f k) (zM.f k) a0 a1 a2 a3
      rw [hx] at hr_
      exact ⟨rfl, yE.out_free _, 3, [.one (.str), .one (.int .i64)], yE.dec, hr_, fun res h => yE.dec_ok res _ h⟩
    · cases hs)

end Go.Proofs.YtphlamnaaogmaaaGreatDoor.M
