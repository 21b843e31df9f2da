import Derived.Test.YtphlamnaaogmaaaGreatDoorHBuilder
import Derived.Test.YtphlamnaaogmaaaGreatDoorE4
import Derived.Test.YtphlamnaaogmaaaGreatDoorHParse
set_option linter.unusedVariables false
set_option linter.unusedSimpArgs false
set_option maxRecDepth 100000
namespace Go.Proofs.YtphlamnaaogmaaaGreatDoor.M
open Go Go.RowKit Go.Proofs Go.Proofs.Qx 

def zB.out (r : Int) : Res := .ret (.int .i64 r)
def zB.dec : Res → Option (Int)
  | .ret (.int .i64 y0) => some y0
  | _ => none
theorem zB.out_free (r : Int) : (zB.out r).free = true := rfl
def zB.sel (β : Type) (r : Int) (k : Res → Option β) : Option β := k (.ret (.int .i64 r))
theorem zB.sel_ok (β : Type) (t : Int) (k : Res → Option β) : zB.sel β t k = k (zB.out t) := rfl
theorem zB.dec_ok (res : Res) (r : Int) (h : zB.dec res = some r) : res = zB.out r := by
  unfold zB.dec at h
  split at h <;> first | (cases h; rfl) | cases h
def zB.tells (f : (List (List D)) → ByteArray → Option (Int)) : Tells
  | [.seq 9 a0, .str a1] => some (.mk (Int) (f a0 a1) zB.out zB.sel zB.sel_ok)
  | _ => none
def zB.ce (f : (List (List D)) → ByteArray → Option (Int)) : CE := ⟨[.one (.seq 9), .one (.str)], .flat, zB.tells f⟩
def zB.Γ : List (Nat × CE) := []
def zB.J127 : List (Nat × List Nat) := [(1, [6]), (3, [10]), (4, [11, 12, 13, 14, 15]), (5, [17]), (6, [18]), (1000009, [9]), (1000016, [16])]
def zB.L2.T : TS := ⟨[.seq 9, .str, .junk, .junk, .int .i64, .junk, .junk, .int .i64, .int .i64, .junk, .junk, .junk, .junk, .junk, .junk, .junk, .junk, .junk, .junk], [], 0, []⟩
def zB.L2.X0 : TS := ⟨[.junk, .junk, .junk, .junk, .int .i64, .junk, .junk, .junk, .junk, .junk, .junk, .junk, .junk, .junk, .junk, .junk, .junk, .junk, .junk], [], 0, []⟩
def zB.L2.X1 : TS := ⟨[.junk, .junk, .junk, .junk, .int .i64, .junk, .junk, .junk, .junk, .junk, .junk, .junk, .junk, .junk, .junk, .junk, .junk, .junk, .junk], [], 0, []⟩
def zB.L2.X : List (Exit × TS) := [(.exit 0, zB.L2.X0), (.ret, zB.L2.X1)]
def zB.L2.dσ : List D → Option (List (List D) × ByteArray × Int × Int × Int)
  | [.seq x0, .str x1, .int x2, .int x3, .int x4] => some (x0, x1, x2, x3, x4)
  | _ => none
def zB.L2.eσ (x : List (List D) × ByteArray × Int × Int × Int) : List D := [.seq x.1, .str x.2.1, .int x.2.2.1, .int x.2.2.2.1, .int x.2.2.2.2]
def zB.L2.dτ : Nat → List D → Option ((Int) ⊕ (Int))
  | 0, [.int y0] => some (.inl y0)
  | 1, [.int y0] => some (.inr y0)
  | _, _ => none
def zB.L2.eτ : (Int) ⊕ (Int) → Nat × List D
  | (.inl t) => (0, [.int t])
  | (.inr t) => (1, [.int t])
def zB.L2.sel (β : Type) (t : (Int) ⊕ (Int)) (k : Exit → Fr → Hp → Option β) : Option β := match t with
  | (.inl r) => k (.exit 0) (bldS zB.L2.X0 [.int r]).1 (bldS zB.L2.X0 [.int r]).2
  | (.inr r) => k (.ret) (bldS zB.L2.X1 [.int r]).1 (bldS zB.L2.X1 [.int r]).2
theorem zB.L2.sel_ok (β : Type) (t : (Int) ⊕ (Int)) (k : Exit → Fr → Hp → Option β) : zB.L2.sel β t k = k (endA zB.L2.X zB.L2.eτ t).1 (endA zB.L2.X zB.L2.eτ t).2.1 (endA zB.L2.X zB.L2.eτ t).2.2 := by rcases t with t | t <;> rfl
theorem zB.L2.dσ_ok (d : List D) (x : List (List D) × ByteArray × Int × Int × Int) (h : zB.L2.dσ d = some x) : zB.L2.eσ x = d := by
  unfold zB.L2.dσ at h
  split at h <;> first | (cases h; rfl) | cases h
theorem zB.L2.dτ_ok (i : Nat) (d : List D) (t : (Int) ⊕ (Int)) (h : zB.L2.dτ i d = some t) : zB.L2.eτ t = (i, d) := by
  unfold zB.L2.dτ at h
  split at h <;> first | (cases h; rfl) | cases h
def zB.L2.S (K : Nat) (rec : (List (List D) × ByteArray × Int × Int × Int) → Option ((Int) ⊕ (Int))) (x0 : List (List D)) (x1 : ByteArray) (x2 : Int) (x3 : Int) (x4 : Int) : Option ((Int) ⊕ (Int)) :=
  bif decide (x4 < x3) then if (0 : Int) ≤ x4 ∧ x4 < (↑x0.length : Int) then bif x1.toList == (D.at x0 x4.toNat (0 : Nat)).toStr.toList then some (Sum.inr x4) else rec (x0, x1, x2, x3, IntKind.i64.wrap (x4 + (1 : Int))) else none else some (Sum.inl x2)
set_option maxRecDepth 100000 in
theorem zB.L2.step (K : Nat) (rec : (List (List D) × ByteArray × Int × Int × Int) → Option ((Int) ⊕ (Int))) (x0 : List (List D)) (x1 : ByteArray) (x2 : Int) (x3 : Int) (x4 : Int) : execA Tryz.prog lay (zB.Γ) [] (inlA Tryz.prog lay (zB.Γ) [] 3) ⟨zB.J127, [], 0, none, none⟩ 0 (loopAt Tryz.f127 0) (bldS zB.L2.T (zB.L2.eσ (x0, x1, x2, x3, x4))).1 (bldS zB.L2.T (zB.L2.eσ (x0, x1, x2, x3, x4))).2 (contA zB.L2.T zB.L2.X zB.L2.dσ zB.L2.dτ rec) = zB.L2.S K rec x0 x1 x2 x3 x4 := by kernel_rfl
def zB.L2 (K : Nat) : Nat → (List (List D) × ByteArray × Int × Int × Int) → Option ((Int) ⊕ (Int))
  | 0, _ => none
  | k + 1, x => zB.L2.S K (zB.L2 K k) x.1 x.2.1 x.2.2.1 x.2.2.2.1 x.2.2.2.2
theorem zB.L2.ok (K : Nat) {B : Nat} {wB : World} (stab_ : ∀ w', Bel B wB w' → GW w') (hΓ_ : AllOk Tryz.prog GW lay (zB.Γ)) (Kr : Nat) : LSOk Tryz.prog lay B wB [] 0 (sumA zB.L2.T zB.L2.X zB.L2.dσ zB.L2.eτ zB.L2.sel zB.L2.sel_ok (zB.L2 K Kr)) (loopAt Tryz.f127 0) :=
  loop_mk (by kernel_rfl) hΓ_ stab_ (inlA_ok (by kernel_rfl) hΓ_ stab_ in_nil 3) (C := ⟨zB.J127, [], 0, none, none⟩) (allL_of (l := []) (by kernel_rfl) allL_nil) (by decide) (by decide) zB.L2.dσ_ok zB.L2.dτ_ok (fun _ => rfl) (fun k x => (zB.L2.step K (zB.L2 K k) x.1 x.2.1 x.2.2.1 x.2.2.2.1 x.2.2.2.2).symm) Kr
def zB.t (K : Nat) (a0 : List (List D)) (a1 : ByteArray) : Option (Int) :=
  (zB.L2 K K (a0, a1, (0 : Int), (↑a0.length : Int), (0 : Int))).bind fun v1 => Sum.elim (fun v2 => some (-1 : Int)) (fun v3 => some v3) v1
set_option maxRecDepth 100000 in
theorem zB.run (K : Nat) (a0 : List (List D)) (a1 : ByteArray) : runA Tryz.prog lay (zB.Γ) [] [] 3 ⟨zB.J127, [(2, 0, sumA zB.L2.T zB.L2.X zB.L2.dσ zB.L2.eτ zB.L2.sel zB.L2.sel_ok (zB.L2 K K))], 0, none, none⟩ Tryz.f127 [.seq 9 a0, .str a1] [] [.one (.int .i64)] zB.dec = zB.t K a0 a1 := by kernel_rfl
def zB.f (k : Nat) (a0 : List (List D)) (a1 : ByteArray) : Option (Int) := zB.t k a0 a1
theorem zB.allOk (k : Nat) : AllOk Tryz.prog GW lay (zB.Γ) := allOk_nil
theorem zB.ok (k : Nat) : CEOk Tryz.prog GW lay 127 (zB.ce (zB.f k)) := by
  have hΓ_ := zB.allOk k
  exact tells_mk (by kernel_rfl) hΓ_ Tryz.func127 (fun args w => by kernel_rfl) (fun w w' h hb => h.step hb) no_globals (fun B wB stab_ => in_nil) (C := ⟨zB.J127, [(2, 0, sumA zB.L2.T zB.L2.X zB.L2.dσ zB.L2.eτ zB.L2.sel zB.L2.sel_ok (zB.L2 k k))], 0, none, none⟩) (fun B wB stab_ => bodyL (allL_of (l := [loopAt Tryz.f127 0]) (by kernel_rfl) (allL_cons (by kernel_rfl) (zB.L2.ok k stab_ hΓ_ k) allL_nil))) (fun args τ x out sel ok r hs hx => by
    unfold zB.tells at hs
    split at hs
    · rename_i a0 a1
      cases hs
      unfold zB.f at hx
      have hr_ := zB.run k a0 a1
      rw [hx] at hr_
      exact ⟨rfl, zB.out_free _, 3, [.one (.int .i64)], zB.dec, hr_, fun res h => zB.dec_ok res _ h⟩
    · cases hs)
def yA.out : (ByteArray) ⊕ Unit → Res
  | .inl r => .ret (.str r)
  | .inr _ => .pan (.iface 76 (.agg #[]))
def yA.dec : Res → Option ((ByteArray) ⊕ Unit)
  | .ret (.str y0) => some (.inl y0)
  | .pan v => cond (panIs 76 v) (some (.inr ())) none
  | _ => none
theorem yA.out_free : ∀ r, (yA.out r).free = true
  | .inl _ => rfl
  | .inr _ => rfl
def yA.sel (β : Type) (t : (ByteArray) ⊕ Unit) (k : Res → Option β) : Option β := match t with
  | .inl r => k (.ret (.str r))
  | .inr _ => k (.pan (.iface 76 (.agg #[])))
theorem yA.sel_ok (β : Type) (t : (ByteArray) ⊕ Unit) (k : Res → Option β) : yA.sel β t k = k (yA.out t) := by cases t <;> rfl
theorem yA.dec_ok (res : Res) (r : (ByteArray) ⊕ Unit) (h : yA.dec res = some r) : res = yA.out r := by
  unfold yA.dec at h
  split at h
  · cases h; rfl
  · rename_i v
    cases hp : panIs 76 v with
    | true => rw [hp] at h; cases h; rw [panIs_eq hp]; rfl
    | false => rw [hp] at h; cases h
  · cases h
def yA.tells (f : ByteArray → Option ((ByteArray) ⊕ Unit)) : Tells
  | [.str a0] => some (.mk ((ByteArray) ⊕ Unit) (f a0) yA.out yA.sel yA.sel_ok)
  | _ => none
def yA.ce (f : ByteArray → Option ((ByteArray) ⊕ Unit)) : CE := ⟨[.one (.str)], .flat, yA.tells f⟩
def yH.out (r : Bool) : Res := .ret (.bool r)
def yH.sel (β : Type) (r : Bool) (k : Res → Option β) : Option β := k (.ret (.bool r))
theorem yH.sel_ok (β : Type) (t : Bool) (k : Res → Option β) : yH.sel β t k = k (yH.out t) := rfl
def yH.tells (f : ByteArray → ByteArray → Option (Bool)) : Tells
  | [.str a0, .str a1] => some (.mk (Bool) (f a0 a1) yH.out yH.sel yH.sel_ok)
  | _ => none
def yH.ce (f : ByteArray → ByteArray → Option (Bool)) : CE := ⟨[.one (.str), .one (.str)], .flat, yH.tells f⟩
theorem yH.ok (k : Nat) : CEOk Tryz.prog GW lay 96 (yH.ce (strings_HasPrefix.f)) :=
  tells_simple (fun args w => by kernel_rfl) fun args τ x out sel ok r hs hx => by
    unfold yH.tells at hs
    split at hs
    · cases hs
      exact ⟨rfl, _, rfl, rfl, fun w hw => strings_HasPrefix.calls _ _ r w hx⟩
    · cases hs
def yA.Γ (f41 : Bool → Option ((Unit) ⊕ Unit)) (f74 : Int → Option (Bool)) (f96 : ByteArray → ByteArray → Option (Bool)) (f127 : (List (List D)) → ByteArray → Option (Int)) (f128 : ByteArray → Int → Int → Option (Int × Bool)) (f129 : Int → Option (Bool)) : List (Nat × CE) := [(41, z8.ce f41), (74, yF.ce f74), (96, yH.ce f96), (127, zB.ce f127), (128, strconv_ParseUint.ce f128), (129, zS.ce f129)]
def yA.J110 : List (Nat × List Nat) := [(1, [9, 10, 11]), (2, [12]), (3, [14, 15, 16, 17]), (5, [19, 20]), (6, [21, 22]), (7, [24, 25]), (8, [26, 27]), (9, [28, 29, 30, 31, 32, 33]), (10, [34, 35, 36, 37, 38, 39, 40, 41, 42, 43, 44, 45, 46, 47, 48, 49, 50, 51, 52, 53, 54, 55, 56]), (11, [57, 58, 59]), (1000013, [13]), (1000018, [18]), (1000023, [23])]
def yA.t (K : Nat) (f41 : Bool → Option ((Unit) ⊕ Unit)) (f74 : Int → Option (Bool)) (f96 : ByteArray → ByteArray → Option (Bool)) (f127 : (List (List D)) → ByteArray → Option (Int)) (f128 : ByteArray → Int → Int → Option (Int × Bool)) (f129 : Int → Option (Bool)) (a0 : ByteArray) : Option ((ByteArray) ⊕ Unit) :=
  (f127 [[D.str (ByteArray.mk #[97, 109, 112])], [D.str (ByteArray.mk #[108, 116])], [D.str (ByteArray.mk #[103, 116])], [D.str (ByteArray.mk #[113, 117, 111, 116])], [D.str (ByteArray.mk #[97, 112, 111, 115])]] a0).bind fun v1 => bif decide (v1 ≥ (0 : Int)) then if (0 : Int) ≤ IntKind.i64.wrap (v1 + (1 : Int)) ∧ IntKind.i64.wrap (v1 + (1 : Int)) ≤ (↑(ByteArray.mk #[38, 60, 62, 34, 39]).size : Int) then if (0 : Int) ≤ v1 ∧ v1 ≤ IntKind.i64.wrap (v1 + (1 : Int)) then some (Sum.inl ((ByteArray.mk #[38, 60, 62, 34, 39]).extract v1.toNat (IntKind.i64.wrap (v1 + (1 : Int))).toNat)) else none else none else (f96 a0 (ByteArray.mk #[35, 120])).bind fun v2 => bif v2 then if (0 : Int) ≤ (↑a0.size : Int) ∧ (↑a0.size : Int) ≤ (↑a0.size : Int) then if (0 : Int) ≤ (2 : Int) ∧ (2 : Int) ≤ (↑a0.size : Int) then (f128 (a0.extract (Int.toNat (2 : Int)) (↑a0.size : Int).toNat) (16 : Int) (32 : Int)).bind fun v37 => bif v37.snd then bif decide ((↑(a0.extract (Int.toNat (2 : Int)) (↑a0.size : Int).toNat).size : Int) ≤ (6 : Int)) then bif decide (v37.fst ≤ (1114111 : Int)) then (f129 (IntKind.i32.wrap v37.fst)).bind fun v47 => bif v47 then (f74 (IntKind.i32.wrap v37.fst)).bind fun v51 => (f41 v51).bind fun v52 => Sum.elim (fun v53 => some (Sum.inl (Utf8.encode (IntKind.i32.wrap v37.fst)))) (fun v54 => some (Sum.inr ())) v52 else (f41 false).bind fun v48 => Sum.elim (fun v49 => some (Sum.inl (Utf8.encode (IntKind.i32.wrap v37.fst)))) (fun v50 => some (Sum.inr ())) v48 else (f41 false).bind fun v44 => Sum.elim (fun v45 => some (Sum.inl (Utf8.encode (IntKind.i32.wrap v37.fst)))) (fun v46 => some (Sum.inr ())) v44 else (f41 false).bind fun v41 => Sum.elim (fun v42 => some (Sum.inl (Utf8.encode (IntKind.i32.wrap v37.fst)))) (fun v43 => some (Sum.inr ())) v41 else (f41 false).bind fun v38 => Sum.elim (fun v39 => some (Sum.inl (Utf8.encode (IntKind.i32.wrap v37.fst)))) (fun v40 => some (Sum.inr ())) v38 else none else none else (f96 a0 (ByteArray.mk #[35])).bind fun v3 => bif v3 then if (0 : Int) ≤ (↑a0.size : Int) ∧ (↑a0.size : Int) ≤ (↑a0.size : Int) then if (0 : Int) ≤ (1 : Int) ∧ (1 : Int) ≤ (↑a0.size : Int) then (f128 (a0.extract (Int.toNat (1 : Int)) (↑a0.size : Int).toNat) (10 : Int) (32 : Int)).bind fun v19 => bif v19.snd then bif decide ((↑(a0.extract (Int.toNat (1 : Int)) (↑a0.size : Int).toNat).size : Int) ≤ (7 : Int)) then bif decide (v19.fst ≤ (1114111 : Int)) then (f129 (IntKind.i32.wrap v19.fst)).bind fun v29 => bif v29 then (f74 (IntKind.i32.wrap v19.fst)).bind fun v33 => (f41 v33).bind fun v34 => Sum.elim (fun v35 => some (Sum.inl (Utf8.encode (IntKind.i32.wrap v19.fst)))) (fun v36 => some (Sum.inr ())) v34 else (f41 false).bind fun v30 => Sum.elim (fun v31 => some (Sum.inl (Utf8.encode (IntKind.i32.wrap v19.fst)))) (fun v32 => some (Sum.inr ())) v30 else (f41 false).bind fun v26 => Sum.elim (fun v27 => some (Sum.inl (Utf8.encode (IntKind.i32.wrap v19.fst)))) (fun v28 => some (Sum.inr ())) v26 else (f41 false).bind fun v23 => Sum.elim (fun v24 => some (Sum.inl (Utf8.encode (IntKind.i32.wrap v19.fst)))) (fun v25 => some (Sum.inr ())) v23 else (f41 false).bind fun v20 => Sum.elim (fun v21 => some (Sum.inl (Utf8.encode (IntKind.i32.wrap v19.fst)))) (fun v22 => some (Sum.inr ())) v20 else none else none else (f128 (ByteArray.mk #[]) (10 : Int) (32 : Int)).bind fun v4 => bif v4.snd then bif decide (v4.fst ≤ (1114111 : Int)) then (f129 (IntKind.i32.wrap v4.fst)).bind fun v11 => bif v11 then (f74 (IntKind.i32.wrap v4.fst)).bind fun v15 => (f41 v15).bind fun v16 => Sum.elim (fun v17 => some (Sum.inl (Utf8.encode (IntKind.i32.wrap v4.fst)))) (fun v18 => some (Sum.inr ())) v16 else (f41 false).bind fun v12 => Sum.elim (fun v13 => some (Sum.inl (Utf8.encode (IntKind.i32.wrap v4.fst)))) (fun v14 => some (Sum.inr ())) v12 else (f41 false).bind fun v8 => Sum.elim (fun v9 => some (Sum.inl (Utf8.encode (IntKind.i32.wrap v4.fst)))) (fun v10 => some (Sum.inr ())) v8 else (f41 false).bind fun v5 => Sum.elim (fun v6 => some (Sum.inl (Utf8.encode (IntKind.i32.wrap v4.fst)))) (fun v7 => some (Sum.inr ())) v5
set_option maxRecDepth 100000 in
theorem yA.run (K : Nat) (f41 : Bool → Option ((Unit) ⊕ Unit)) (f74 : Int → Option (Bool)) (f96 : ByteArray → ByteArray → Option (Bool)) (f127 : (List (List D)) → ByteArray → Option (Int)) (f128 : ByteArray → Int → Int → Option (Int × Bool)) (f129 : Int → Option (Bool)) (a0 : ByteArray) : runA Tryz.prog lay (yA.Γ f41 f74 f96 f127 f128 f129) [] [] 3 ⟨yA.J110, [], 0, none, none⟩ Tryz.f110 [.str a0] [] [.one (.str)] yA.dec = yA.t K f41 f74 f96 f127 f128 f129 a0 := by kernel_rfl
def yA.f (k : Nat) (a0 : ByteArray) : Option ((ByteArray) ⊕ Unit) := yA.t k (z8.f k) (yF.f k) (strings_HasPrefix.f) (zB.f k) (strconv_ParseUint.f) (zS.f k) a0
theorem yA.allOk (k : Nat) : AllOk Tryz.prog GW lay (yA.Γ (z8.f k) (yF.f k) (strings_HasPrefix.f) (zB.f k) (strconv_ParseUint.f) (zS.f k)) := (allOk_cons (z8.ok k) (allOk_cons (yF.ok k) (allOk_cons (yH.ok k) (allOk_cons (zB.ok k) (allOk_cons (strconv_ParseUint.ok k) (allOk_cons (zS.ok k) allOk_nil))))))
theorem yA.ok (k : Nat) : CEOk Tryz.prog GW lay 110 (yA.ce (yA.f k)) := by
  have hΓ_ := yA.allOk k
  exact tells_mk (by kernel_rfl) hΓ_ Tryz.func110 (fun args w => by kernel_rfl) (fun w w' h hb => h.step hb) no_globals (fun B wB stab_ => in_nil) (C := ⟨yA.J110, [], 0, none, none⟩) (fun B wB stab_ => bodyL (allL_of (l := []) (by kernel_rfl) allL_nil)) (fun args τ x out sel ok r hs hx => by
    unfold yA.tells at hs
    split at hs
    · rename_i a0
      cases hs
      unfold yA.f at hx
      have hr_ := yA.run k (z8.f k) (yF.f k) (strings_HasPrefix.f) (zB.f k) (strconv_ParseUint.f) (zS.f k) a0
      rw [hx] at hr_
      exact ⟨rfl, yA.out_free _, 3, [.one (.str)], yA.dec, hr_, fun res h => yA.dec_ok res _ h⟩
    · cases hs)
def zX.out : (ByteArray) ⊕ Unit → Res
  | .inl r => .ret (.str r)
  | .inr _ => .pan (.iface 76 (.agg #[]))
def zX.dec : Res → Option ((ByteArray) ⊕ Unit)
  | .ret (.str y0) => some (.inl y0)
  | .pan v => cond (panIs 76 v) (some (.inr ())) none
  | _ => none
theorem zX.out_free : ∀ r, (zX.out r).free = true
  | .inl _ => rfl
  | .inr _ => rfl
def zX.sel (β : Type) (t : (ByteArray) ⊕ Unit) (k : Res → Option β) : Option β := match t with
  | .inl r => k (.ret (.str r))
  | .inr _ => k (.pan (.iface 76 (.agg #[])))
theorem zX.sel_ok (β : Type) (t : (ByteArray) ⊕ Unit) (k : Res → Option β) : zX.sel β t k = k (zX.out t) := by cases t <;> rfl
theorem zX.dec_ok (res : Res) (r : (ByteArray) ⊕ Unit) (h : zX.dec res = some r) : res = zX.out r := by
  unfold zX.dec at h
  split at h
  · cases h; rfl
  · rename_i v
    cases hp : panIs 76 v with
    | true => rw [hp] at h; cases h; rw [panIs_eq hp]; rfl
    | false => rw [hp] at h; cases h
  · cases h
def zX.tells (f : ByteArray → Option ((ByteArray) ⊕ Unit)) : Tells
  | [.str a0] => some (.mk ((ByteArray) ⊕ Unit) (f a0) zX.out zX.sel zX.sel_ok)
  | _ => none
def zX.ce (f : ByteArray → Option ((ByteArray) ⊕ Unit)) : CE := ⟨[.one (.str)], .flat, zX.tells f⟩
def yO.out (r : ByteArray × ByteArray × Bool) : Res := .ret (.tup [.str r.1, .str r.2.1, .bool r.2.2])
def yO.sel (β : Type) (r : ByteArray × ByteArray × Bool) (k : Res → Option β) : Option β := k (.ret (.tup [.str r.1, .str r.2.1, .bool r.2.2]))
theorem yO.sel_ok (β : Type) (t : ByteArray × ByteArray × Bool) (k : Res → Option β) : yO.sel β t k = k (yO.out t) := rfl
def yO.tells (f : ByteArray → ByteArray → Option (ByteArray × ByteArray × Bool)) : Tells
  | [.str a0, .str a1] => some (.mk (ByteArray × ByteArray × Bool) (f a0 a1) yO.out yO.sel yO.sel_ok)
  | _ => none
def yO.ce (f : ByteArray → ByteArray → Option (ByteArray × ByteArray × Bool)) : CE := ⟨[.one (.str), .one (.str)], .flat, yO.tells f⟩
theorem yO.ok (k : Nat) : CEOk Tryz.prog GW lay 109 (yO.ce (strings_Cut.f)) :=
  tells_simple (fun args w => by kernel_rfl) fun args τ x out sel ok r hs hx => by
    unfold yO.tells at hs
    split at hs
    · cases hs
      exact ⟨rfl, _, rfl, rfl, fun w hw => strings_Cut.calls _ _ r.1 r.2.1 r.2.2 w hw hx⟩
    · cases hs
def zX.Γ (f41 : Bool → Option ((Unit) ⊕ Unit)) (f49 : ByteArray → Option (Bool)) (f109 : ByteArray → ByteArray → Option (ByteArray × ByteArray × Bool)) (f110 : ByteArray → Option ((ByteArray) ⊕ Unit)) : List (Nat × CE) := [(41, z8.ce f41), (49, zW.ce f49), (109, yO.ce f109), (110, yA.ce f110)]
def zX.J85 : List (Nat × List Nat) := [(2, [9]), (3, [11, 12, 13, 14, 15, 16]), (4, [17, 18]), (5, [19]), (6, [20]), (7, [22, 23, 24, 25, 26, 27]), (8, [28, 29]), (9, [30, 31, 32]), (10, [33]), (11, [34, 35, 36]), (12, [37]), (1000010, [10]), (1000021, [21])]
def zX.J31 : List (Nat × List Nat) := [(1, [6, 7]), (2, [8, 9, 10, 11, 12, 13, 14, 15, 16]), (3, [17, 18])]
def zX.J33 : List (Nat × List Nat) := [(1, [3, 4, 5, 6, 7, 8, 9, 10, 11, 12, 13])]
def zX.L2.T : TS := ⟨[.str, .junk, .str, .ptr 0 0, .junk, .junk, .junk, .junk, .junk, .junk, .junk, .junk, .junk, .junk, .junk, .junk, .junk, .junk, .junk, .junk, .junk, .junk, .junk, .junk, .junk, .junk, .junk, .junk, .junk, .junk, .junk, .junk, .junk, .junk, .junk, .junk, .junk, .junk], [.cells 59 [.op 0, .rs 1 0] .own, .bytes 5 false 0], 0, [(3, none), (3, some 1)]⟩
def zX.L2.X0 : TS := ⟨[.junk, .junk, .str, .ptr 0 0, .junk, .junk, .junk, .junk, .junk, .junk, .junk, .junk, .junk, .junk, .junk, .junk, .junk, .junk, .junk, .junk, .junk, .junk, .junk, .junk, .junk, .junk, .junk, .junk, .junk, .junk, .junk, .junk, .junk, .junk, .junk, .junk, .junk, .junk], [.cells 59 [.op 0, .rs 1 0] .own, .bytes 5 false 0], 0, [(3, none), (3, some 1)]⟩
def zX.L2.X1 : TS := ⟨[.junk, .junk, .junk, .junk, .junk, .junk, .junk, .junk, .junk, .junk, .junk, .junk, .junk, .junk, .junk, .junk, .junk, .junk, .junk, .junk, .junk, .junk, .junk, .junk, .junk, .junk, .junk, .junk, .junk, .junk, .junk, .junk, .junk, .junk, .junk, .junk, .junk, .junk], [], 0, []⟩
def zX.L2.X : List (Exit × TS) := [(.exit 0, zX.L2.X0), (.panic [⟨.iface 76 (.agg #[]), false, false⟩], zX.L2.X1)]
def zX.L2.dσ : List D → Option (ByteArray × ByteArray × ByteArray)
  | [.str x0, .str x1, .str x2] => some (x0, x1, x2)
  | _ => none
def zX.L2.eσ (x : ByteArray × ByteArray × ByteArray) : List D := [.str x.1, .str x.2.1, .str x.2.2]
def zX.L2.dτ : Nat → List D → Option ((ByteArray × ByteArray) ⊕ (Unit))
  | 0, [.str y0, .str y1] => some (.inl (y0, y1))
  | 1, [] => some (.inr ())
  | _, _ => none
def zX.L2.eτ : (ByteArray × ByteArray) ⊕ (Unit) → Nat × List D
  | (.inl t) => (0, [.str t.1, .str t.2])
  | (.inr t) => (1, [])
def zX.L2.sel (β : Type) (t : (ByteArray × ByteArray) ⊕ (Unit)) (k : Exit → Fr → Hp → Option β) : Option β := match t with
  | (.inl r) => k (.exit 0) (bldS zX.L2.X0 [.str r.1, .str r.2]).1 (bldS zX.L2.X0 [.str r.1, .str r.2]).2
  | (.inr r) => k (.panic [⟨.iface 76 (.agg #[]), false, false⟩]) (bldS zX.L2.X1 []).1 (bldS zX.L2.X1 []).2
theorem zX.L2.sel_ok (β : Type) (t : (ByteArray × ByteArray) ⊕ (Unit)) (k : Exit → Fr → Hp → Option β) : zX.L2.sel β t k = k (endA zX.L2.X zX.L2.eτ t).1 (endA zX.L2.X zX.L2.eτ t).2.1 (endA zX.L2.X zX.L2.eτ t).2.2 := by rcases t with t | t <;> rfl
theorem zX.L2.dσ_ok (d : List D) (x : ByteArray × ByteArray × ByteArray) (h : zX.L2.dσ d = some x) : zX.L2.eσ x = d := by
  unfold zX.L2.dσ at h
  split at h <;> first | (cases h; rfl) | cases h
theorem zX.L2.dτ_ok (i : Nat) (d : List D) (t : (ByteArray × ByteArray) ⊕ (Unit)) (h : zX.L2.dτ i d = some t) : zX.L2.eτ t = (i, d) := by
  unfold zX.L2.dτ at h
  split at h <;> first | (cases h; rfl) | cases h
noncomputable def zX.L2.S (K : Nat) (f41 : Bool → Option ((Unit) ⊕ Unit)) (f49 : ByteArray → Option (Bool)) (f109 : ByteArray → ByteArray → Option (ByteArray × ByteArray × Bool)) (f110 : ByteArray → Option ((ByteArray) ⊕ Unit)) (rec : (ByteArray × ByteArray × ByteArray) → Option ((ByteArray × ByteArray) ⊕ (Unit))) (x0 : ByteArray) (x1 : ByteArray) (x2 : ByteArray) : Option ((ByteArray × ByteArray) ⊕ (Unit)) :=
  bif !x0.toList == (ByteArray.mk #[]).toList then (f109 x0 (ByteArray.mk #[38])).bind fun v1 => if (0 : Nat) = (0 : Nat) ∧ (5 : TypeId) = (5 : Nat) ∧ x2.size + v1.fst.size ≤ (140737488355328 : Nat) then bif !v1.r2 then some (Sum.inl (x1, x2 ++ v1.fst)) else (f109 v1.q1 (ByteArray.mk #[59])).bind fun v2 => (f41 v2.r2).bind fun v3 => Sum.elim (fun v4 => (f110 v2.fst).bind fun v5 => Sum.elim (fun v6 => if (1 : Nat) = (1 : Nat) ∧ (5 : Nat) = (5 : Nat) ∧ (x2 ++ v1.fst).size + v6.size ≤ (140737488355328 : Nat) then rec (v2.q1, x1, x2 ++ v1.fst ++ v6) else none) (fun v7 => some (Sum.inr ())) v5) (fun v8 => some (Sum.inr ())) v3 else none else some (Sum.inl (x1, x2))
set_option maxRecDepth 100000 in
theorem zX.L2.step (K : Nat) (f41 : Bool → Option ((Unit) ⊕ Unit)) (f49 : ByteArray → Option (Bool)) (f109 : ByteArray → ByteArray → Option (ByteArray × ByteArray × Bool)) (f110 : ByteArray → Option ((ByteArray) ⊕ Unit)) (rec : (ByteArray × ByteArray × ByteArray) → Option ((ByteArray × ByteArray) ⊕ (Unit))) (x0 : ByteArray) (x1 : ByteArray) (x2 : ByteArray) : execA Tryz.prog lay (zX.Γ f41 f49 f109 f110) [] (inlA Tryz.prog lay (zX.Γ f41 f49 f109 f110) [(45, Tryz.f45, ⟨[], [], 0, some copyCheckS, none⟩), (31, Tryz.f31, ⟨zX.J31, [], 0, none, none⟩), (33, Tryz.f33, ⟨zX.J33, [], 0, none, none⟩)] 3) ⟨zX.J85, [], 0, none, none⟩ 0 (loopAt Tryz.f85 0) (bldS zX.L2.T (zX.L2.eσ (x0, x1, x2))).1 (bldS zX.L2.T (zX.L2.eσ (x0, x1, x2))).2 (contA zX.L2.T zX.L2.X zX.L2.dσ zX.L2.dτ rec) = zX.L2.S K f41 f49 f109 f110 rec x0 x1 x2 := by kernel_rfl
noncomputable def zX.L2 (K : Nat) (f41 : Bool → Option ((Unit) ⊕ Unit)) (f49 : ByteArray → Option (Bool)) (f109 : ByteArray → ByteArray → Option (ByteArray × ByteArray × Bool)) (f110 : ByteArray → Option ((ByteArray) ⊕ Unit)) : Nat → (ByteArray × ByteArray × ByteArray) → Option ((ByteArray × ByteArray) ⊕ (Unit))
  | 0, _ => none
  | k + 1, x => zX.L2.S K f41 f49 f109 f110 (zX.L2 K f41 f49 f109 f110 k) x.1 x.2.1 x.2.2
theorem zX.L2.ok (K : Nat) (f41 : Bool → Option ((Unit) ⊕ Unit)) (f49 : ByteArray → Option (Bool)) (f109 : ByteArray → ByteArray → Option (ByteArray × ByteArray × Bool)) (f110 : ByteArray → Option ((ByteArray) ⊕ Unit)) {B : Nat} {wB : World} (stab_ : ∀ w', Bel B wB w' → GW w') (hΓ_ : AllOk Tryz.prog GW lay (zX.Γ f41 f49 f109 f110)) (Kr : Nat) : LSOk Tryz.prog lay B wB [] 0 (sumA zX.L2.T zX.L2.X zX.L2.dσ zX.L2.eτ zX.L2.sel zX.L2.sel_ok (zX.L2 K f41 f49 f109 f110 Kr)) (loopAt Tryz.f85 0) :=
  loop_mk (by kernel_rfl) hΓ_ stab_ (inlA_ok (by kernel_rfl) hΓ_ stab_ (in_app (in_app (in_hand in_nil (fun args w => by kernel_rfl) rfl rfl (copyCheckS.ok stab_)) Tryz.func31 (fun args w => by kernel_rfl) rfl rfl (allL_of (l := []) (by kernel_rfl) allL_nil)) Tryz.func33 (fun args w => by kernel_rfl) rfl rfl (allL_of (l := []) (by kernel_rfl) allL_nil)) 3) (C := ⟨zX.J85, [], 0, none, none⟩) (allL_of (l := []) (by kernel_rfl) allL_nil) (by decide) (by decide) zX.L2.dσ_ok zX.L2.dτ_ok (fun _ => rfl) (fun k x => (zX.L2.step K f41 f49 f109 f110 (zX.L2 K f41 f49 f109 f110 k) x.1 x.2.1 x.2.2).symm) Kr
noncomputable def zX.t (K : Nat) (f41 : Bool → Option ((Unit) ⊕ Unit)) (f49 : ByteArray → Option (Bool)) (f109 : ByteArray → ByteArray → Option (ByteArray × ByteArray × Bool)) (f110 : ByteArray → Option ((ByteArray) ⊕ Unit)) (a0 : ByteArray) : Option ((ByteArray) ⊕ Unit) :=
  (zX.L2 K f41 f49 f109 f110 K (a0, ByteArray.mk #[], ByteArray.mk #[])).bind fun v1 => Sum.elim (fun v2 => if (0 : Nat) = (0 : Nat) ∧ (5 : TypeId) = (5 : Nat) ∧ Tryz.prog.types[(5 : TypeId)].size = (1 : Nat) ∧ (↑v2.snd.size : Int) = (↑v2.snd.size : Int) ∧ v2.snd.size ≤ (140737488355328 : Nat) then (f49 v2.snd).bind fun v3 => (f41 v3).bind fun v4 => Sum.elim (fun v5 => if (0 : Nat) = (0 : Nat) ∧ (5 : TypeId) = (5 : Nat) ∧ Tryz.prog.types[(5 : TypeId)].size = (1 : Nat) ∧ (↑v2.snd.size : Int) = (↑v2.snd.size : Int) ∧ v2.snd.size ≤ (140737488355328 : Nat) then some (Sum.inl v2.snd) else none) (fun v6 => some (Sum.inr ())) v4 else none) (fun v7 => some (Sum.inr ())) v1
set_option maxRecDepth 100000 in
theorem zX.run (K : Nat) (f41 : Bool → Option ((Unit) ⊕ Unit)) (f49 : ByteArray → Option (Bool)) (f109 : ByteArray → ByteArray → Option (ByteArray × ByteArray × Bool)) (f110 : ByteArray → Option ((ByteArray) ⊕ Unit)) (a0 : ByteArray) : runA Tryz.prog lay (zX.Γ f41 f49 f109 f110) [] [(45, Tryz.f45, ⟨[], [], 0, some copyCheckS, none⟩), (31, Tryz.f31, ⟨zX.J31, [], 0, none, none⟩), (33, Tryz.f33, ⟨zX.J33, [], 0, none, none⟩)] 3 ⟨zX.J85, [(2, 0, sumA zX.L2.T zX.L2.X zX.L2.dσ zX.L2.eτ zX.L2.sel zX.L2.sel_ok (zX.L2 K f41 f49 f109 f110 K))], 0, none, none⟩ Tryz.f85 [.str a0] [] [.one (.str)] zX.dec = zX.t K f41 f49 f109 f110 a0 := by kernel_rfl
noncomputable def zX.f (k : Nat) (a0 : ByteArray) : Option ((ByteArray) ⊕ Unit) := zX.t k (z8.f k) (zW.f k) (strings_Cut.f) (yA.f k) a0
theorem zX.allOk (k : Nat) : AllOk Tryz.prog GW lay (zX.Γ (z8.f k) (zW.f k) (strings_Cut.f) (yA.f k)) := (allOk_cons (z8.ok k) (allOk_cons (zW.ok k) (allOk_cons (yO.ok k) (allOk_cons (yA.ok k) allOk_nil))))
theorem zX.ok (k : Nat) : CEOk Tryz.prog GW lay 85 (zX.ce (zX.f k)) := by
  have hΓ_ := zX.allOk k
  exact tells_mk (by kernel_rfl) hΓ_ Tryz.func85 (fun args w => by kernel_rfl) (fun w w' h hb => h.step hb) no_globals (fun B wB stab_ => (in_app (in_app (in_hand in_nil (fun args w => by kernel_rfl) rfl rfl (copyCheckS.ok stab_)) Tryz.func31 (fun args w => by kernel_rfl) rfl rfl (allL_of (l := []) (by kernel_rfl) allL_nil)) Tryz.func33 (fun args w => by kernel_rfl) rfl rfl (allL_of (l := []) (by kernel_rfl) allL_nil))) (C := ⟨zX.J85, [(2, 0, sumA zX.L2.T zX.L2.X zX.L2.dσ zX.L2.eτ zX.L2.sel zX.L2.sel_ok (zX.L2 k (z8.f k) (zW.f k) (strings_Cut.f) (yA.f k) k))], 0, none, none⟩) (fun B wB stab_ => bodyL (allL_of (l := [loopAt Tryz.f85 0]) (by kernel_rfl) (allL_cons (by kernel_rfl) (zX.L2.ok k (z8.f k) (zW.f k) (strings_Cut.f) (yA.f k) stab_ hΓ_ k) allL_nil))) (fun args τ x out sel ok r hs hx => by
    unfold zX.tells at hs
    split at hs
    · rename_i a0
      cases hs
      unfold zX.f at hx
      have hr_ := zX.run k (z8.f k) (zW.f k) (strings_Cut.f) (yA.f k) a0
      rw [hx] at hr_
      exact ⟨rfl, zX.out_free _, 3, [.one (.str)], zX.dec, hr_, fun res h => zX.dec_ok res _ h⟩
    · cases hs)

end Go.Proofs.YtphlamnaaogmaaaGreatDoor.M
