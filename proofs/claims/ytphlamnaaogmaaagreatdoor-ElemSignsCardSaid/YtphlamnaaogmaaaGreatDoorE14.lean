import Derived.Test.YtphlamnaaogmaaaGreatDoorE1
set_option linter.unusedVariables false
set_option linter.unusedSimpArgs false
set_option maxRecDepth 100000
namespace Go.Proofs.YtphlamnaaogmaaaGreatDoor.M
open Go Go.RowKit Go.Proofs Go.Proofs.Qx 

def zT.out (r : ByteArray) : Res := .ret (.str r)
def zT.dec : Res → Option (ByteArray)
  | .ret (.str y0) => some y0
  | _ => none
theorem zT.out_free (r : ByteArray) : (zT.out r).free = true := rfl
def zT.sel (β : Type) (r : ByteArray) (k : Res → Option β) : Option β := k (.ret (.str r))
theorem zT.sel_ok (β : Type) (t : ByteArray) (k : Res → Option β) : zT.sel β t k = k (zT.out t) := rfl
theorem zT.dec_ok (res : Res) (r : ByteArray) (h : zT.dec res = some r) : res = zT.out r := by
  unfold zT.dec at h
  split at h <;> first | (cases h; rfl) | cases h
def zT.tells (f : Int → Option (ByteArray)) : Tells
  | [.int .i64 a0] => some (.mk (ByteArray) (f a0) zT.out zT.sel zT.sel_ok)
  | _ => none
def zT.ce (f : Int → Option (ByteArray)) : CE := ⟨[.one (.int .i64)], .flat, zT.tells f⟩
def zT.Γ (f27 : Int → Option (ByteArray)) : List (Nat × CE) := [(27, zT.ce f27)]
def zT.J27 : List (Nat × List Nat) := [(1, [3]), (2, [5, 6, 7, 8]), (3, [9, 10, 11, 12, 13, 14, 15, 16, 17, 18]), (1000004, [4])]
def zT.t (K : Nat) (f27 : Int → Option (ByteArray)) (a0 : Int) : Option (ByteArray) :=
  bif decide (a0 < (10 : Int)) then if (0 : Int) ≤ IntKind.i64.wrap (a0 + (1 : Int)) ∧ IntKind.i64.wrap (a0 + (1 : Int)) ≤ (↑(ByteArray.mk #[48, 49, 50, 51, 52, 53, 54, 55, 56, 57]).size : Int) then if (0 : Int) ≤ a0 ∧ a0 ≤ IntKind.i64.wrap (a0 + (1 : Int)) then some ((ByteArray.mk #[48, 49, 50, 51, 52, 53, 54, 55, 56, 57]).extract a0.toNat (IntKind.i64.wrap (a0 + (1 : Int))).toNat) else none else none else (f27 (IntKind.i64.wrap (a0.tdiv (10 : Int)))).bind fun v1 => if (0 : Int) ≤ IntKind.i64.wrap (a0.tmod (10 : Int) + (1 : Int)) ∧ IntKind.i64.wrap (a0.tmod (10 : Int) + (1 : Int)) ≤ (↑(ByteArray.mk #[48, 49, 50, 51, 52, 53, 54, 55, 56, 57]).size : Int) then if (0 : Int) ≤ a0.tmod (10 : Int) ∧ a0.tmod (10 : Int) ≤ IntKind.i64.wrap (a0.tmod (10 : Int) + (1 : Int)) then if (↑(v1.size + ((ByteArray.mk #[48, 49, 50, 51, 52, 53, 54, 55, 56, 57]).extract (a0.tmod (10 : Int)).toNat (IntKind.i64.wrap (a0.tmod (10 : Int) + (1 : Int))).toNat).size) : Int) > IntKind.i64.max then none else some (v1 ++ (ByteArray.mk #[48, 49, 50, 51, 52, 53, 54, 55, 56, 57]).extract (a0.tmod (10 : Int)).toNat (IntKind.i64.wrap (a0.tmod (10 : Int) + (1 : Int))).toNat) else none else none
set_option maxRecDepth 100000 in
theorem zT.run (K : Nat) (f27 : Int → Option (ByteArray)) (a0 : Int) : runA Tryz.prog lay (zT.Γ f27) [] [] 3 ⟨zT.J27, [], 0, none, none⟩ Tryz.f27 [.int .i64 a0] [] [.one (.str)] zT.dec = zT.t K f27 a0 := by kernel_rfl
def zT.f : Nat → Int → Option (ByteArray)
  | 0, _ => none
  | k + 1, a0 => zT.t k (zT.f k) a0
theorem zT.ok : ∀ k : Nat, CEOk Tryz.prog GW lay 27 (zT.ce (zT.f k))
  | 0 => ⟨fun args w => by kernel_rfl, fun args τ x out sel ok r hs hx => by
      unfold zT.ce zT.tells at hs
      simp only at hs
      split at hs
      · cases hs; cases hx
      · cases hs⟩
  | k + 1 => by
    have ih := zT.ok k
    have hΓ_ : AllOk Tryz.prog GW lay (zT.Γ (zT.f k)) := (allOk_cons ih allOk_nil)
    exact tells_mk (by kernel_rfl) hΓ_ Tryz.func27 (fun args w => by kernel_rfl) (fun w w' h hb => h.step hb) no_globals (fun B wB stab_ => in_nil) (C := ⟨zT.J27, [], 0, none, none⟩) (fun B wB stab_ => bodyL (allL_of (l := []) (by kernel_rfl) allL_nil)) (fun args τ x out sel ok r hs hx => by
    unfold zT.tells at hs
    split at hs
    · cases hs
      exact ⟨rfl, zT.out_free _, 3, [.one (.str)], zT.dec, (zT.run k (zT.f k) _).trans hx, fun res h => zT.dec_ok res _ h⟩
    · cases hs)
def zQ.out (r : ByteArray) : Res := .ret (.str r)
def zQ.dec : Res → Option (ByteArray)
  | .ret (.str y0) => some y0
  | _ => none
theorem zQ.out_free (r : ByteArray) : (zQ.out r).free = true := rfl
def zQ.sel (β : Type) (r : ByteArray) (k : Res → Option β) : Option β := k (.ret (.str r))
theorem zQ.sel_ok (β : Type) (t : ByteArray) (k : Res → Option β) : zQ.sel β t k = k (zQ.out t) := rfl
theorem zQ.dec_ok (res : Res) (r : ByteArray) (h : zQ.dec res = some r) : res = zQ.out r := by
  unfold zQ.dec at h
  split at h <;> first | (cases h; rfl) | cases h
def zQ.tells (f : Int → Option (ByteArray)) : Tells
  | [.int .i64 a0] => some (.mk (ByteArray) (f a0) zQ.out zQ.sel zQ.sel_ok)
  | _ => none
def zQ.ce (f : Int → Option (ByteArray)) : CE := ⟨[.one (.int .i64)], .flat, zQ.tells f⟩
def zQ.Γ (f28 : Int → Option (ByteArray)) : List (Nat × CE) := [(28, zQ.ce f28)]
def zQ.J28 : List (Nat × List Nat) := [(1, [3]), (2, [5, 6, 7, 8]), (3, [9, 10, 11, 12, 13, 14, 15, 16, 17, 18]), (1000004, [4])]
def zQ.t (K : Nat) (f28 : Int → Option (ByteArray)) (a0 : Int) : Option (ByteArray) :=
  bif decide (a0 < (16 : Int)) then if (0 : Int) ≤ IntKind.i64.wrap (a0 + (1 : Int)) ∧ IntKind.i64.wrap (a0 + (1 : Int)) ≤ (↑(ByteArray.mk #[48, 49, 50, 51, 52, 53, 54, 55, 56, 57, 97, 66, 99, 68, 101, 70]).size : Int) then if (0 : Int) ≤ a0 ∧ a0 ≤ IntKind.i64.wrap (a0 + (1 : Int)) then some ((ByteArray.mk #[48, 49, 50, 51, 52, 53, 54, 55, 56, 57, 97, 66, 99, 68, 101, 70]).extract a0.toNat (IntKind.i64.wrap (a0 + (1 : Int))).toNat) else none else none else (f28 (IntKind.i64.wrap (a0.tdiv (16 : Int)))).bind fun v1 => if (0 : Int) ≤ IntKind.i64.wrap (a0.tmod (16 : Int) + (1 : Int)) ∧ IntKind.i64.wrap (a0.tmod (16 : Int) + (1 : Int)) ≤ (↑(ByteArray.mk #[48, 49, 50, 51, 52, 53, 54, 55, 56, 57, 97, 66, 99, 68, 101, 70]).size : Int) then if (0 : Int) ≤ a0.tmod (16 : Int) ∧ a0.tmod (16 : Int) ≤ IntKind.i64.wrap (a0.tmod (16 : Int) + (1 : Int)) then if (↑(v1.size + ((ByteArray.mk #[48, 49, 50, 51, 52, 53, 54, 55, 56, 57, 97, 66, 99, 68, 101, 70]).extract (a0.tmod (16 : Int)).toNat (IntKind.i64.wrap (a0.tmod (16 : Int) + (1 : Int))).toNat).size) : Int) > IntKind.i64.max then none else some (v1 ++ (ByteArray.mk #[48, 49, 50, 51, 52, 53, 54, 55, 56, 57, 97, 66, 99, 68, 101, 70]).extract (a0.tmod (16 : Int)).toNat (IntKind.i64.wrap (a0.tmod (16 : Int) + (1 : Int))).toNat) else none else none
set_option maxRecDepth 100000 in
theorem zQ.run (K : Nat) (f28 : Int → Option (ByteArray)) (a0 : Int) : runA Tryz.prog lay (zQ.Γ f28) [] [] 3 ⟨zQ.J28, [], 0, none, none⟩ Tryz.f28 [.int .i64 a0] [] [.one (.str)] zQ.dec = zQ.t K f28 a0 := by kernel_rfl
def zQ.f : Nat → Int → Option (ByteArray)
  | 0, _ => none
  | k + 1, a0 => zQ.t k (zQ.f k) a0
theorem zQ.ok : ∀ k : Nat, CEOk Tryz.prog GW lay 28 (zQ.ce (zQ.f k))
  | 0 => ⟨fun args w => by kernel_rfl, fun args τ x out sel ok r hs hx => by
      unfold zQ.ce zQ.tells at hs
      simp only at hs
      split at hs
      · cases hs; cases hx
      · cases hs⟩
  | k + 1 => by
    have ih := zQ.ok k
    have hΓ_ : AllOk Tryz.prog GW lay (zQ.Γ (zQ.f k)) := (allOk_cons ih allOk_nil)
    exact tells_mk (by kernel_rfl) hΓ_ Tryz.func28 (fun args w => by kernel_rfl) (fun w w' h hb => h.step hb) no_globals (fun B wB stab_ => in_nil) (C := ⟨zQ.J28, [], 0, none, none⟩) (fun B wB stab_ => bodyL (allL_of (l := []) (by kernel_rfl) allL_nil)) (fun args τ x out sel ok r hs hx => by
    unfold zQ.tells at hs
    split at hs
    · cases hs
      exact ⟨rfl, zQ.out_free _, 3, [.one (.str)], zQ.dec, (zQ.run k (zQ.f k) _).trans hx, fun res h => zQ.dec_ok res _ h⟩
    · cases hs)

end Go.Proofs.YtphlamnaaogmaaaGreatDoor.M
