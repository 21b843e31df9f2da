import Derived.Test.YtphlamnaaogmaaaGreatDoorLay
import Derived.Test.YtphlamnaaogmaaaGreatDoorGLib
set_option linter.unusedVariables false
set_option linter.unusedSimpArgs false
set_option maxRecDepth 100000
namespace Go.Proofs.YtphlamnaaogmaaaGreatDoor.M
open Go Go.RowKit Go.Proofs Go.Proofs.Qx 

def z7.out (r : Int) : Res := .ret (.int .i64 r)
def z7.dec : Res → Option (Int)
  | .ret (.int .i64 y0) => some y0
  | _ => none
theorem z7.out_free (r : Int) : (z7.out r).free = true := rfl
def z7.sel (β : Type) (r : Int) (k : Res → Option β) : Option β := k (.ret (.int .i64 r))
theorem z7.sel_ok (β : Type) (t : Int) (k : Res → Option β) : z7.sel β t k = k (z7.out t) := rfl
theorem z7.dec_ok (res : Res) (r : Int) (h : z7.dec res = some r) : res = z7.out r := by
  unfold z7.dec at h
  split at h <;> first | (cases h; rfl) | cases h
def z7.tells (f : Int → Int → Option (Int)) : Tells
  | [.int .i64 a0, .int .i64 a1] => some (.mk (Int) (f a0 a1) z7.out z7.sel z7.sel_ok)
  | _ => none
def z7.ce (f : Int → Int → Option (Int)) : CE := ⟨[.one (.int .i64), .one (.int .i64)], .flat, z7.tells f⟩
def z7.Γ : List (Nat × CE) := []
def z7.J22 : List (Nat × List Nat) := [(1, [5]), (2, [7, 8, 9]), (3, [10, 11, 12]), (1000006, [6])]
def z7.t (K : Nat) (a0 : Int) (a1 : Int) : Option (Int) :=
  bif decide (a0 < (0 : Int)) then if a1 = (0 : Int) then none else some ((IntKind.i64.wrap ((0 : Int) - IntKind.i64.wrap (a0 + (1 : Int)))).tmod a1) else if a1 = (0 : Int) then none else some (a0.tmod a1)
set_option maxRecDepth 100000 in
theorem z7.run (K : Nat) (a0 : Int) (a1 : Int) : runA Tryz.prog lay (z7.Γ) [] [] 3 ⟨z7.J22, [], 0, none, none⟩ Tryz.f22 [.int .i64 a0, .int .i64 a1] [] [.one (.int .i64)] z7.dec = z7.t K a0 a1 := by kernel_rfl
def z7.f (k : Nat) (a0 : Int) (a1 : Int) : Option (Int) := z7.t k a0 a1
theorem z7.allOk (k : Nat) : AllOk Tryz.prog GW lay (z7.Γ) := allOk_nil
theorem z7.ok (k : Nat) : CEOk Tryz.prog GW lay 22 (z7.ce (z7.f k)) := by
  have hΓ_ := z7.allOk k
  exact tells_mk (by kernel_rfl) hΓ_ Tryz.func22 (fun args w => by kernel_rfl) (fun w w' h hb => h.step hb) no_globals (fun B wB stab_ => in_nil) (C := ⟨z7.J22, [], 0, none, none⟩) (fun B wB stab_ => bodyL (allL_of (l := []) (by kernel_rfl) allL_nil)) (fun args τ x out sel ok r hs hx => by
    unfold z7.tells at hs
    split at hs
    · rename_i a0 a1
      cases hs
      unfold z7.f at hx
      have hr_ := z7.run k a0 a1
      rw [hx] at hr_
      exact ⟨rfl, z7.out_free _, 3, [.one (.int .i64)], z7.dec, hr_, fun res h => z7.dec_ok res _ h⟩
    · cases hs)

end Go.Proofs.YtphlamnaaogmaaaGreatDoor.M
