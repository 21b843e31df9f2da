import Derived.Test.YtphlamnaaogmaaaGreatDoorE0
set_option linter.unusedVariables false
set_option linter.unusedSimpArgs false
set_option maxRecDepth 100000
namespace Go.Proofs.YtphlamnaaogmaaaGreatDoor.M
open Go Go.RowKit Go.Proofs Go.Proofs.Qx 

def zU.out (r : ByteArray × Bool) : Res := .ret (.tup [.str r.1, .bool r.2])
def zU.dec : Res → Option (ByteArray × Bool)
  | .ret (.tup [.str y0, .bool y1]) => some (y0, y1)
  | _ => none
theorem zU.out_free (r : ByteArray × Bool) : (zU.out r).free = true := rfl
def zU.sel (β : Type) (r : ByteArray × Bool) (k : Res → Option β) : Option β := k (.ret (.tup [.str r.1, .bool r.2]))
theorem zU.sel_ok (β : Type) (t : ByteArray × Bool) (k : Res → Option β) : zU.sel β t k = k (zU.out t) := rfl
theorem zU.dec_ok (res : Res) (r : ByteArray × Bool) (h : zU.dec res = some r) : res = zU.out r := by
  unfold zU.dec at h
  split at h <;> first | (cases h; rfl) | cases h
def zU.tells (f : Int → Option (ByteArray × Bool)) : Tells
  | [.int .i64 a0] => some (.mk (ByteArray × Bool) (f a0) zU.out zU.sel zU.sel_ok)
  | _ => none
def zU.ce (f : Int → Option (ByteArray × Bool)) : CE := ⟨[.one (.int .i64)], .flat, zU.tells f⟩
def zU.Γ : List (Nat × CE) := []
def zU.J29 : List (Nat × List Nat) := [(1, [4, 5, 6, 7, 8, 9, 10, 11, 12, 13, 14, 15, 16, 17, 18, 19, 20, 21, 22, 23, 24, 25, 26, 27, 28, 29, 30, 31, 32]), (3, [34]), (4, [36, 37, 38, 39]), (5, [40]), (6, [42, 43, 44, 45, 46, 47, 48, 49, 50, 51]), (7, [52]), (8, [54, 55, 56, 57, 58, 59, 60, 61, 62, 63, 64, 65, 66, 67, 68]), (9, [69, 70, 71, 72, 73, 74, 75, 76, 77, 78, 79, 80, 81, 82, 83, 84, 85, 86, 87, 88]), (1000033, [33]), (1000035, [35]), (1000041, [41]), (1000053, [53])]
def zU.t.J2 (a0 : Int) : Option (ByteArray × Bool) :=
  bif decide (a0 < (128 : Int)) then some (bytesOf ((fun x => IntKind.u8.wrap a0 :: x) []), true) else bif decide (a0 < (2048 : Int)) then some (bytesOf ((fun x => IntKind.u8.wrap (IntKind.i64.wrap ((192 : Int) + IntKind.i64.wrap (a0.tdiv (64 : Int)))) :: x) ((fun x => IntKind.u8.wrap (IntKind.i64.wrap ((128 : Int) + a0.tmod (64 : Int))) :: x) [])), true) else bif decide (a0 < (65536 : Int)) then some (bytesOf ((fun x => IntKind.u8.wrap (IntKind.i64.wrap ((224 : Int) + IntKind.i64.wrap (a0.tdiv (4096 : Int)))) :: x) ((fun x => IntKind.u8.wrap (IntKind.i64.wrap ((128 : Int) + (IntKind.i64.wrap (a0.tdiv (64 : Int))).tmod (64 : Int))) :: x) ((fun x => IntKind.u8.wrap (IntKind.i64.wrap ((128 : Int) + a0.tmod (64 : Int))) :: x) []))), true) else some (bytesOf ((fun x => IntKind.u8.wrap (IntKind.i64.wrap ((240 : Int) + IntKind.i64.wrap (a0.tdiv (262144 : Int)))) :: x) ((fun x => IntKind.u8.wrap (IntKind.i64.wrap ((128 : Int) + (IntKind.i64.wrap (a0.tdiv (4096 : Int))).tmod (64 : Int))) :: x) ((fun x => IntKind.u8.wrap (IntKind.i64.wrap ((128 : Int) + (IntKind.i64.wrap (a0.tdiv (64 : Int))).tmod (64 : Int))) :: x) ((fun x => IntKind.u8.wrap (IntKind.i64.wrap ((128 : Int) + a0.tmod (64 : Int))) :: x) [])))), true)
def zU.t.J3 (a0 : Int) : Option (ByteArray × Bool) :=
  bif !a0 == (13 : Int) then some (ByteArray.mk #[], false) else zU.t.J2 a0
def zU.t (K : Nat) (a0 : Int) : Option (ByteArray × Bool) :=
  bif decide (a0 < (0 : Int)) then some (ByteArray.mk #[], false) else bif decide (a0 > (1114111 : Int)) then some (ByteArray.mk #[], false) else bif decide (a0 ≥ (55296 : Int)) then bif decide (a0 ≤ (57343 : Int)) then some (ByteArray.mk #[], false) else bif decide (a0 < (32 : Int)) then bif !a0 == (9 : Int) then bif !a0 == (10 : Int) then zU.t.J3 a0 else zU.t.J2 a0 else zU.t.J2 a0 else zU.t.J2 a0 else bif decide (a0 < (32 : Int)) then bif !a0 == (9 : Int) then bif !a0 == (10 : Int) then zU.t.J3 a0 else zU.t.J2 a0 else zU.t.J2 a0 else zU.t.J2 a0
set_option maxRecDepth 100000 in
theorem zU.run (K : Nat) (a0 : Int) : runA Tryz.prog lay (zU.Γ) [] [] 3 ⟨zU.J29, [], 0, none, none⟩ Tryz.f29 [.int .i64 a0] [] [.one (.str), .one (.bool)] zU.dec = zU.t K a0 := by kernel_rfl
def zU.f (k : Nat) (a0 : Int) : Option (ByteArray × Bool) := zU.t k a0
theorem zU.allOk (k : Nat) : AllOk Tryz.prog GW lay (zU.Γ) := allOk_nil
theorem zU.ok (k : Nat) : CEOk Tryz.prog GW lay 29 (zU.ce (zU.f k)) := by
  have hΓ_ := zU.allOk k
  exact tells_mk (by kernel_rfl) hΓ_ Tryz.func29 (fun args w => by kernel_rfl) (fun w w' h hb => h.step hb) no_globals (fun B wB stab_ => in_nil) (C := ⟨zU.J29, [], 0, none, none⟩) (fun B wB stab_ => bodyL (allL_of (l := []) (by kernel_rfl) allL_nil)) (fun args τ x out sel ok r hs hx => by
    unfold zU.tells at hs
    split at hs
    · rename_i a0
      cases hs
      unfold zU.f at hx
      have hr_ := zU.run k a0
      rw [hx] at hr_
      exact ⟨rfl, zU.out_free _, 3, [.one (.str), .one (.bool)], zU.dec, hr_, fun res h => zU.dec_ok res _ h⟩
    · cases hs)
end Go.Proofs.YtphlamnaaogmaaaGreatDoor.M
