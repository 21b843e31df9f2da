import Derived.Test.YtphlamnaaogmaaaGreatDoorE12
import Derived.Test.YtphlamnaaogmaaaGreatDoorHParse23
import Derived.Test.YtphlamnaaogmaaaGreatDoorE14
set_option linter.unusedVariables false
set_option linter.unusedSimpArgs false
set_option maxRecDepth 100000
namespace Go.Proofs.YtphlamnaaogmaaaGreatDoor.M
open Go Go.RowKit Go.Proofs Go.Proofs.Qx 

def z6.out (r : Bool) : Res := .ret (.bool r)
def z6.dec : Res → Option (Bool)
  | .ret (.bool y0) => some y0
  | _ => none
theorem z6.out_free (r : Bool) : (z6.out r).free = true := rfl
def z6.sel (β : Type) (r : Bool) (k : Res → Option β) : Option β := k (.ret (.bool r))
theorem z6.sel_ok (β : Type) (t : Bool) (k : Res → Option β) : z6.sel β t k = k (z6.out t) := rfl
theorem z6.dec_ok (res : Res) (r : Bool) (h : z6.dec res = some r) : res = z6.out r := by
  unfold z6.dec at h
  split at h <;> first | (cases h; rfl) | cases h
def z6.tells (f : Option (Bool)) : Tells
  | [] => some (.mk (Bool) (f ) z6.out z6.sel z6.sel_ok)
  | _ => none
def z6.ce (f : Option (Bool)) : CE := ⟨[], .flat, z6.tells f⟩
def z6.Γ (f14 : ByteArray → (List (List D)) → ByteArray → (List (List D)) → Option (ByteArray × Int)) (f16 : ByteArray → (List (List D)) → ByteArray → (List (List D)) → ByteArray → Option (ByteArray × Bool)) (f18 : ByteArray → (List (List D)) → ByteArray → (List (List D)) → Option (Bool)) (f20 : ByteArray → (List (List D)) → ByteArray → (List (List D)) → ByteArray → (List (List D)) → ByteArray → (List (List D)) → Option (Bool)) (f21 : ByteArray → (List (List D)) → ByteArray → (List (List D)) → ByteArray → (List (List D)) → ByteArray → (List (List D)) → Option (Bool)) (f23 : ByteArray → Option (ByteArray × List (List D) × ByteArray × List (List D) × Int × Int)) : List (Nat × CE) := [(14, yE.ce f14), (16, zZ.ce f16), (18, yC.ce f18), (20, zJ.ce f20), (21, zA.ce f21), (23, zL.ce f23)]
def z6.J11 : List (Nat × List Nat) := [(1, [19, 20, 21, 22, 23, 24, 25]), (2, [26, 27, 28, 29, 30]), (3, [31, 32, 33, 34, 35]), (4, [9, 36, 37, 38, 39, 40]), (5, [12, 41, 42, 43, 44, 45]), (6, [46, 47, 48, 49, 50, 51, 52]), (7, [16, 53, 54, 55, 56, 57])]
noncomputable def z6.t (K : Nat) (f14 : ByteArray → (List (List D)) → ByteArray → (List (List D)) → Option (ByteArray × Int)) (f16 : ByteArray → (List (List D)) → ByteArray → (List (List D)) → ByteArray → Option (ByteArray × Bool)) (f18 : ByteArray → (List (List D)) → ByteArray → (List (List D)) → Option (Bool)) (f20 : ByteArray → (List (List D)) → ByteArray → (List (List D)) → ByteArray → (List (List D)) → ByteArray → (List (List D)) → Option (Bool)) (f21 : ByteArray → (List (List D)) → ByteArray → (List (List D)) → ByteArray → (List (List D)) → ByteArray → (List (List D)) → Option (Bool)) (f23 : ByteArray → Option (ByteArray × List (List D) × ByteArray × List (List D) × Int × Int)) : Option (Bool) :=
  (f14 (ByteArray.mk #[97]) [[D.str (ByteArray.mk #[98]), D.str (ByteArray.mk #[49, 60, 50])]] (ByteArray.mk #[]) []).bind fun v1 => (f23 (ByteArray.mk #[60, 97, 62, 32, 120, 32, 60, 47, 97, 62])).bind fun v2 => (f23 (ByteArray.mk #[60, 97, 62, 32, 60, 98, 47, 62, 32, 60, 47, 97, 62])).bind fun v3 => (f23 (ByteArray.mk #[60, 97, 62, 120, 60, 98, 47, 62, 60, 47, 97, 62])).bind fun v4 => (f14 (ByteArray.mk #[]) [] (ByteArray.mk #[]) []).bind fun v5 => (f16 (ByteArray.mk #[]) [[D.str (ByteArray.mk #[98]), D.str (ByteArray.mk #[99])]] (ByteArray.mk #[]) [] (ByteArray.mk #[98])).bind fun v6 => (f23 (ByteArray.mk #[60, 97, 62, 38, 35, 54, 53, 59, 38, 108, 116, 59, 38, 110, 98, 115, 112, 59, 60, 47, 97, 62])).bind fun v7 => bif v1.snd == (0 : Int) then bif v1.fst.toList == (ByteArray.mk #[60, 63, 120, 109, 108, 32, 118, 101, 114, 115, 105, 111, 110, 61, 34, 49, 46, 48, 34, 32, 101, 110, 99, 111, 100, 105, 110, 103, 61, 34, 85, 84, 70, 45, 56, 34, 63, 62, 10, 60, 97, 32, 98, 61, 34, 49, 38, 108, 116, 59, 50, 34, 47, 62, 10]).toList then bif v2.r5 == (0 : Int) then bif v2.q4 == (0 : Int) then (f21 v2.fst v2.q1 v2.q2 v2.q3 (ByteArray.mk #[97]) [] (ByteArray.mk #[32, 120, 32]) []).bind fun v8 => bif v8 then bif v3.r5 == (0 : Int) then bif v3.q4 == (0 : Int) then (f21 v3.fst v3.q1 v3.q2 v3.q3 (ByteArray.mk #[97]) [] (ByteArray.mk #[]) [[D.str (ByteArray.mk #[98]), D.seq [], D.str (ByteArray.mk #[]), D.seq []]]).bind fun v9 => bif v9 then bif v4.r5 == (201 : Int) then bif v4.q4 == (4 : Int) then bif v5.snd == (200 : Int) then bif v6.snd then bif v6.fst.toList == (ByteArray.mk #[99]).toList then bif v7.r5 == (201 : Int) then bif v7.q4 == (3 : Int) then (f18 v2.fst v2.q1 v2.q2 v2.q3).bind fun v10 => bif v10 then (f18 (ByteArray.mk #[]) [] (ByteArray.mk #[]) []).bind fun v11 => bif !v11 then (f20 v2.fst v2.q1 v2.q2 v2.q3 v2.fst v2.q1 v2.q2 v2.q3).bind fun v12 => bif v12 then (f20 v2.fst v2.q1 v2.q2 v2.q3 v3.fst v3.q1 v3.q2 v3.q3).bind fun v13 => some !v13 else some false else some false else some false else some false else some false else some false else some false else some false else some false else some false else some false else some false else some false else some false else some false else some false else some false else some false
set_option maxRecDepth 100000 in
theorem z6.run (K : Nat) (f14 : ByteArray → (List (List D)) → ByteArray → (List (List D)) → Option (ByteArray × Int)) (f16 : ByteArray → (List (List D)) → ByteArray → (List (List D)) → ByteArray → Option (ByteArray × Bool)) (f18 : ByteArray → (List (List D)) → ByteArray → (List (List D)) → Option (Bool)) (f20 : ByteArray → (List (List D)) → ByteArray → (List (List D)) → ByteArray → (List (List D)) → ByteArray → (List (List D)) → Option (Bool)) (f21 : ByteArray → (List (List D)) → ByteArray → (List (List D)) → ByteArray → (List (List D)) → ByteArray → (List (List D)) → Option (Bool)) (f23 : ByteArray → Option (ByteArray × List (List D) × ByteArray × List (List D) × Int × Int)) : runA Tryz.prog lay (z6.Γ f14 f16 f18 f20 f21 f23) [] [] 3 ⟨z6.J11, [], 0, none, none⟩ Tryz.f11 [] [] [.one (.bool)] z6.dec = z6.t K f14 f16 f18 f20 f21 f23 := by kernel_rfl
noncomputable def z6.f (k : Nat) : Option (Bool) := z6.t k (yE.f k) (zZ.f k) (yC.f k) (zJ.f k) (zA.f k) (zL.f k)
theorem z6.allOk (k : Nat) : AllOk Tryz.prog GW lay (z6.Γ (yE.f k) (zZ.f k) (yC.f k) (zJ.f k) (zA.f k) (zL.f k)) := (allOk_cons (yE.ok k) (allOk_cons (zZ.ok k) (allOk_cons (yC.ok k) (allOk_cons (zJ.ok k) (allOk_cons (zA.ok k) (allOk_cons (zL.ok k) allOk_nil))))))
theorem z6.ok (k : Nat) : CEOk Tryz.prog GW lay 11 (z6.ce (z6.f k)) := by
  have hΓ_ := z6.allOk k
  exact tells_mk (by kernel_rfl) hΓ_ Tryz.func11 (fun args w => by kernel_rfl) (fun w w' h hb => h.step hb) no_globals (fun B wB stab_ => in_nil) (C := ⟨z6.J11, [], 0, none, none⟩) (fun B wB stab_ => bodyL (allL_of (l := []) (by kernel_rfl) allL_nil)) (fun args τ x out sel ok r hs hx => by
    unfold z6.tells at hs
    split at hs
    · cases hs
      unfold z6.f at hx
      have hr_ := z6.run k (yE.f k) (zZ.f k) (yC.f k) (zJ.f k) (zA.f k) (zL.f k) 
      rw [hx] at hr_
      exact ⟨rfl, z6.out_free _, 3, [.one (.bool)], z6.dec, hr_, fun res h => z6.dec_ok res _ h⟩
    · cases hs)

end Go.Proofs.YtphlamnaaogmaaaGreatDoor.M
