import Derived.Test.YtphlamnaaogmaaaGreatDoorE15
import Derived.Test.YtphlamnaaogmaaaGreatDoorE2
set_option linter.unusedVariables false
set_option linter.unusedSimpArgs false
set_option maxRecDepth 100000
namespace Go.Proofs.YtphlamnaaogmaaaGreatDoor.M
open Go Go.RowKit Go.Proofs Go.Proofs.Qx 

def zI.out (r : Bool) : Res := .ret (.bool r)
def zI.dec : Res → Option (Bool)
  | .ret (.bool y0) => some y0
  | _ => none
theorem zI.dec_ok (res : Res) (r : Bool) (h : zI.dec res = some r) : res = zI.out r := by
  unfold zI.dec at h
  split at h <;> first | (cases h; rfl) | cases h
def zI.Γ (f11 : Option (Bool)) (f16 : ByteArray → (List (List D)) → ByteArray → (List (List D)) → ByteArray → Option (ByteArray × Bool)) (f22 : Int → Int → Option (Int)) (f23 : ByteArray → Option (ByteArray × List (List D) × ByteArray × List (List D) × Int × Int)) (f27 : Int → Option (ByteArray)) (f28 : Int → Option (ByteArray)) (f29 : Int → Option (ByteArray × Bool)) : List (Nat × CE) := [(11, z6.ce f11), (16, zZ.ce f16), (22, z7.ce f22), (23, zL.ce f23), (27, zT.ce f27), (28, zQ.ce f28), (29, zU.ce f29)]
def zI.J8 : List (Nat × List Nat) := [(1, [17]), (2, [18, 19]), (3, [20, 21]), (4, [22, 23]), (5, [8, 24, 25, 26, 27, 28, 29, 30, 31, 32, 33, 34]), (6, [11, 35, 36, 37, 38, 39, 40, 41, 42]), (7, [43, 44, 45, 46, 47]), (8, [48, 49, 50, 51, 52, 53, 54, 55, 56, 57, 58, 59, 60, 61, 62, 63, 64, 65, 66, 67, 68, 69, 70, 71, 72, 73, 74]), (10, [76]), (11, [78, 79, 80, 81, 82, 83, 84, 85, 86]), (12, [87, 88, 89, 90, 91]), (13, [92, 93, 94, 95, 96, 97, 98, 99, 100, 101, 102, 103, 104, 105, 106, 107, 108, 109, 110, 111, 112, 113, 114, 115, 116, 117, 118, 119, 120, 121]), (1000075, [75]), (1000077, [77])]
noncomputable def zI.t.J9 (f16 : ByteArray → List (List D) → ByteArray → List (List D) → ByteArray → Option (ByteArray × Bool)) (v1 : Bool) (v5 : ByteArray × List (List D) × ByteArray × List (List D) × Int × Int) (v6 : ByteArray × List (List D) × ByteArray × List (List D) × Int × Int) (v7 : ByteArray × Bool) : Option (Bool) :=
  bif !v7.snd then bif v1 then bif v5.r5 == (201 : Int) then some (v6.r5 == (201 : Int)) else some false else some false else (f16 v5.fst v5.q1 v5.q2 v5.q3 (ByteArray.mk #[98])).bind fun v8 => bif v1 then bif v5.r5 == (0 : Int) then bif v6.r5 == (0 : Int) then bif v8.snd then bif v8.fst.toList == v5.snd.snd.fst.toList then bif v5.snd.snd.fst.toList == v6.snd.snd.fst.toList then some (v8.fst.toList == v7.fst.toList) else some false else some false else some false else some false else some false else some false
noncomputable def zI.t.J10 (f16 : ByteArray → List (List D) → ByteArray → List (List D) → ByteArray → Option (ByteArray × Bool)) (v1 : Bool) (v5 : ByteArray × List (List D) × ByteArray × List (List D) × Int × Int) (v6 : ByteArray × List (List D) × ByteArray × List (List D) × Int × Int) (v7 : ByteArray × Bool) : Option (Bool) :=
  bif !v7.snd == false then some false else zI.t.J9 f16 v1 v5 v6 v7
noncomputable def zI.t.J11 (f16 : ByteArray → List (List D) → ByteArray → List (List D) → ByteArray → Option (ByteArray × Bool)) (v1 : Bool) (v2 : Int) (v5 : ByteArray × List (List D) × ByteArray × List (List D) × Int × Int) (v6 : ByteArray × List (List D) × ByteArray × List (List D) × Int × Int) (v7 : ByteArray × Bool) : Option (Bool) :=
  bif !v7.snd == (v2 == (13 : Int)) then some false else zI.t.J9 f16 v1 v5 v6 v7
noncomputable def zI.t.J12 (f16 : ByteArray → List (List D) → ByteArray → List (List D) → ByteArray → Option (ByteArray × Bool)) (v1 : Bool) (v5 : ByteArray × List (List D) × ByteArray × List (List D) × Int × Int) (v6 : ByteArray × List (List D) × ByteArray × List (List D) × Int × Int) (v7 : ByteArray × Bool) : Option (Bool) :=
  bif !v7.snd == true then some false else zI.t.J9 f16 v1 v5 v6 v7
noncomputable def zI.t (K : Nat) (f11 : Option (Bool)) (f16 : ByteArray → (List (List D)) → ByteArray → (List (List D)) → ByteArray → Option (ByteArray × Bool)) (f22 : Int → Int → Option (Int)) (f23 : ByteArray → Option (ByteArray × List (List D) × ByteArray × List (List D) × Int × Int)) (f27 : Int → Option (ByteArray)) (f28 : Int → Option (ByteArray)) (f29 : Int → Option (ByteArray × Bool)) (a0 : Int) : Option (Bool) :=
  f11.bind fun v1 => (f22 a0 (1200000 : Int)).bind fun v2 => (f27 v2).bind fun v3 => (f28 v2).bind fun v4 => if (↑((ByteArray.mk #[60, 97, 32, 98, 61, 39, 38, 35]).size + v3.size) : Int) > IntKind.i64.max then none else if (↑((ByteArray.mk #[60, 97, 32, 98, 61, 39, 38, 35] ++ v3).size + (ByteArray.mk #[59, 39, 62, 38, 35, 120]).size) : Int) > IntKind.i64.max then none else if (↑((ByteArray.mk #[60, 97, 32, 98, 61, 39, 38, 35] ++ v3 ++ ByteArray.mk #[59, 39, 62, 38, 35, 120]).size + v4.size) : Int) > IntKind.i64.max then none else if (↑((ByteArray.mk #[60, 97, 32, 98, 61, 39, 38, 35] ++ v3 ++ ByteArray.mk #[59, 39, 62, 38, 35, 120] ++ v4).size + (ByteArray.mk #[59, 60, 47, 97, 62]).size) : Int) > IntKind.i64.max then none else (f23 (ByteArray.mk #[60, 97, 32, 98, 61, 39, 38, 35] ++ v3 ++ ByteArray.mk #[59, 39, 62, 38, 35, 120] ++ v4 ++ ByteArray.mk #[59, 60, 47, 97, 62])).bind fun v5 => if (↑((ByteArray.mk #[60, 97, 62, 38, 35]).size + v3.size) : Int) > IntKind.i64.max then none else if (↑((ByteArray.mk #[60, 97, 62, 38, 35] ++ v3).size + (ByteArray.mk #[59, 60, 47, 97, 62]).size) : Int) > IntKind.i64.max then none else (f23 (ByteArray.mk #[60, 97, 62, 38, 35] ++ v3 ++ ByteArray.mk #[59, 60, 47, 97, 62])).bind fun v6 => (f29 v2).bind fun v7 => bif decide (v2 ≤ (1114111 : Int)) then bif decide (v2 < (55296 : Int)) then bif decide (v2 ≥ (32 : Int)) then zI.t.J12 f16 v1 v5 v6 v7 else bif v2 == (9 : Int) then zI.t.J12 f16 v1 v5 v6 v7 else bif v2 == (10 : Int) then zI.t.J12 f16 v1 v5 v6 v7 else zI.t.J11 f16 v1 v2 v5 v6 v7 else bif decide (v2 > (57343 : Int)) then bif decide (v2 ≥ (32 : Int)) then zI.t.J12 f16 v1 v5 v6 v7 else bif v2 == (9 : Int) then zI.t.J12 f16 v1 v5 v6 v7 else bif v2 == (10 : Int) then zI.t.J12 f16 v1 v5 v6 v7 else zI.t.J11 f16 v1 v2 v5 v6 v7 else zI.t.J10 f16 v1 v5 v6 v7 else zI.t.J10 f16 v1 v5 v6 v7
set_option maxRecDepth 100000 in
theorem zI.run (K : Nat) (f11 : Option (Bool)) (f16 : ByteArray → (List (List D)) → ByteArray → (List (List D)) → ByteArray → Option (ByteArray × Bool)) (f22 : Int → Int → Option (Int)) (f23 : ByteArray → Option (ByteArray × List (List D) × ByteArray × List (List D) × Int × Int)) (f27 : Int → Option (ByteArray)) (f28 : Int → Option (ByteArray)) (f29 : Int → Option (ByteArray × Bool)) (a0 : Int) : runA Tryz.prog lay (zI.Γ f11 f16 f22 f23 f27 f28 f29) [] [] 3 ⟨zI.J8, [], 0, none, none⟩ Tryz.f8 [.int .i64 a0] [] [.one (.bool)] zI.dec = zI.t K f11 f16 f22 f23 f27 f28 f29 a0 := by kernel_rfl
noncomputable def zI.f (k : Nat) (a0 : Int) : Option (Bool) := zI.t k (z6.f k) (zZ.f k) (z7.f k) (zL.f k) (zT.f k) (zQ.f k) (zU.f k) a0
theorem zI.allOk (k : Nat) : AllOk Tryz.prog GW lay (zI.Γ (z6.f k) (zZ.f k) (z7.f k) (zL.f k) (zT.f k) (zQ.f k) (zU.f k)) := (allOk_cons (z6.ok k) (allOk_cons (zZ.ok k) (allOk_cons (z7.ok k) (allOk_cons (zL.ok k) (allOk_cons (zT.ok k) (allOk_cons (zQ.ok k) (allOk_cons (zU.ok k) allOk_nil)))))))
theorem zI.walks (k : Nat) (a0 : Int) (h : zI.f k a0 = some true) {w : World} (hw_ : GW w) {vs : Array Value} {G1 : Gh} (h1_ : G1.lay = lay) (himm_ : ∀ b o, G1.imm b o → b < w.heap.size) (hl_ : AV.isL G1 w [.int .i64 a0] vs.toList) :
    Calls Tryz.prog 8 vs w fun e w' => e = .returned (.bool true) ∧ Below w.heap.size w w' := by
  have hΓ_ := zI.allOk k
  unfold zI.f at h
  have hr_ := zI.run k (z6.f k) (zZ.f k) (z7.f k) (zL.f k) (zT.f k) (zQ.f k) (zU.f k) a0
  rw [h] at hr_
  refine law_mk (by kernel_rfl) hΓ_ Tryz.func8 (fun w w' h hb => h.step hb) no_globals (fun B wB stab_ => in_nil) (C := ⟨zI.J8, [], 0, none, none⟩) (fun B wB stab_ => bodyL (allL_of (l := []) (by kernel_rfl) allL_nil)) (d := 3) (rk := [.one (.bool)]) (dec := zI.dec) ?hr (fun res h => zI.dec_ok res _ h) (by kernel_rfl) hw_ h1_ himm_ hl_
  exact hr_
def zI.Pure : Prop := ∀ (a0 : Int), (Lit.int .i64 a0).wf = true → ∃ k, zI.f k a0 = some true
theorem zI.walk (P : zI.Pure) (a0 : Int) (w : World) (hG_ : GW w) (w0 : (Lit.int .i64 a0).wf = true) :
    Calls Tryz.prog 8 #[.int .i64 a0] w fun e w' => e = .returned (.bool true) ∧ Below w.heap.size w w' := by
  obtain ⟨k, h⟩ := P a0 w0
  exact zI.walks k a0 h hG_ (G1 := ⟨fun _ => 0, 0, fun _ _ => False, fun _ => undef, fun _ => 0, fun _ => [], lay⟩) rfl (fun _ _ q => q.elim) ((AV.denL_is _ _ [.int .i64 a0] _ rfl).2 rfl)

end Go.Proofs.YtphlamnaaogmaaaGreatDoor.M
