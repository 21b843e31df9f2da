/- RatioTurns, by the small machine. -/
import Derived.Test.YtofolkbappinhaaDoorProg
import Derived.Test.YtofolkbappinhaaDoorR6
import Derived.Test.YtofolkbappinhaaDoorM0
import Derived.Test.YtofolkbappinhaaDoorM7
import Derived.Test.YtofolkbappinhaaDoorM8
import Derived.Test.YtofolkbappinhaaDoorM12
import Derived.Test.YtofolkbappinhaaDoorM25
set_option linter.unusedVariables false
set_option linter.unusedSimpArgs false
namespace Go.Proofs.YtofolkbappinhaaDoor.M
open Go Go.RowKit Go.Proofs Go.Proofs.Rx 

def partitalaw01_examples.tells (f : Option (Bool)) : Tells
  | [] => some (.mk (Bool) (f ) fun r => .bool r)
  | _ => none
theorem partitalaw01_examples.tellsOk (k : Nat) : TellsOk Tryd.prog GW 11 (partitalaw01_examples.tells (partitalaw01_examples.f k)) :=
  tells_simple (fun args w => by kernel_rfl) fun args τ x out r hs hx => by
    unfold partitalaw01_examples.tells at hs
    split at hs
    · cases hs
      exact ⟨rfl, rfl, fun w hw => partitalaw01_examples.calls k  r w hw hx⟩
    · cases hs
def partitalaw01_Ratio.tells (f : Int → Int → Option (Int × Int)) : Tells
  | [.agg [.int .i64 a0, .int .i64 a1]] => some (.mk (Int × Int) (f a0 a1) fun r => .agg [.int .i64 r.1, .int .i64 r.2])
  | _ => none
theorem partitalaw01_Ratio.tellsOk (k : Nat) : TellsOk Tryd.prog GW 17 (partitalaw01_Ratio.tells (partitalaw01_Ratio.f k)) :=
  tells_simple (fun args w => by kernel_rfl) fun args τ x out r hs hx => by
    unfold partitalaw01_Ratio.tells at hs
    split at hs
    · cases hs
      exact ⟨rfl, rfl, fun w hw => partitalaw01_Ratio.calls k _ _ r.1 r.2 w hx⟩
    · cases hs
def ratio_Add.tells (f : Int → Int → Int → Int → Option (Int × Int × Int)) : Tells
  | [.agg [.int .i64 a0, .int .i64 a1], .agg [.int .i64 a2, .int .i64 a3]] => some (.mk (Int × Int × Int) (f a0 a1 a2 a3) fun r => .tup [.agg [.int .i64 r.1, .int .i64 r.2.1], .int .i64 r.2.2])
  | _ => none
theorem ratio_Add.tellsOk (k : Nat) : TellsOk Tryd.prog GW 20 (ratio_Add.tells (ratio_Add.f k)) :=
  tells_simple (fun args w => by kernel_rfl) fun args τ x out r hs hx => by
    unfold ratio_Add.tells at hs
    split at hs
    · cases hs
      exact ⟨rfl, rfl, fun w hw => ratio_Add.calls k _ _ _ _ r.1 r.2.1 r.2.2 w hx⟩
    · cases hs
def ratio_Mul.tells (f : Int → Int → Int → Int → Option (Int × Int × Int)) : Tells
  | [.agg [.int .i64 a0, .int .i64 a1], .agg [.int .i64 a2, .int .i64 a3]] => some (.mk (Int × Int × Int) (f a0 a1 a2 a3) fun r => .tup [.agg [.int .i64 r.1, .int .i64 r.2.1], .int .i64 r.2.2])
  | _ => none
theorem ratio_Mul.tellsOk (k : Nat) : TellsOk Tryd.prog GW 21 (ratio_Mul.tells (ratio_Mul.f k)) :=
  tells_simple (fun args w => by kernel_rfl) fun args τ x out r hs hx => by
    unfold ratio_Mul.tells at hs
    split at hs
    · cases hs
      exact ⟨rfl, rfl, fun w hw => ratio_Mul.calls k _ _ _ _ r.1 r.2.1 r.2.2 w hx⟩
    · cases hs
/-! ### partita/partitalaw01.RatioTurns: function 5 -/
def partitalaw01_RatioTurns.tells (f : Int → Int → Int → Int → Int → Int → Option (Bool)) : Tells
  | [.agg [.int .i64 a0, .int .i64 a1], .agg [.int .i64 a2, .int .i64 a3], .agg [.int .i64 a4, .int .i64 a5]] => some (.mk (Bool) (f a0 a1 a2 a3 a4 a5) fun r => .bool r)
  | _ => none
def partitalaw01_RatioTurns.J : List (Nat × List Nat) := [(1, [37]), (2, [38]), (4, [40, 41]), (5, [42, 43]), (6, [44, 45]), (7, [46, 47, 48, 49, 50, 51]), (8, [52, 53, 54, 55, 56, 57]), (9, [58, 59, 60, 61, 62, 63]), (10, [64, 65, 66, 67, 68, 69]), (11, [70, 71, 72, 73, 74, 75, 76, 77, 78, 79, 80, 81, 82, 83, 84, 85, 86]), (13, [88, 89, 90, 91, 92, 93]), (14, [94, 95, 96, 97, 98, 99]), (15, [100, 101, 102, 103, 104, 105]), (16, [106, 107, 108, 109, 110, 111, 112, 113, 114, 115, 116, 117, 118, 119, 120, 121, 122, 123]), (18, [125, 126, 127, 128, 129, 130]), (19, [131, 132, 133, 134, 135, 136]), (20, [137, 138, 139, 140, 141, 142]), (21, [143, 144, 145, 146, 147, 148, 149, 150, 151, 152, 153, 154, 155, 156, 157, 158, 159, 160]), (23, [162, 163, 164, 165, 166, 167]), (24, [168, 169, 170, 171, 172, 173]), (25, [174, 175, 176, 177, 178, 179]), (26, [180, 181, 182, 183, 184, 185, 186, 187, 188, 189, 190, 191, 192, 193, 194, 195, 196, 197, 198, 199, 200, 201, 202, 203, 204, 205]), (1000039, [39]), (1000087, [87]), (1000124, [124]), (1000161, [161])]
def partitalaw01_RatioTurns.J8 {β : Type} (out : Bool → β) (f20 : Int → Int → Int → Int → Option (Int × Int × Int)) (f21 : Int → Int → Int → Int → Option (Int × Int × Int)) (v1 : Bool) (v2 : Int × Int) (v4 : Int × Int) (v5 : Int × Int × Int) (v13 : Int × Int × Int) : Option β :=
  (f21 v2.fst v2.snd v4.fst v4.snd).bind fun v15 =>
    (f20 v15.fst v15.snd.fst v13.fst v13.snd.fst).bind fun v16 =>
      (f21 v5.fst v5.snd.fst v4.fst v4.snd).bind fun v17 =>
        bif v1 then
          bif !v15.snd.snd == 0 then some (out true)
          else
            bif !v13.snd.snd == 0 then some (out true)
            else
              bif !v16.snd.snd == 0 then some (out true)
              else
                bif !v5.snd.snd == 0 then some (out true)
                else
                  bif v17.snd.snd == 0 then some (out (v17.fst == v16.fst && (v17.snd.fst == v16.snd.fst && true)))
                  else some (out false)
        else some (out false)
theorem partitalaw01_RatioTurns.J8_map {β γ : Type} (g : β → γ) (out : Bool → β) (f20 : Int → Int → Int → Int → Option (Int × Int × Int)) (f21 : Int → Int → Int → Int → Option (Int × Int × Int)) (v1 : Bool) (v2 : Int × Int) (v4 : Int × Int) (v5 : Int × Int × Int) (v13 : Int × Int × Int) : (partitalaw01_RatioTurns.J8 out f20 f21 v1 v2 v4 v5 v13).map g = partitalaw01_RatioTurns.J8 (fun r => g (out r)) f20 f21 v1 v2 v4 v5 v13 := by
  unfold partitalaw01_RatioTurns.J8
  simp only [map_bind', map_cond, map_ite, Option.map_some, Option.map_none]
def partitalaw01_RatioTurns.J16 {β : Type} (out : Bool → β) (f20 : Int → Int → Int → Int → Option (Int × Int × Int)) (f21 : Int → Int → Int → Int → Option (Int × Int × Int)) (v1 : Bool) (v2 : Int × Int) (v3 : Int × Int) (v4 : Int × Int) (v5 : Int × Int × Int) (v7 : Int × Int × Int) : Option β :=
  (f21 v7.fst v7.snd.fst v4.fst v4.snd).bind fun v12 =>
    (f21 v3.fst v3.snd v4.fst v4.snd).bind fun v13 =>
      (f21 v2.fst v2.snd v13.fst v13.snd.fst).bind fun v14 =>
        bif v7.snd.snd == 0 then
          bif v12.snd.snd == 0 then
            bif v13.snd.snd == 0 then
              bif !v14.snd.snd == 0 then some (out false)
              else
                bif !(v12.fst == v14.fst && (v12.snd.fst == v14.snd.fst && true)) then some (out false)
                else partitalaw01_RatioTurns.J8 out f20 f21 v1 v2 v4 v5 v13
            else partitalaw01_RatioTurns.J8 out f20 f21 v1 v2 v4 v5 v13
          else partitalaw01_RatioTurns.J8 out f20 f21 v1 v2 v4 v5 v13
        else partitalaw01_RatioTurns.J8 out f20 f21 v1 v2 v4 v5 v13
theorem partitalaw01_RatioTurns.J16_map {β γ : Type} (g : β → γ) (out : Bool → β) (f20 : Int → Int → Int → Int → Option (Int × Int × Int)) (f21 : Int → Int → Int → Int → Option (Int × Int × Int)) (v1 : Bool) (v2 : Int × Int) (v3 : Int × Int) (v4 : Int × Int) (v5 : Int × Int × Int) (v7 : Int × Int × Int) : (partitalaw01_RatioTurns.J16 out f20 f21 v1 v2 v3 v4 v5 v7).map g = partitalaw01_RatioTurns.J16 (fun r => g (out r)) f20 f21 v1 v2 v3 v4 v5 v7 := by
  unfold partitalaw01_RatioTurns.J16
  simp only [map_bind', map_cond, map_ite, Option.map_some, Option.map_none, partitalaw01_RatioTurns.J8_map]
def partitalaw01_RatioTurns.t (f11 : Option (Bool)) (f17 : Int → Int → Option (Int × Int)) (f20 : Int → Int → Int → Int → Option (Int × Int × Int)) (f21 : Int → Int → Int → Int → Option (Int × Int × Int)) (a0 : Int) (a1 : Int) (a2 : Int) (a3 : Int) (a4 : Int) (a5 : Int) {β : Type} (out : Bool → β) : Option β :=
  f11.bind fun v1 =>
    bif !v1 then some (out false)
    else
      (f17 a0 a1).bind fun v2 =>
        (f17 a2 a3).bind fun v3 =>
          (f17 a4 a5).bind fun v4 =>
            (f20 v2.fst v2.snd v3.fst v3.snd).bind fun v5 =>
              (f20 v3.fst v3.snd v2.fst v2.snd).bind fun v6 =>
                (f21 v2.fst v2.snd v3.fst v3.snd).bind fun v7 =>
                  (f21 v3.fst v3.snd v2.fst v2.snd).bind fun v8 =>
                    bif !(v5.fst == v6.fst && (v5.snd.fst == v6.snd.fst && true)) then some (out false)
                    else
                      bif !v5.snd.snd == v6.snd.snd then some (out false)
                      else
                        bif !(v7.fst == v8.fst && (v7.snd.fst == v8.snd.fst && true)) then some (out false)
                        else
                          bif !v7.snd.snd == v8.snd.snd then some (out false)
                          else
                            (f20 v5.fst v5.snd.fst v4.fst v4.snd).bind fun v9 =>
                              (f20 v3.fst v3.snd v4.fst v4.snd).bind fun v10 =>
                                (f20 v2.fst v2.snd v10.fst v10.snd.fst).bind fun v11 =>
                                  bif v5.snd.snd == 0 then
                                    bif v9.snd.snd == 0 then
                                      bif v10.snd.snd == 0 then
                                        bif !v11.snd.snd == 0 then some (out false)
                                        else
                                          bif !(v9.fst == v11.fst && (v9.snd.fst == v11.snd.fst && true)) then
                                            some (out false)
                                          else partitalaw01_RatioTurns.J16 out f20 f21 v1 v2 v3 v4 v5 v7
                                      else partitalaw01_RatioTurns.J16 out f20 f21 v1 v2 v3 v4 v5 v7
                                    else partitalaw01_RatioTurns.J16 out f20 f21 v1 v2 v3 v4 v5 v7
                                  else partitalaw01_RatioTurns.J16 out f20 f21 v1 v2 v3 v4 v5 v7
set_option maxRecDepth 100000 in
theorem partitalaw01_RatioTurns.run (f11 : Option (Bool)) (f17 : Int → Int → Option (Int × Int)) (f20 : Int → Int → Int → Int → Option (Int × Int × Int)) (f21 : Int → Int → Int → Int → Option (Int × Int × Int)) (a0 : Int) (a1 : Int) (a2 : Int) (a3 : Int) (a4 : Int) (a5 : Int) : runA Tryd.prog [(11, partitalaw01_examples.tells f11), (17, partitalaw01_Ratio.tells f17), (20, ratio_Add.tells f20), (21, ratio_Mul.tells f21)] [] partitalaw01_RatioTurns.J 0 Tryd.f5 [.agg [.int .i64 a0, .int .i64 a1], .agg [.int .i64 a2, .int .i64 a3], .agg [.int .i64 a4, .int .i64 a5]] [] = partitalaw01_RatioTurns.t f11 f17 f20 f21 a0 a1 a2 a3 a4 a5 (fun r => .bool r) := by kernel_rfl
theorem partitalaw01_RatioTurns.map (f11 : Option (Bool)) (f17 : Int → Int → Option (Int × Int)) (f20 : Int → Int → Int → Int → Option (Int × Int × Int)) (f21 : Int → Int → Int → Int → Option (Int × Int × Int)) (a0 : Int) (a1 : Int) (a2 : Int) (a3 : Int) (a4 : Int) (a5 : Int) {β γ : Type} (g : β → γ) (out : Bool → β) : (partitalaw01_RatioTurns.t f11 f17 f20 f21 a0 a1 a2 a3 a4 a5 out).map g = partitalaw01_RatioTurns.t f11 f17 f20 f21 a0 a1 a2 a3 a4 a5 (fun r => g (out r)) := by
  unfold partitalaw01_RatioTurns.t
  simp only [map_bind', map_cond, map_ite, Option.map_some, Option.map_none, partitalaw01_RatioTurns.J8_map, partitalaw01_RatioTurns.J16_map]
def partitalaw01_RatioTurns.f (k : Nat) (a0 : Int) (a1 : Int) (a2 : Int) (a3 : Int) (a4 : Int) (a5 : Int) : Option (Bool) := partitalaw01_RatioTurns.t (partitalaw01_examples.f k) (partitalaw01_Ratio.f k) (ratio_Add.f k) (ratio_Mul.f k) a0 a1 a2 a3 a4 a5 id
theorem partitalaw01_RatioTurns.allOk (k : Nat) : AllOk Tryd.prog GW [(11, partitalaw01_examples.tells (partitalaw01_examples.f k)), (17, partitalaw01_Ratio.tells (partitalaw01_Ratio.f k)), (20, ratio_Add.tells (ratio_Add.f k)), (21, ratio_Mul.tells (ratio_Mul.f k))] :=
  (allOk_cons (partitalaw01_examples.tellsOk k) (allOk_cons (partitalaw01_Ratio.tellsOk k) (allOk_cons (ratio_Add.tellsOk k) (allOk_cons (ratio_Mul.tellsOk k) allOk_nil))))
theorem partitalaw01_RatioTurns.runs (k : Nat) (a0 : Int) (a1 : Int) (a2 : Int) (a3 : Int) (a4 : Int) (a5 : Int) {r : Bool} (h : partitalaw01_RatioTurns.f k a0 a1 a2 a3 a4 a5 = some r) : runA Tryd.prog [(11, partitalaw01_examples.tells (partitalaw01_examples.f k)), (17, partitalaw01_Ratio.tells (partitalaw01_Ratio.f k)), (20, ratio_Add.tells (ratio_Add.f k)), (21, ratio_Mul.tells (ratio_Mul.f k))] [] partitalaw01_RatioTurns.J 0 Tryd.f5 [.agg [.int .i64 a0, .int .i64 a1], .agg [.int .i64 a2, .int .i64 a3], .agg [.int .i64 a4, .int .i64 a5]] [] = some (.bool r) := by
  rw [partitalaw01_RatioTurns.run]
  have e := partitalaw01_RatioTurns.map (partitalaw01_examples.f k) (partitalaw01_Ratio.f k) (ratio_Add.f k) (ratio_Mul.f k) a0 a1 a2 a3 a4 a5 (fun r : Bool => (.bool r : AV)) id
  rw [show partitalaw01_RatioTurns.t (partitalaw01_examples.f k) (partitalaw01_Ratio.f k) (ratio_Add.f k) (ratio_Mul.f k) a0 a1 a2 a3 a4 a5 id = some r from h] at e
  exact e.symm
theorem partitalaw01_RatioTurns.tellsOk (k : Nat) : TellsOk Tryd.prog GW 5 (partitalaw01_RatioTurns.tells (partitalaw01_RatioTurns.f k)) :=
  tells_mk (by kernel_rfl) (partitalaw01_RatioTurns.allOk k) Tryd.func5 (fun args w => by kernel_rfl) (fun w w' h hb => h.step hb) no_globals fun args τ x out r hs hx => by
    unfold partitalaw01_RatioTurns.tells at hs
    split at hs
    · cases hs
      exact ⟨rfl, rfl, _, _, partitalaw01_RatioTurns.runs k _ _ _ _ _ _ hx⟩
    · cases hs
def partitalaw01_RatioTurns.Pure : Prop := ∀ (a0_0 : Int) (a0_1 : Int) (a1_0 : Int) (a1_1 : Int) (a2_0 : Int) (a2_1 : Int), (Lit.int .i64 a0_0).wf = true → (Lit.int .i64 a0_1).wf = true → (Lit.int .i64 a1_0).wf = true → (Lit.int .i64 a1_1).wf = true → (Lit.int .i64 a2_0).wf = true → (Lit.int .i64 a2_1).wf = true → ∃ k, partitalaw01_RatioTurns.f k a0_0 a0_1 a1_0 a1_1 a2_0 a2_1 = some true
theorem partitalaw01_RatioTurns.walk (P : partitalaw01_RatioTurns.Pure) (a0_0 : Int) (a0_1 : Int) (a1_0 : Int) (a1_1 : Int) (a2_0 : Int) (a2_1 : Int) (w : World) (hG_ : GW w) (w0_0 : (Lit.int .i64 a0_0).wf = true) (w0_1 : (Lit.int .i64 a0_1).wf = true) (w1_0 : (Lit.int .i64 a1_0).wf = true) (w1_1 : (Lit.int .i64 a1_1).wf = true) (w2_0 : (Lit.int .i64 a2_0).wf = true) (w2_1 : (Lit.int .i64 a2_1).wf = true) :
    Calls Tryd.prog 5 #[.agg #[.int .i64 a0_0, .int .i64 a0_1], .agg #[.int .i64 a1_0, .int .i64 a1_1], .agg #[.int .i64 a2_0, .int .i64 a2_1]] w fun e w' => e = .returned (.bool true) ∧ Below w.heap.size w w' := by
  obtain ⟨k, h⟩ := P a0_0 a0_1 a1_0 a1_1 a2_0 a2_1 w0_0 w0_1 w1_0 w1_1 w2_0 w2_1
  exact law_simple (by kernel_rfl) (partitalaw01_RatioTurns.allOk k) Tryd.func5 (fun w w' h hb => h.step hb) (args := [.agg [.int .i64 a0_0, .int .i64 a0_1], .agg [.int .i64 a1_0, .int .i64 a1_1], .agg [.int .i64 a2_0, .int .i64 a2_1]]) (partitalaw01_RatioTurns.runs k _ _ _ _ _ _ h) rfl hG_

end Go.Proofs.YtofolkbappinhaaDoor.M
