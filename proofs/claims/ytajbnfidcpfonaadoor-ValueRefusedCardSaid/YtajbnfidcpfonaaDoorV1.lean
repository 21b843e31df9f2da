/- Go functions as the machine tells them. -/
import Derived.Test.YtajbnfidcpfonaaDoorProg
import Derived.Test.YtajbnfidcpfonaaDoorQ10
import Derived.Test.YtajbnfidcpfonaaDoorM0
import Derived.Test.YtajbnfidcpfonaaDoorGSeq
import Derived.Test.YtajbnfidcpfonaaDoorM15
import Derived.Test.YtajbnfidcpfonaaDoorM16
import Derived.Test.YtajbnfidcpfonaaDoorM4
import Derived.Test.YtajbnfidcpfonaaDoorM6
import Derived.Test.YtajbnfidcpfonaaDoorM8
set_option linter.unusedVariables false
set_option linter.unusedSimpArgs false
set_option maxRecDepth 100000
namespace Go.Proofs.YtajbnfidcpfonaaDoor.M
open Go Go.RowKit Go.Proofs Go.Proofs.Qx Go.Proofs.YtajbnfidcpfonaaDoorW.PrintWords Go.Proofs.YtajbnfidcpfonaaDoorW.PrintLast Go.Proofs.YtajbnfidcpfonaaDoorW.PrintMore

/-! ### partita/partitalaw04.ValueRefused: function 5 -/
def qx_refused.out (r : Bool) : Res := .ret (.bool r)
def qx_refused.dec : Res → Option (Bool)
  | .ret (.bool y0) => some y0
  | _ => none
theorem qx_refused.out_free (r : Bool) : (qx_refused.out r).free = true := rfl
def qx_refused.sel (β : Type) (r : Bool) (k : Res → Option β) : Option β := k (.ret (.bool r))
theorem qx_refused.sel_ok (β : Type) (t : Bool) (k : Res → Option β) : qx_refused.sel β t k = k (qx_refused.out t) := rfl
theorem qx_refused.dec_ok (res : Res) (r : Bool) (h : qx_refused.dec res = some r) : res = qx_refused.out r := by
  unfold qx_refused.dec at h
  split at h <;> first | (cases h; rfl) | cases h
def qx_refused.tells (f : Int → Int → Int → Int → Int → Int → Option (Bool)) : Tells
  | [.agg [.int .i64 a0, .int .i64 a1, .int .i64 a2, .int .i64 a3], .agg [.int .i64 a4, .int .i64 a5]] => some (.mk (Bool) (f a0 a1 a2 a3 a4 a5) qx_refused.out qx_refused.sel qx_refused.sel_ok)
  | _ => none
def qx_refused.ce (f : Int → Int → Int → Int → Int → Int → Option (Bool)) : CE := ⟨[.agg [.int .i64, .int .i64, .int .i64, .int .i64], .agg [.int .i64, .int .i64]], .flat, qx_refused.tells f⟩
def partitalaw04_examples_V1.out (r : Bool) : Res := .ret (.bool r)
def partitalaw04_examples_V1.dec : Res → Option (Bool)
  | .ret (.bool y0) => some y0
  | _ => none
theorem partitalaw04_examples_V1.out_free (r : Bool) : (partitalaw04_examples_V1.out r).free = true := rfl
def partitalaw04_examples_V1.sel (β : Type) (r : Bool) (k : Res → Option β) : Option β := k (.ret (.bool r))
theorem partitalaw04_examples_V1.sel_ok (β : Type) (t : Bool) (k : Res → Option β) : partitalaw04_examples_V1.sel β t k = k (partitalaw04_examples_V1.out t) := rfl
theorem partitalaw04_examples_V1.dec_ok (res : Res) (r : Bool) (h : partitalaw04_examples_V1.dec res = some r) : res = partitalaw04_examples_V1.out r := by
  unfold partitalaw04_examples_V1.dec at h
  split at h <;> first | (cases h; rfl) | cases h
def partitalaw04_examples_V1.tells (f : Option (Bool)) : Tells
  | [] => some (.mk (Bool) (f ) partitalaw04_examples_V1.out partitalaw04_examples_V1.sel partitalaw04_examples_V1.sel_ok)
  | _ => none
def partitalaw04_examples_V1.ce (f : Option (Bool)) : CE := ⟨[], .flat, partitalaw04_examples_V1.tells f⟩
theorem partitalaw04_examples_V1.ok (k : Nat) : CEOk Tryd.prog GW lay 10 (partitalaw04_examples_V1.ce (partitalaw04_examples.f k)) :=
  tells_simple (fun args w => by kernel_rfl) fun args τ x out sel ok r hs hx => by
    unfold partitalaw04_examples_V1.tells at hs
    split at hs
    · cases hs
      exact ⟨rfl, _, rfl, rfl, fun w hw => partitalaw04_examples.calls k  r w hw hx⟩
    · cases hs
def value_Length_V1.out (r : Int × Int × Int) : Res := .ret (.tup [.agg [.int .i64 r.1, .int .i64 r.2.1], .int .i64 r.2.2])
def value_Length_V1.dec : Res → Option (Int × Int × Int)
  | .ret (.tup [.agg [.int .i64 y0, .int .i64 y1], .int .i64 y2]) => some (y0, y1, y2)
  | _ => none
theorem value_Length_V1.out_free (r : Int × Int × Int) : (value_Length_V1.out r).free = true := rfl
def value_Length_V1.sel (β : Type) (r : Int × Int × Int) (k : Res → Option β) : Option β := k (.ret (.tup [.agg [.int .i64 r.1, .int .i64 r.2.1], .int .i64 r.2.2]))
theorem value_Length_V1.sel_ok (β : Type) (t : Int × Int × Int) (k : Res → Option β) : value_Length_V1.sel β t k = k (value_Length_V1.out t) := rfl
theorem value_Length_V1.dec_ok (res : Res) (r : Int × Int × Int) (h : value_Length_V1.dec res = some r) : res = value_Length_V1.out r := by
  unfold value_Length_V1.dec at h
  split at h <;> first | (cases h; rfl) | cases h
def value_Length_V1.tells (f : Int → Int → Int → Int → Option (Int × Int × Int)) : Tells
  | [.agg [.int .i64 a0, .int .i64 a1, .int .i64 a2, .int .i64 a3]] => some (.mk (Int × Int × Int) (f a0 a1 a2 a3) value_Length_V1.out value_Length_V1.sel value_Length_V1.sel_ok)
  | _ => none
def value_Length_V1.ce (f : Int → Int → Int → Int → Option (Int × Int × Int)) : CE := ⟨[.agg [.int .i64, .int .i64, .int .i64, .int .i64]], .flat, value_Length_V1.tells f⟩
theorem value_Length_V1.ok (k : Nat) : CEOk Tryd.prog GW lay 12 (value_Length_V1.ce (value_Length.f k)) :=
  tells_simple (fun args w => by kernel_rfl) fun args τ x out sel ok r hs hx => by
    unfold value_Length_V1.tells at hs
    split at hs
    · cases hs
      exact ⟨rfl, _, rfl, rfl, fun w hw => value_Length.calls k _ _ _ _ r.1 r.2.1 r.2.2 w hw hx⟩
    · cases hs
def value_Right_V1.out (r : Bool) : Res := .ret (.bool r)
def value_Right_V1.dec : Res → Option (Bool)
  | .ret (.bool y0) => some y0
  | _ => none
theorem value_Right_V1.out_free (r : Bool) : (value_Right_V1.out r).free = true := rfl
def value_Right_V1.sel (β : Type) (r : Bool) (k : Res → Option β) : Option β := k (.ret (.bool r))
theorem value_Right_V1.sel_ok (β : Type) (t : Bool) (k : Res → Option β) : value_Right_V1.sel β t k = k (value_Right_V1.out t) := rfl
theorem value_Right_V1.dec_ok (res : Res) (r : Bool) (h : value_Right_V1.dec res = some r) : res = value_Right_V1.out r := by
  unfold value_Right_V1.dec at h
  split at h <;> first | (cases h; rfl) | cases h
def value_Right_V1.tells (f : Int → Int → Int → Int → Option (Bool)) : Tells
  | [.agg [.int .i64 a0, .int .i64 a1, .int .i64 a2, .int .i64 a3]] => some (.mk (Bool) (f a0 a1 a2 a3) value_Right_V1.out value_Right_V1.sel value_Right_V1.sel_ok)
  | _ => none
def value_Right_V1.ce (f : Int → Int → Int → Int → Option (Bool)) : CE := ⟨[.agg [.int .i64, .int .i64, .int .i64, .int .i64]], .flat, value_Right_V1.tells f⟩
theorem value_Right_V1.ok (k : Nat) : CEOk Tryd.prog GW lay 13 (value_Right_V1.ce (value_Right.f k)) :=
  tells_simple (fun args w => by kernel_rfl) fun args τ x out sel ok r hs hx => by
    unfold value_Right_V1.tells at hs
    split at hs
    · cases hs
      exact ⟨rfl, _, rfl, rfl, fun w hw => value_Right.calls k _ _ _ _ r w hx⟩
    · cases hs
def value_Text_V1.out (r : ByteArray × Int) : Res := .ret (.tup [.str r.1, .int .i64 r.2])
def value_Text_V1.dec : Res → Option (ByteArray × Int)
  | .ret (.tup [.str y0, .int .i64 y1]) => some (y0, y1)
  | _ => none
theorem value_Text_V1.out_free (r : ByteArray × Int) : (value_Text_V1.out r).free = true := rfl
def value_Text_V1.sel (β : Type) (r : ByteArray × Int) (k : Res → Option β) : Option β := k (.ret (.tup [.str r.1, .int .i64 r.2]))
theorem value_Text_V1.sel_ok (β : Type) (t : ByteArray × Int) (k : Res → Option β) : value_Text_V1.sel β t k = k (value_Text_V1.out t) := rfl
theorem value_Text_V1.dec_ok (res : Res) (r : ByteArray × Int) (h : value_Text_V1.dec res = some r) : res = value_Text_V1.out r := by
  unfold value_Text_V1.dec at h
  split at h <;> first | (cases h; rfl) | cases h
def value_Text_V1.tells (f : Int → Int → Int → Int → Option (ByteArray × Int)) : Tells
  | [.agg [.int .i64 a0, .int .i64 a1, .int .i64 a2, .int .i64 a3]] => some (.mk (ByteArray × Int) (f a0 a1 a2 a3) value_Text_V1.out value_Text_V1.sel value_Text_V1.sel_ok)
  | _ => none
def value_Text_V1.ce (f : Int → Int → Int → Int → Option (ByteArray × Int)) : CE := ⟨[.agg [.int .i64, .int .i64, .int .i64, .int .i64]], .flat, value_Text_V1.tells f⟩
theorem value_Text_V1.ok (k : Nat) : CEOk Tryd.prog GW lay 16 (value_Text_V1.ce (value_Text.f k)) :=
  tells_simple (fun args w => by kernel_rfl) fun args τ x out sel ok r hs hx => by
    unfold value_Text_V1.tells at hs
    split at hs
    · cases hs
      exact ⟨rfl, _, rfl, rfl, fun w hw => value_Text.calls k _ _ _ _ r.1 r.2 w hw hx⟩
    · cases hs
def partitalaw04_pick_V1.out (r : Int) : Res := .ret (.int .i64 r)
def partitalaw04_pick_V1.dec : Res → Option (Int)
  | .ret (.int .i64 y0) => some y0
  | _ => none
theorem partitalaw04_pick_V1.out_free (r : Int) : (partitalaw04_pick_V1.out r).free = true := rfl
def partitalaw04_pick_V1.sel (β : Type) (r : Int) (k : Res → Option β) : Option β := k (.ret (.int .i64 r))
theorem partitalaw04_pick_V1.sel_ok (β : Type) (t : Int) (k : Res → Option β) : partitalaw04_pick_V1.sel β t k = k (partitalaw04_pick_V1.out t) := rfl
theorem partitalaw04_pick_V1.dec_ok (res : Res) (r : Int) (h : partitalaw04_pick_V1.dec res = some r) : res = partitalaw04_pick_V1.out r := by
  unfold partitalaw04_pick_V1.dec at h
  split at h <;> first | (cases h; rfl) | cases h
def partitalaw04_pick_V1.tells (f : Int → Int → Option (Int)) : Tells
  | [.int .i64 a0, .int .i64 a1] => some (.mk (Int) (f a0 a1) partitalaw04_pick_V1.out partitalaw04_pick_V1.sel partitalaw04_pick_V1.sel_ok)
  | _ => none
def partitalaw04_pick_V1.ce (f : Int → Int → Option (Int)) : CE := ⟨[.one (.int .i64), .one (.int .i64)], .flat, partitalaw04_pick_V1.tells f⟩
theorem partitalaw04_pick_V1.ok (k : Nat) : CEOk Tryd.prog GW lay 18 (partitalaw04_pick_V1.ce (partitalaw04_pick.f)) :=
  tells_simple (fun args w => by kernel_rfl) fun args τ x out sel ok r hs hx => by
    unfold partitalaw04_pick_V1.tells at hs
    split at hs
    · cases hs
      exact ⟨rfl, _, rfl, rfl, fun w hw => (partitalaw04_pick.calls _ _ r w hx).mono fun e w' q => ⟨q.1, q.2.below⟩⟩
    · cases hs
def value_Split_V1.out (r : List (List D) × Int) : Res := .ret (.tup [.seq 23 r.1, .int .i64 r.2])
def value_Split_V1.dec : Res → Option (List (List D) × Int)
  | .ret (.tup [.seq 23 y0, .int .i64 y1]) => some (y0, y1)
  | _ => none
theorem value_Split_V1.out_free (r : List (List D) × Int) : (value_Split_V1.out r).free = true := rfl
def value_Split_V1.sel (β : Type) (r : List (List D) × Int) (k : Res → Option β) : Option β := k (.ret (.tup [.seq 23 r.1, .int .i64 r.2]))
theorem value_Split_V1.sel_ok (β : Type) (t : List (List D) × Int) (k : Res → Option β) : value_Split_V1.sel β t k = k (value_Split_V1.out t) := rfl
theorem value_Split_V1.dec_ok (res : Res) (r : List (List D) × Int) (h : value_Split_V1.dec res = some r) : res = value_Split_V1.out r := by
  unfold value_Split_V1.dec at h
  split at h <;> first | (cases h; rfl) | cases h
def value_Split_V1.tells (f : Int → Int → Option (List (List D) × Int)) : Tells
  | [.agg [.int .i64 a0, .int .i64 a1]] => some (.mk (List (List D) × Int) (f a0 a1) value_Split_V1.out value_Split_V1.sel value_Split_V1.sel_ok)
  | _ => none
def value_Split_V1.ce (f : Int → Int → Option (List (List D) × Int)) : CE := ⟨[.agg [.int .i64, .int .i64]], .froz, value_Split_V1.tells f⟩
theorem value_Split_V1.ok (k : Nat) : CEOk Tryd.prog GW lay 19 (value_Split_V1.ce (fun a0 a1 => (value_Split.f k a0 a1).map fun r => (r.1.map row23, r.2))) := tells_of (fun args w => by kernel_rfl) fun args τ x out sel ok r hs hx => by
  unfold value_Split_V1.tells at hs
  split at hs
  · rename_i a0 a1
    cases hs
    obtain ⟨⟨xs, e⟩, h1, rfl⟩ := Option.map_eq_some_iff.1 hx
    refine ⟨rfl, _, rfl, fun w hw => (value_Split.calls k _ _ _ _ w hw h1).mono ?_⟩
    rintro en w' ⟨v, rfl, hr, hb⟩
    refine ⟨_, rfl, hb, fun imm himm => ?_⟩
    obtain ⟨imm', ha, hv⟩ := seq_back hb hr imm himm
    exact ⟨imm', ha, fun G hG => by
      have := hv G hG
      simp only [AV.is, AV.isL] at this ⊢
      exact ⟨_, rfl, _, _, rfl, this, _, _, rfl, rfl, rfl⟩⟩
  · cases hs
def qx_refused.Γ (f10 : Option (Bool)) (f12 : Int → Int → Int → Int → Option (Int × Int × Int)) (f13 : Int → Int → Int → Int → Option (Bool)) (f16 : Int → Int → Int → Int → Option (ByteArray × Int)) (f18 : Int → Int → Option (Int)) (f19 : Int → Int → Option (List (List D) × Int)) : List (Nat × CE) := [(10, partitalaw04_examples_V1.ce f10), (12, value_Length_V1.ce f12), (13, value_Right_V1.ce f13), (16, value_Text_V1.ce f16), (18, partitalaw04_pick_V1.ce f18), (19, value_Split_V1.ce f19)]
def qx_refused.J5 : List (Nat × List Nat) := [(1, [21]), (2, [22]), (4, [24, 25, 26, 27, 28]), (5, [29, 30, 31, 32, 33]), (6, [34, 35, 36, 37, 38, 39, 40, 41, 42, 43, 44, 45, 46, 47, 48, 49, 50, 51, 52, 53, 54, 55, 56, 57, 58, 59, 60, 61, 62, 63, 64, 65]), (8, [67, 68, 69, 70]), (9, [71, 72, 73, 74, 75, 76, 77]), (10, [78, 79, 80, 81, 82, 83, 84]), (11, [85, 86, 87, 88, 89]), (12, [90, 91, 92, 93, 94]), (13, [95, 96, 97, 98, 99, 100, 101, 102]), (14, [103, 104, 105, 106, 107, 108, 109, 110, 111, 112, 113, 114, 115, 116, 117, 118, 119, 120, 121, 122, 123, 124, 125, 126, 127, 128, 129, 130, 131, 132, 133, 134, 135, 136, 137, 138, 139, 140]), (1000023, [23]), (1000066, [66])]
def qx_refused.t.J11 (f18 : Int → Int → Option Int) (f19 : Int → Int → Option (List (List D) × Int)) (a4 : Int) (v1 : Bool) : Option (Bool) :=
  (f18 a4 (1000000 : Int)).bind fun v6 =>
    (f19 (IntKind.i64.wrap ((0 : Int) - IntKind.i64.wrap ((1 : Int) + v6))) (1 : Int)).bind fun v7 =>
      (f19 (IntKind.i64.wrap ((64 : Int) + IntKind.i64.wrap ((1 : Int) + v6))) (1 : Int)).bind fun v8 =>
        (f19 (0 : Int) (1 : Int)).bind fun v9 =>
          (f19 (1 : Int) (704 : Int)).bind fun v10 =>
            (f19 (IntKind.i64.wrap ((1 : Int) + v6))
                  (IntKind.i64.wrap ((0 : Int) - IntKind.i64.wrap ((1 : Int) + v6)))).bind
              fun v11 =>
              bif v1 then
                bif v7.snd == (41 : Int) then
                  bif v8.snd == (41 : Int) then
                    bif v9.snd == (41 : Int) then
                      bif v10.snd == (41 : Int) then
                        bif v11.snd == (41 : Int) then
                          some
                            (IntKind.i64.wrap
                                (IntKind.i64.wrap
                                    (IntKind.i64.wrap
                                        (IntKind.i64.wrap ((↑v7.fst.length : Int) + (↑v8.fst.length : Int)) +
                                          (↑v9.fst.length : Int)) +
                                      (↑v10.fst.length : Int)) +
                                  (↑v11.fst.length : Int)) ==
                              (0 : Int))
                        else some false
                      else some false
                    else some false
                  else some false
                else some false
              else some false
def qx_refused.t (K : Nat) (f10 : Option (Bool)) (f12 : Int → Int → Int → Int → Option (Int × Int × Int)) (f13 : Int → Int → Int → Int → Option (Bool)) (f16 : Int → Int → Int → Int → Option (ByteArray × Int)) (f18 : Int → Int → Option (Int)) (f19 : Int → Int → Option (List (List D) × Int)) (a0 : Int) (a1 : Int) (a2 : Int) (a3 : Int) (a4 : Int) (a5 : Int) : Option (Bool) :=
  f10.bind fun v1 =>
    bif !v1 then some false
    else
      (f12 a0 a1 a2 a3).bind fun v2 =>
        (f16 a0 a1 a2 a3).bind fun v3 =>
          (f13 a0 a1 a2 a3).bind fun v4 =>
            bif !v4 == (v2.snd.snd == (0 : Int)) then some false
            else
              (f13 a0 a1 a2 a3).bind fun v5 =>
                bif !v5 == (v3.snd == (0 : Int)) then some false
                else
                  bif !v2.snd.snd == (0 : Int) then
                    bif !v2.snd.snd == (40 : Int) then some false
                    else
                      bif !v3.snd == (40 : Int) then some false
                      else
                        bif !(v2.fst == (0 : Int) && (v2.snd.fst == (0 : Int) && true)) then some false
                        else
                          bif !v3.fst.toList == (ByteArray.mk #[]).toList then some false
                          else qx_refused.t.J11 f18 f19 a4 v1
                  else qx_refused.t.J11 f18 f19 a4 v1
set_option maxRecDepth 100000 in
theorem qx_refused.run (K : Nat) (f10 : Option (Bool)) (f12 : Int → Int → Int → Int → Option (Int × Int × Int)) (f13 : Int → Int → Int → Int → Option (Bool)) (f16 : Int → Int → Int → Int → Option (ByteArray × Int)) (f18 : Int → Int → Option (Int)) (f19 : Int → Int → Option (List (List D) × Int)) (a0 : Int) (a1 : Int) (a2 : Int) (a3 : Int) (a4 : Int) (a5 : Int) : runA Tryd.prog lay (qx_refused.Γ f10 f12 f13 f16 f18 f19) [] [] 3 ⟨qx_refused.J5, [], 0⟩ Tryd.f5 [.agg [.int .i64 a0, .int .i64 a1, .int .i64 a2, .int .i64 a3], .agg [.int .i64 a4, .int .i64 a5]] [] [.one (.bool)] qx_refused.dec = qx_refused.t K f10 f12 f13 f16 f18 f19 a0 a1 a2 a3 a4 a5 := by kernel_rfl
def qx_refused.f (k : Nat) (a0 : Int) (a1 : Int) (a2 : Int) (a3 : Int) (a4 : Int) (a5 : Int) : Option (Bool) := qx_refused.t k (partitalaw04_examples.f k) (value_Length.f k) (value_Right.f k) (value_Text.f k) (partitalaw04_pick.f) (fun a0 a1 => (value_Split.f k a0 a1).map fun r => (r.1.map row23, r.2)) a0 a1 a2 a3 a4 a5
theorem qx_refused.allOk (k : Nat) : AllOk Tryd.prog GW lay (qx_refused.Γ (partitalaw04_examples.f k) (value_Length.f k) (value_Right.f k) (value_Text.f k) (partitalaw04_pick.f) (fun a0 a1 => (value_Split.f k a0 a1).map fun r => (r.1.map row23, r.2))) := (allOk_cons (partitalaw04_examples_V1.ok k) (allOk_cons (value_Length_V1.ok k) (allOk_cons (value_Right_V1.ok k) (allOk_cons (value_Text_V1.ok k) (allOk_cons (partitalaw04_pick_V1.ok k) (allOk_cons (value_Split_V1.ok k) allOk_nil))))))
theorem qx_refused.walks (k : Nat) (a0 : Int) (a1 : Int) (a2 : Int) (a3 : Int) (a4 : Int) (a5 : Int) (h : qx_refused.f k a0 a1 a2 a3 a4 a5 = some true) {w : World} (hw_ : GW w) {vs : Array Value} {G1 : Gh} (h1_ : G1.lay = lay) (himm_ : ∀ b o, G1.imm b o → b < w.heap.size) (hl_ : AV.isL G1 w [.agg [.int .i64 a0, .int .i64 a1, .int .i64 a2, .int .i64 a3], .agg [.int .i64 a4, .int .i64 a5]] vs.toList) :
    Calls Tryd.prog 5 vs w fun e w' => e = .returned (.bool true) ∧ Below w.heap.size w w' := by
  have hΓ_ := qx_refused.allOk k
  unfold qx_refused.f at h
  have hr_ := qx_refused.run k (partitalaw04_examples.f k) (value_Length.f k) (value_Right.f k) (value_Text.f k) (partitalaw04_pick.f) (fun a0 a1 => (value_Split.f k a0 a1).map fun r => (r.1.map row23, r.2)) a0 a1 a2 a3 a4 a5
  rw [h] at hr_
  exact law_mk (by kernel_rfl) hΓ_ Tryd.func5 (fun w w' h hb => h.step hb) no_globals (fun B wB stab_ => in_nil) (C := ⟨qx_refused.J5, [], 0⟩) (fun B wB stab_ => bodyL (allL_of (l := []) (by kernel_rfl) allL_nil)) hr_ (fun res h => qx_refused.dec_ok res _ h) (by kernel_rfl) hw_ h1_ himm_ hl_
def partitalaw04_ValueRefused.Pure : Prop := ∀ (a0 : Int) (a1 : Int) (a2 : Int) (a3 : Int) (a4 : Int) (a5 : Int), (Lit.int .i64 a0).wf = true → (Lit.int .i64 a1).wf = true → (Lit.int .i64 a2).wf = true → (Lit.int .i64 a3).wf = true → (Lit.int .i64 a4).wf = true → (Lit.int .i64 a5).wf = true → ∃ k, qx_refused.f k a0 a1 a2 a3 a4 a5 = some true
theorem partitalaw04_ValueRefused.walk (P : partitalaw04_ValueRefused.Pure) (a0 : Int) (a1 : Int) (a2 : Int) (a3 : Int) (a4 : Int) (a5 : Int) (w : World) (hG_ : GW w) (w0 : (Lit.int .i64 a0).wf = true) (w1 : (Lit.int .i64 a1).wf = true) (w2 : (Lit.int .i64 a2).wf = true) (w3 : (Lit.int .i64 a3).wf = true) (w4 : (Lit.int .i64 a4).wf = true) (w5 : (Lit.int .i64 a5).wf = true) :
    Calls Tryd.prog 5 #[.agg #[.int .i64 a0, .int .i64 a1, .int .i64 a2, .int .i64 a3], .agg #[.int .i64 a4, .int .i64 a5]] w fun e w' => e = .returned (.bool true) ∧ Below w.heap.size w w' := by
  obtain ⟨k, h⟩ := P a0 a1 a2 a3 a4 a5 w0 w1 w2 w3 w4 w5
  exact qx_refused.walks k a0 a1 a2 a3 a4 a5 h hG_ (G1 := ⟨fun _ => 0, 0, fun _ _ => False, fun _ => undef, fun _ => 0, fun _ => [], lay⟩) rfl (fun _ _ q => q.elim) ((AV.denL_is _ _ [.agg [.int .i64 a0, .int .i64 a1, .int .i64 a2, .int .i64 a3], .agg [.int .i64 a4, .int .i64 a5]] _ rfl).2 rfl)

end Go.Proofs.YtajbnfidcpfonaaDoor.M
