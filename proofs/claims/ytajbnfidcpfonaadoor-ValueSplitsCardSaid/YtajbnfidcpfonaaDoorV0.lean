/- Go functions as the machine tells them. -/
import Derived.Test.YtajbnfidcpfonaaDoorProg
import Derived.Test.YtajbnfidcpfonaaDoorQ10
import Derived.Test.YtajbnfidcpfonaaDoorM0
import Derived.Test.YtajbnfidcpfonaaDoorGSeq
import Derived.Test.YtajbnfidcpfonaaDoorM21
import Derived.Test.YtajbnfidcpfonaaDoorM6
set_option linter.unusedVariables false
set_option linter.unusedSimpArgs false
set_option maxRecDepth 100000
namespace Go.Proofs.YtajbnfidcpfonaaDoor.M
open Go Go.RowKit Go.Proofs Go.Proofs.Qx Go.Proofs.YtajbnfidcpfonaaDoorW.PrintWords Go.Proofs.YtajbnfidcpfonaaDoorW.PrintLast Go.Proofs.YtajbnfidcpfonaaDoorW.PrintMore

/-! ### partita/partitalaw04.sum: function 20 -/
def qx_sum.out (r : Int × Int × Bool) : Res := .ret (.tup [.agg [.int .i64 r.1, .int .i64 r.2.1], .bool r.2.2])
def qx_sum.dec : Res → Option (Int × Int × Bool)
  | .ret (.tup [.agg [.int .i64 y0, .int .i64 y1], .bool y2]) => some (y0, y1, y2)
  | _ => none
theorem qx_sum.out_free (r : Int × Int × Bool) : (qx_sum.out r).free = true := rfl
def qx_sum.sel (β : Type) (r : Int × Int × Bool) (k : Res → Option β) : Option β := k (.ret (.tup [.agg [.int .i64 r.1, .int .i64 r.2.1], .bool r.2.2]))
theorem qx_sum.sel_ok (β : Type) (t : Int × Int × Bool) (k : Res → Option β) : qx_sum.sel β t k = k (qx_sum.out t) := rfl
theorem qx_sum.dec_ok (res : Res) (r : Int × Int × Bool) (h : qx_sum.dec res = some r) : res = qx_sum.out r := by
  unfold qx_sum.dec at h
  split at h <;> first | (cases h; rfl) | cases h
def qx_sum.tells (f : (List (List D)) → Option (Int × Int × Bool)) : Tells
  | [.seq 23 a0] => some (.mk (Int × Int × Bool) (f a0) qx_sum.out qx_sum.sel qx_sum.sel_ok)
  | _ => none
def qx_sum.ce (f : (List (List D)) → Option (Int × Int × Bool)) : CE := ⟨[.one (.seq 23)], .flat, qx_sum.tells f⟩
def value_Length_V0.out (r : Int × Int × Int) : Res := .ret (.tup [.agg [.int .i64 r.1, .int .i64 r.2.1], .int .i64 r.2.2])
def value_Length_V0.dec : Res → Option (Int × Int × Int)
  | .ret (.tup [.agg [.int .i64 y0, .int .i64 y1], .int .i64 y2]) => some (y0, y1, y2)
  | _ => none
theorem value_Length_V0.out_free (r : Int × Int × Int) : (value_Length_V0.out r).free = true := rfl
def value_Length_V0.sel (β : Type) (r : Int × Int × Int) (k : Res → Option β) : Option β := k (.ret (.tup [.agg [.int .i64 r.1, .int .i64 r.2.1], .int .i64 r.2.2]))
theorem value_Length_V0.sel_ok (β : Type) (t : Int × Int × Int) (k : Res → Option β) : value_Length_V0.sel β t k = k (value_Length_V0.out t) := rfl
theorem value_Length_V0.dec_ok (res : Res) (r : Int × Int × Int) (h : value_Length_V0.dec res = some r) : res = value_Length_V0.out r := by
  unfold value_Length_V0.dec at h
  split at h <;> first | (cases h; rfl) | cases h
def value_Length_V0.tells (f : Int → Int → Int → Int → Option (Int × Int × Int)) : Tells
  | [.agg [.int .i64 a0, .int .i64 a1, .int .i64 a2, .int .i64 a3]] => some (.mk (Int × Int × Int) (f a0 a1 a2 a3) value_Length_V0.out value_Length_V0.sel value_Length_V0.sel_ok)
  | _ => none
def value_Length_V0.ce (f : Int → Int → Int → Int → Option (Int × Int × Int)) : CE := ⟨[.agg [.int .i64, .int .i64, .int .i64, .int .i64]], .flat, value_Length_V0.tells f⟩
theorem value_Length_V0.ok (k : Nat) : CEOk Tryd.prog GW lay 12 (value_Length_V0.ce (value_Length.f k)) :=
  tells_simple (fun args w => by kernel_rfl) fun args τ x out sel ok r hs hx => by
    unfold value_Length_V0.tells at hs
    split at hs
    · cases hs
      exact ⟨rfl, _, rfl, rfl, fun w hw => value_Length.calls k _ _ _ _ r.1 r.2.1 r.2.2 w hw hx⟩
    · cases hs
def ratio_Add_V0.out (r : Int × Int × Int) : Res := .ret (.tup [.agg [.int .i64 r.1, .int .i64 r.2.1], .int .i64 r.2.2])
def ratio_Add_V0.dec : Res → Option (Int × Int × Int)
  | .ret (.tup [.agg [.int .i64 y0, .int .i64 y1], .int .i64 y2]) => some (y0, y1, y2)
  | _ => none
theorem ratio_Add_V0.out_free (r : Int × Int × Int) : (ratio_Add_V0.out r).free = true := rfl
def ratio_Add_V0.sel (β : Type) (r : Int × Int × Int) (k : Res → Option β) : Option β := k (.ret (.tup [.agg [.int .i64 r.1, .int .i64 r.2.1], .int .i64 r.2.2]))
theorem ratio_Add_V0.sel_ok (β : Type) (t : Int × Int × Int) (k : Res → Option β) : ratio_Add_V0.sel β t k = k (ratio_Add_V0.out t) := rfl
theorem ratio_Add_V0.dec_ok (res : Res) (r : Int × Int × Int) (h : ratio_Add_V0.dec res = some r) : res = ratio_Add_V0.out r := by
  unfold ratio_Add_V0.dec at h
  split at h <;> first | (cases h; rfl) | cases h
def ratio_Add_V0.tells (f : Int → Int → Int → Int → Option (Int × Int × Int)) : Tells
  | [.agg [.int .i64 a0, .int .i64 a1], .agg [.int .i64 a2, .int .i64 a3]] => some (.mk (Int × Int × Int) (f a0 a1 a2 a3) ratio_Add_V0.out ratio_Add_V0.sel ratio_Add_V0.sel_ok)
  | _ => none
def ratio_Add_V0.ce (f : Int → Int → Int → Int → Option (Int × Int × Int)) : CE := ⟨[.agg [.int .i64, .int .i64], .agg [.int .i64, .int .i64]], .flat, ratio_Add_V0.tells f⟩
theorem ratio_Add_V0.ok (k : Nat) : CEOk Tryd.prog GW lay 23 (ratio_Add_V0.ce (ratio_Add.f k)) :=
  tells_simple (fun args w => by kernel_rfl) fun args τ x out sel ok r hs hx => by
    unfold ratio_Add_V0.tells at hs
    split at hs
    · cases hs
      exact ⟨rfl, _, rfl, rfl, fun w hw => ratio_Add.calls k _ _ _ _ r.1 r.2.1 r.2.2 w hx⟩
    · cases hs
def qx_sum.Γ (f12 : Int → Int → Int → Int → Option (Int × Int × Int)) (f23 : Int → Int → Int → Int → Option (Int × Int × Int)) : List (Nat × CE) := [(12, value_Length_V0.ce f12), (23, ratio_Add_V0.ce f23)]
def qx_sum.J20 : List (Nat × List Nat) := [(1, [10]), (3, [11, 12, 13]), (4, [15, 16]), (5, [17, 18, 19, 20, 21, 22, 23, 24]), (6, [25, 26, 27, 28, 29, 30]), (7, [31, 32, 33, 34, 35]), (8, [37]), (9, [38]), (10, [39]), (1000014, [14]), (1000036, [36])]
def qx_sum.L3.T : TS := ⟨[.seq 23, .junk, .ptr 0 0, .bool, .ptr 1 0, .int .i64, .junk, .junk, .junk, .junk, .junk, .junk, .junk, .junk, .junk, .junk, .junk, .junk, .junk, .junk, .junk, .junk, .junk, .junk, .junk, .junk, .junk, .junk, .junk, .junk, .junk, .junk, .junk, .junk, .junk, .junk, .junk, .junk, .junk, .junk], [.cells 25 [.int .i64, .int .i64] .own, .cells 25 [.int .i64, .int .i64] .own], 0, [(2, none), (4, none)]⟩
def qx_sum.L3.X0 : TS := ⟨[.junk, .junk, .ptr 0 0, .bool, .ptr 1 0, .junk, .junk, .junk, .junk, .junk, .junk, .junk, .junk, .junk, .junk, .junk, .junk, .junk, .junk, .junk, .junk, .junk, .junk, .junk, .junk, .junk, .junk, .junk, .junk, .junk, .junk, .junk, .junk, .junk, .junk, .junk, .junk, .junk, .junk, .junk], [.cells 25 [.int .i64, .int .i64] .own, .cells 25 [.int .i64, .int .i64] .own], 0, [(2, none), (4, none)]⟩
def qx_sum.L3.X1 : TS := ⟨[.junk, .junk, .ptr 0 0, .bool, .junk, .junk, .junk, .junk, .junk, .junk, .junk, .junk, .junk, .junk, .junk, .junk, .junk, .junk, .junk, .junk, .junk, .junk, .junk, .junk, .junk, .junk, .junk, .junk, .junk, .junk, .junk, .junk, .junk, .junk, .junk, .junk, .junk, .junk, .junk, .junk], [.cells 25 [.int .i64, .int .i64] .own], 0, [(2, none)]⟩
def qx_sum.L3.X : List (Exit × TS) := [(.exit 0, qx_sum.L3.X0), (.ret, qx_sum.L3.X1)]
def qx_sum.L3.dσ : List D → Option (List (List D) × Bool × Int × Int × Int × Int × Int)
  | [.seq x0, .bool x1, .int x2, .int x3, .int x4, .int x5, .int x6] => some (x0, x1, x2, x3, x4, x5, x6)
  | _ => none
def qx_sum.L3.eσ (x : List (List D) × Bool × Int × Int × Int × Int × Int) : List D := [.seq x.1, .bool x.2.1, .int x.2.2.1, .int x.2.2.2.1, .int x.2.2.2.2.1, .int x.2.2.2.2.2.1, .int x.2.2.2.2.2.2]
def qx_sum.L3.dτ : Nat → List D → Option ((Bool × Int × Int × Int × Int) ⊕ (Bool × Int × Int))
  | 0, [.bool y0, .int y1, .int y2, .int y3, .int y4] => some (.inl (y0, y1, y2, y3, y4))
  | 1, [.bool y0, .int y1, .int y2] => some (.inr (y0, y1, y2))
  | _, _ => none
def qx_sum.L3.eτ : (Bool × Int × Int × Int × Int) ⊕ (Bool × Int × Int) → Nat × List D
  | (.inl t) => (0, [.bool t.1, .int t.2.1, .int t.2.2.1, .int t.2.2.2.1, .int t.2.2.2.2])
  | (.inr t) => (1, [.bool t.1, .int t.2.1, .int t.2.2])
def qx_sum.L3.sel (β : Type) (t : (Bool × Int × Int × Int × Int) ⊕ (Bool × Int × Int)) (k : Exit → Fr → Hp → Option β) : Option β := match t with
  | (.inl r) => k (.exit 0) (bldS qx_sum.L3.X0 [.bool r.1, .int r.2.1, .int r.2.2.1, .int r.2.2.2.1, .int r.2.2.2.2]).1 (bldS qx_sum.L3.X0 [.bool r.1, .int r.2.1, .int r.2.2.1, .int r.2.2.2.1, .int r.2.2.2.2]).2
  | (.inr r) => k (.ret) (bldS qx_sum.L3.X1 [.bool r.1, .int r.2.1, .int r.2.2]).1 (bldS qx_sum.L3.X1 [.bool r.1, .int r.2.1, .int r.2.2]).2
theorem qx_sum.L3.sel_ok (β : Type) (t : (Bool × Int × Int × Int × Int) ⊕ (Bool × Int × Int)) (k : Exit → Fr → Hp → Option β) : qx_sum.L3.sel β t k = k (endA qx_sum.L3.X qx_sum.L3.eτ t).1 (endA qx_sum.L3.X qx_sum.L3.eτ t).2.1 (endA qx_sum.L3.X qx_sum.L3.eτ t).2.2 := by rcases t with t | t <;> rfl
theorem qx_sum.L3.dσ_ok (d : List D) (x : List (List D) × Bool × Int × Int × Int × Int × Int) (h : qx_sum.L3.dσ d = some x) : qx_sum.L3.eσ x = d := by
  unfold qx_sum.L3.dσ at h
  split at h <;> first | (cases h; rfl) | cases h
theorem qx_sum.L3.dτ_ok (i : Nat) (d : List D) (t : (Bool × Int × Int × Int × Int) ⊕ (Bool × Int × Int)) (h : qx_sum.L3.dτ i d = some t) : qx_sum.L3.eτ t = (i, d) := by
  unfold qx_sum.L3.dτ at h
  split at h <;> first | (cases h; rfl) | cases h
def qx_sum.L3.S (K : Nat) (f12 : Int → Int → Int → Int → Option (Int × Int × Int)) (f23 : Int → Int → Int → Int → Option (Int × Int × Int)) (rec : (List (List D) × Bool × Int × Int × Int × Int × Int) → Option ((Bool × Int × Int × Int × Int) ⊕ (Bool × Int × Int))) (x0 : List (List D)) (x1 : Bool) (x2 : Int) (x3 : Int) (x4 : Int) (x5 : Int) (x6 : Int) : Option ((Bool × Int × Int × Int × Int) ⊕ (Bool × Int × Int)) :=
  bif decide (x2 < (↑x0.length : Int)) then
    if (0 : Int) ≤ x2 ∧ x2 < (↑x0.length : Int) then
      (f12 (D.at x0 x2.toNat (0 : Nat)).toInt (D.at x0 x2.toNat (1 : Nat)).toInt (D.at x0 x2.toNat (2 : Nat)).toInt
            (D.at x0 x2.toNat (3 : Nat)).toInt).bind
        fun v1 =>
        (f23 x5 x6 v1.fst v1.snd.fst).bind fun v2 =>
          bif !v1.snd.snd == (0 : Int) then some (Sum.inr (false, (0 : Int), (0 : Int)))
          else
            bif !v2.snd.snd == (0 : Int) then some (Sum.inr (false, (0 : Int), (0 : Int)))
            else rec (x0, x1, IntKind.i64.wrap (x2 + (1 : Int)), x3, x4, v2.fst, v2.snd.fst)
    else none
  else some (Sum.inl (x1, x3, x4, x5, x6))
set_option maxRecDepth 100000 in
theorem qx_sum.L3.step (K : Nat) (f12 : Int → Int → Int → Int → Option (Int × Int × Int)) (f23 : Int → Int → Int → Int → Option (Int × Int × Int)) (rec : (List (List D) × Bool × Int × Int × Int × Int × Int) → Option ((Bool × Int × Int × Int × Int) ⊕ (Bool × Int × Int))) (x0 : List (List D)) (x1 : Bool) (x2 : Int) (x3 : Int) (x4 : Int) (x5 : Int) (x6 : Int) : execA Tryd.prog lay (qx_sum.Γ f12 f23) [] (inlA Tryd.prog lay (qx_sum.Γ f12 f23) [] 3) ⟨qx_sum.J20, [], 0⟩ 0 (loopAt Tryd.f20 0) (bldS qx_sum.L3.T (qx_sum.L3.eσ (x0, x1, x2, x3, x4, x5, x6))).1 (bldS qx_sum.L3.T (qx_sum.L3.eσ (x0, x1, x2, x3, x4, x5, x6))).2 (contA qx_sum.L3.T qx_sum.L3.X qx_sum.L3.dσ qx_sum.L3.dτ rec) = qx_sum.L3.S K f12 f23 rec x0 x1 x2 x3 x4 x5 x6 := by kernel_rfl
def qx_sum.L3 (K : Nat) (f12 : Int → Int → Int → Int → Option (Int × Int × Int)) (f23 : Int → Int → Int → Int → Option (Int × Int × Int)) : Nat → (List (List D) × Bool × Int × Int × Int × Int × Int) → Option ((Bool × Int × Int × Int × Int) ⊕ (Bool × Int × Int))
  | 0, _ => none
  | k + 1, x => qx_sum.L3.S K f12 f23 (qx_sum.L3 K f12 f23 k) x.1 x.2.1 x.2.2.1 x.2.2.2.1 x.2.2.2.2.1 x.2.2.2.2.2.1 x.2.2.2.2.2.2
theorem qx_sum.L3.ok (K : Nat) (f12 : Int → Int → Int → Int → Option (Int × Int × Int)) (f23 : Int → Int → Int → Int → Option (Int × Int × Int)) {B : Nat} {wB : World} (stab_ : ∀ w', Bel B wB w' → GW w') (hΓ_ : AllOk Tryd.prog GW lay (qx_sum.Γ f12 f23)) (Kr : Nat) : LSOk Tryd.prog lay B wB [] 0 (sumA qx_sum.L3.T qx_sum.L3.X qx_sum.L3.dσ qx_sum.L3.eτ qx_sum.L3.sel qx_sum.L3.sel_ok (qx_sum.L3 K f12 f23 Kr)) (loopAt Tryd.f20 0) :=
  loop_mk (by kernel_rfl) hΓ_ stab_ (inlA_ok (by kernel_rfl) hΓ_ stab_ in_nil 3) (C := ⟨qx_sum.J20, [], 0⟩) (allL_of (l := []) (by kernel_rfl) allL_nil) (by decide) (by decide) qx_sum.L3.dσ_ok qx_sum.L3.dτ_ok (fun _ => rfl) (fun k x => (qx_sum.L3.step K f12 f23 (qx_sum.L3 K f12 f23 k) x.1 x.2.1 x.2.2.1 x.2.2.2.1 x.2.2.2.2.1 x.2.2.2.2.2.1 x.2.2.2.2.2.2).symm) Kr
def qx_sum.t (K : Nat) (f12 : Int → Int → Int → Int → Option (Int × Int × Int)) (f23 : Int → Int → Int → Int → Option (Int × Int × Int)) (a0 : List (List D)) : Option (Int × Int × Bool) :=
  (qx_sum.L3 K f12 f23 K (a0, false, (0 : Int), (0 : Int), (0 : Int), (0 : Int), (1 : Int))).bind fun v1 =>
    Sum.elim (fun v2 => some (v2.snd.snd.snd.fst, v2.snd.snd.snd.snd, true))
      (fun v3 => some (v3.snd.fst, v3.snd.snd, v3.fst)) v1
set_option maxRecDepth 100000 in
theorem qx_sum.run (K : Nat) (f12 : Int → Int → Int → Int → Option (Int × Int × Int)) (f23 : Int → Int → Int → Int → Option (Int × Int × Int)) (a0 : List (List D)) : runA Tryd.prog lay (qx_sum.Γ f12 f23) [] [] 3 ⟨qx_sum.J20, [(3, 0, sumA qx_sum.L3.T qx_sum.L3.X qx_sum.L3.dσ qx_sum.L3.eτ qx_sum.L3.sel qx_sum.L3.sel_ok (qx_sum.L3 K f12 f23 K))], 0⟩ Tryd.f20 [.seq 23 a0] [] [.agg [.int .i64, .int .i64], .one (.bool)] qx_sum.dec = qx_sum.t K f12 f23 a0 := by kernel_rfl
def qx_sum.f (k : Nat) (a0 : List (List D)) : Option (Int × Int × Bool) := qx_sum.t k (value_Length.f k) (ratio_Add.f k) a0
theorem qx_sum.allOk (k : Nat) : AllOk Tryd.prog GW lay (qx_sum.Γ (value_Length.f k) (ratio_Add.f k)) := (allOk_cons (value_Length_V0.ok k) (allOk_cons (ratio_Add_V0.ok k) allOk_nil))
theorem qx_sum.ok (k : Nat) : CEOk Tryd.prog GW lay 20 (qx_sum.ce (qx_sum.f k)) := by
  have hΓ_ := qx_sum.allOk k
  exact tells_mk (by kernel_rfl) hΓ_ Tryd.func20 (fun args w => by kernel_rfl) (fun w w' h hb => h.step hb) no_globals (fun B wB stab_ => in_nil) (C := ⟨qx_sum.J20, [(3, 0, sumA qx_sum.L3.T qx_sum.L3.X qx_sum.L3.dσ qx_sum.L3.eτ qx_sum.L3.sel qx_sum.L3.sel_ok (qx_sum.L3 k (value_Length.f k) (ratio_Add.f k) k))], 0⟩) (fun B wB stab_ => bodyL (allL_of (l := [loopAt Tryd.f20 0]) (by kernel_rfl) (allL_cons (by kernel_rfl) (qx_sum.L3.ok k (value_Length.f k) (ratio_Add.f k) stab_ hΓ_ k) allL_nil))) (fun args τ x out sel ok r hs hx => by
    unfold qx_sum.tells at hs
    split at hs
    · cases hs
      exact ⟨rfl, qx_sum.out_free _, _, _, qx_sum.dec, (qx_sum.run k (value_Length.f k) (ratio_Add.f k) _).trans hx, fun res h => qx_sum.dec_ok res _ h⟩
    · cases hs)
/-! ### partita/partitalaw04.length: function 15 -/
def qx_length.out (r : Int × Int) : Res := .ret (.agg [.int .i64 r.1, .int .i64 r.2])
def qx_length.dec : Res → Option (Int × Int)
  | .ret (.agg [.int .i64 y0, .int .i64 y1]) => some (y0, y1)
  | _ => none
theorem qx_length.out_free (r : Int × Int) : (qx_length.out r).free = true := rfl
def qx_length.sel (β : Type) (r : Int × Int) (k : Res → Option β) : Option β := k (.ret (.agg [.int .i64 r.1, .int .i64 r.2]))
theorem qx_length.sel_ok (β : Type) (t : Int × Int) (k : Res → Option β) : qx_length.sel β t k = k (qx_length.out t) := rfl
theorem qx_length.dec_ok (res : Res) (r : Int × Int) (h : qx_length.dec res = some r) : res = qx_length.out r := by
  unfold qx_length.dec at h
  split at h <;> first | (cases h; rfl) | cases h
def qx_length.tells (f : Int → Int → Int → Int → Option (Int × Int)) : Tells
  | [.agg [.int .i64 a0, .int .i64 a1, .int .i64 a2, .int .i64 a3]] => some (.mk (Int × Int) (f a0 a1 a2 a3) qx_length.out qx_length.sel qx_length.sel_ok)
  | _ => none
def qx_length.ce (f : Int → Int → Int → Int → Option (Int × Int)) : CE := ⟨[.agg [.int .i64, .int .i64, .int .i64, .int .i64]], .flat, qx_length.tells f⟩
def qx_length.Γ (f12 : Int → Int → Int → Int → Option (Int × Int × Int)) : List (Nat × CE) := [(12, value_Length_V0.ce f12)]
def qx_length.J15 : List (Nat × List Nat) := [(1, [4, 5, 6, 7, 8, 9]), (2, [10])]
def qx_length.t (K : Nat) (f12 : Int → Int → Int → Int → Option (Int × Int × Int)) (a0 : Int) (a1 : Int) (a2 : Int) (a3 : Int) : Option (Int × Int) :=
  (f12 a0 a1 a2 a3).bind fun v1 => some (v1.fst, v1.snd.fst)
set_option maxRecDepth 100000 in
theorem qx_length.run (K : Nat) (f12 : Int → Int → Int → Int → Option (Int × Int × Int)) (a0 : Int) (a1 : Int) (a2 : Int) (a3 : Int) : runA Tryd.prog lay (qx_length.Γ f12) [] [] 3 ⟨qx_length.J15, [], 0⟩ Tryd.f15 [.agg [.int .i64 a0, .int .i64 a1, .int .i64 a2, .int .i64 a3]] [] [.agg [.int .i64, .int .i64]] qx_length.dec = qx_length.t K f12 a0 a1 a2 a3 := by kernel_rfl
def qx_length.f (k : Nat) (a0 : Int) (a1 : Int) (a2 : Int) (a3 : Int) : Option (Int × Int) := qx_length.t k (value_Length.f k) a0 a1 a2 a3
theorem qx_length.allOk (k : Nat) : AllOk Tryd.prog GW lay (qx_length.Γ (value_Length.f k)) := (allOk_cons (value_Length_V0.ok k) allOk_nil)
theorem qx_length.ok (k : Nat) : CEOk Tryd.prog GW lay 15 (qx_length.ce (qx_length.f k)) := by
  have hΓ_ := qx_length.allOk k
  exact tells_mk (by kernel_rfl) hΓ_ Tryd.func15 (fun args w => by kernel_rfl) (fun w w' h hb => h.step hb) no_globals (fun B wB stab_ => in_nil) (C := ⟨qx_length.J15, [], 0⟩) (fun B wB stab_ => bodyL (allL_of (l := []) (by kernel_rfl) allL_nil)) (fun args τ x out sel ok r hs hx => by
    unfold qx_length.tells at hs
    split at hs
    · cases hs
      exact ⟨rfl, qx_length.out_free _, _, _, qx_length.dec, (qx_length.run k (value_Length.f k) _ _ _ _).trans hx, fun res h => qx_length.dec_ok res _ h⟩
    · cases hs)

end Go.Proofs.YtajbnfidcpfonaaDoor.M
