import Derived.Test.YtphlamnaaogmaaaGreatDoorE11
set_option linter.unusedVariables false
set_option linter.unusedSimpArgs false
set_option maxRecDepth 100000
namespace Go.Proofs.YtphlamnaaogmaaaGreatDoor.M
open Go Go.RowKit Go.Proofs Go.Proofs.Qx 

def zL.out (r : ByteArray × List (List D) × ByteArray × List (List D) × Int × Int) : Res := .ret (.tup [.agg [.str r.1, .seq 52 r.2.1, .str r.2.2.1, .seq 27 r.2.2.2.1], .int .i64 r.2.2.2.2.1, .int .i64 r.2.2.2.2.2])
def zL.dec : Res → Option (ByteArray × List (List D) × ByteArray × List (List D) × Int × Int)
  | .ret (.tup [.agg [.str y0, .seq 52 y1, .str y2, .seq 27 y3], .int .i64 y4, .int .i64 y5]) => some (y0, y1, y2, y3, y4, y5)
  | _ => none
theorem zL.out_free (r : ByteArray × List (List D) × ByteArray × List (List D) × Int × Int) : (zL.out r).free = true := rfl
def zL.sel (β : Type) (r : ByteArray × List (List D) × ByteArray × List (List D) × Int × Int) (k : Res → Option β) : Option β := k (.ret (.tup [.agg [.str r.1, .seq 52 r.2.1, .str r.2.2.1, .seq 27 r.2.2.2.1], .int .i64 r.2.2.2.2.1, .int .i64 r.2.2.2.2.2]))
theorem zL.sel_ok (β : Type) (t : ByteArray × List (List D) × ByteArray × List (List D) × Int × Int) (k : Res → Option β) : zL.sel β t k = k (zL.out t) := rfl
theorem zL.dec_ok (res : Res) (r : ByteArray × List (List D) × ByteArray × List (List D) × Int × Int) (h : zL.dec res = some r) : res = zL.out r := by
  unfold zL.dec at h
  split at h <;> first | (cases h; rfl) | cases h
def zL.tells (f : ByteArray → Option (ByteArray × List (List D) × ByteArray × List (List D) × Int × Int)) : Tells
  | [.str a0] => some (.mk (ByteArray × List (List D) × ByteArray × List (List D) × Int × Int) (f a0) zL.out zL.sel zL.sel_ok)
  | _ => none
def zL.ce (f : ByteArray → Option (ByteArray × List (List D) × ByteArray × List (List D) × Int × Int)) : CE := ⟨[.one (.str)], .froz, zL.tells f⟩
def zL.Γ (f41 : Bool → Option ((Unit) ⊕ Unit)) : List (Nat × CE) := [(41, z8.ce f41)]
def zL.J23 : List (Nat × List Nat) := [(1, [6, 7, 8, 9]), (2, [10]), (3, [11, 12, 13, 14, 15, 16, 17]), (4, [19, 20, 21, 22, 23, 24, 25, 26, 27]), (5, [28, 29]), (6, [30, 31, 32, 33, 34, 35]), (7, [36, 37, 38, 39, 40]), (8, [41, 42, 43, 44]), (1000018, [18])]
noncomputable def zL.rest : Code := match Tryz.f23.body with
  | some (.seq _ (.seq _ (.seq _ c))) => c
  | _ => .skip
def zL.fr (s : ByteArray) : Fr := [.str s, .junk, .ptr 0 0, .ptr 1 0, .ptr 2 0, .ptr 4 0, .junk, .junk, .junk, .ptr 3 0, .junk, .junk, .junk, .junk, .junk, .junk, .junk, .junk, .junk, .junk, .junk, .junk, .junk, .junk, .junk, .junk, .junk, .junk, .junk, .junk, .junk, .junk, .junk, .junk, .junk, .junk, .junk, .junk, .junk, .junk, .junk, .junk, .junk, .junk, .junk]
def zL.hp (s : ByteArray) : Hp := [.cells 27 [.str ⟨#[]⟩, .val (.slice none 0 0), .str ⟨#[]⟩, .val (.slice none 0 0)] .own, .cells 3 [.int .i64 0] .own, .cells 30 [.int .i64 0] .own, .cells 74 [.str s, .int .i64 0, .int .i64 0, .rs 5 0, .str ⟨#[]⟩, .val (.slice none 0 0), .str ⟨#[]⟩, .val (.slice none 0 0), .bool false] .own, .cells 70 [.ptr 3 0] .own, .trow 27 0 []]
def zL.from_ : Hp → Option Int
  | [.cells 27 [.str _, .val (.slice none 0 0), .str _, .val (.slice none 0 0)] .own, .cells 3 [.int .i64 _] .own, .cells 30 [.int .i64 _] .own, .cells 74 [.str _, .int .i64 n, .int .i64 _, .junk, .str _, .seq 52 _, .str _, .seq 27 _, .bool _] .own, .cells 70 [.ptr 3 0] .own] => some n
  | _ => none
def zL.at_ (fr : Fr) : Bool := match fr.getD 2 .junk, fr.getD 3 .junk, fr.getD 4 .junk with
  | .ptr 0 0, .ptr 1 0, .ptr 2 0 => true
  | _, _, _ => false
noncomputable def zL.K (e : Exit) (fr : Fr) (h : Hp) : Option (ByteArray × List (List D) × ByteArray × List (List D) × Int × Int) :=
  match e with
  | .ret => (match resA Tryz.prog lay fr h [.cell 2 27, .cell 3 3, .cell 4 30] with
    | some l => finA lay [.agg [.str, .seq 52, .str, .seq 27], .one (.int .i64), .one (.int .i64)] (.ret (.tup l)) h zL.dec
    | none => none)
  | .panic ch => cond (panSame ch [⟨.iface 76 (.agg #[]), false, false⟩] && zL.at_ fr) (match zL.from_ h with
    | some n => some (⟨#[]⟩, [], ⟨#[]⟩, [], n, 201)
    | none => none) none
  | _ => none
def zL.L3.T : TS := ⟨[.str, .junk, .ptr 0 0, .ptr 1 0, .ptr 2 0, .ptr 4 0, .junk, .junk, .junk, .ptr 3 0, .junk, .junk, .junk, .junk, .junk, .junk, .junk, .junk, .junk, .junk, .junk, .junk, .junk, .junk, .junk, .junk, .junk, .junk, .junk, .junk, .junk, .junk, .junk, .junk, .junk, .junk, .junk, .junk, .junk, .junk, .junk, .junk, .junk, .junk, .junk], [.cells 27 [.str, .nil, .str, .nil] .own, .cells 3 [.int .i64] .own, .cells 30 [.int .i64] .own, .cells 74 [.str, .int .i64, .int .i64, .rs 5 0, .str, .seq 52, .str, .seq 27, .bool] .own, .cells 70 [.ptr 3 0] .own, .trow 27 0], 5, [(9, some 3)]⟩
def zL.L3.X0 : TS := ⟨[.str, .junk, .ptr 0 0, .ptr 1 0, .ptr 2 0, .ptr 4 0, .junk, .junk, .junk, .junk, .junk, .junk, .junk, .junk, .junk, .junk, .junk, .junk, .junk, .junk, .junk, .junk, .junk, .junk, .junk, .junk, .junk, .junk, .junk, .junk, .junk, .junk, .junk, .junk, .junk, .junk, .junk, .junk, .junk, .junk, .junk, .junk, .junk, .junk, .junk], [.cells 27 [.str, .nil, .str, .nil] .own, .cells 3 [.int .i64] .own, .cells 30 [.int .i64] .own, .cells 74 [.str, .int .i64, .int .i64, .junk, .str, .seq 52, .str, .seq 27, .bool] .own, .cells 70 [.ptr 3 0] .own], 5, []⟩
def zL.L3.X1 : TS := ⟨[.junk, .junk, .ptr 0 0, .ptr 1 0, .ptr 2 0, .junk, .junk, .junk, .junk, .junk, .junk, .junk, .junk, .junk, .junk, .junk, .junk, .junk, .junk, .junk, .junk, .junk, .junk, .junk, .junk, .junk, .junk, .junk, .junk, .junk, .junk, .junk, .junk, .junk, .junk, .junk, .junk, .junk, .junk, .junk, .junk, .junk, .junk, .junk, .junk], [.cells 27 [.str, .nil, .str, .nil] .own, .cells 3 [.int .i64] .own, .cells 30 [.int .i64] .own, .cells 74 [.str, .int .i64, .int .i64, .junk, .str, .seq 52, .str, .seq 27, .bool] .own, .cells 70 [.ptr 3 0] .own], 5, []⟩
def zL.L3.X : List (Exit × TS) := [(.exit 0, zL.L3.X0), (.panic [⟨.iface 76 (.agg #[]), false, false⟩], zL.L3.X1)]
def zL.L3.dσ : List D → Option (ByteArray × ByteArray × ByteArray × Int × Int × Dc)
  | [.str x0, .str x1, .str x2, .int x3, .int x4, .str x5, .int x6, .int x7, .str x8, .seq x9, .str x10, .seq x11, .bool x12, .seq x13] => some (x0, x1, x2, x3, x4, x5, x6, x7, x8, x9, x10, x11, x12, x13)
  | _ => none
def zL.L3.eσ (x : ByteArray × ByteArray × ByteArray × Int × Int × Dc) : List D := [.str x.1, .str x.2.1, .str x.2.2.1, .int x.2.2.2.1, .int x.2.2.2.2.1, .str x.2.2.2.2.2.1, .int x.2.2.2.2.2.2.1, .int x.2.2.2.2.2.2.2.1, .str x.2.2.2.2.2.2.2.2.1, .seq x.2.2.2.2.2.2.2.2.2.1, .str x.2.2.2.2.2.2.2.2.2.2.1, .seq x.2.2.2.2.2.2.2.2.2.2.2.1, .bool x.2.2.2.2.2.2.2.2.2.2.2.2.1, .seq x.2.2.2.2.2.2.2.2.2.2.2.2.2]
def zL.L3.dτ : Nat → List D → Option ((ByteArray × ByteArray × ByteArray × Int × Int × ByteArray × Int × Int × ByteArray × List (List D) × ByteArray × List (List D) × Bool) ⊕ (ByteArray × ByteArray × Int × Int × ByteArray × Int × Int × ByteArray × List (List D) × ByteArray × List (List D) × Bool))
  | 0, [.str y0, .str y1, .str y2, .int y3, .int y4, .str y5, .int y6, .int y7, .str y8, .seq y9, .str y10, .seq y11, .bool y12] => some (.inl (y0, y1, y2, y3, y4, y5, y6, y7, y8, y9, y10, y11, y12))
  | 1, [.str y0, .str y1, .int y2, .int y3, .str y4, .int y5, .int y6, .str y7, .seq y8, .str y9, .seq y10, .bool y11] => some (.inr (y0, y1, y2, y3, y4, y5, y6, y7, y8, y9, y10, y11))
  | _, _ => none
def zL.L3.eτ : (ByteArray × ByteArray × ByteArray × Int × Int × ByteArray × Int × Int × ByteArray × List (List D) × ByteArray × List (List D) × Bool) ⊕ (ByteArray × ByteArray × Int × Int × ByteArray × Int × Int × ByteArray × List (List D) × ByteArray × List (List D) × Bool) → Nat × List D
  | (.inl t) => (0, [.str t.1, .str t.2.1, .str t.2.2.1, .int t.2.2.2.1, .int t.2.2.2.2.1, .str t.2.2.2.2.2.1, .int t.2.2.2.2.2.2.1, .int t.2.2.2.2.2.2.2.1, .str t.2.2.2.2.2.2.2.2.1, .seq t.2.2.2.2.2.2.2.2.2.1, .str t.2.2.2.2.2.2.2.2.2.2.1, .seq t.2.2.2.2.2.2.2.2.2.2.2.1, .bool t.2.2.2.2.2.2.2.2.2.2.2.2])
  | (.inr t) => (1, [.str t.1, .str t.2.1, .int t.2.2.1, .int t.2.2.2.1, .str t.2.2.2.2.1, .int t.2.2.2.2.2.1, .int t.2.2.2.2.2.2.1, .str t.2.2.2.2.2.2.2.1, .seq t.2.2.2.2.2.2.2.2.1, .str t.2.2.2.2.2.2.2.2.2.1, .seq t.2.2.2.2.2.2.2.2.2.2.1, .bool t.2.2.2.2.2.2.2.2.2.2.2])
def zL.L3.sel (β : Type) (t : (ByteArray × ByteArray × ByteArray × Int × Int × ByteArray × Int × Int × ByteArray × List (List D) × ByteArray × List (List D) × Bool) ⊕ (ByteArray × ByteArray × Int × Int × ByteArray × Int × Int × ByteArray × List (List D) × ByteArray × List (List D) × Bool)) (k : Exit → Fr → Hp → Option β) : Option β := match t with
  | (.inl r) => k (.exit 0) (bldS zL.L3.X0 [.str r.1, .str r.2.1, .str r.2.2.1, .int r.2.2.2.1, .int r.2.2.2.2.1, .str r.2.2.2.2.2.1, .int r.2.2.2.2.2.2.1, .int r.2.2.2.2.2.2.2.1, .str r.2.2.2.2.2.2.2.2.1, .seq r.2.2.2.2.2.2.2.2.2.1, .str r.2.2.2.2.2.2.2.2.2.2.1, .seq r.2.2.2.2.2.2.2.2.2.2.2.1, .bool r.2.2.2.2.2.2.2.2.2.2.2.2]).1 (bldS zL.L3.X0 [.str r.1, .str r.2.1, .str r.2.2.1, .int r.2.2.2.1, .int r.2.2.2.2.1, .str r.2.2.2.2.2.1, .int r.2.2.2.2.2.2.1, .int r.2.2.2.2.2.2.2.1, .str r.2.2.2.2.2.2.2.2.1, .seq r.2.2.2.2.2.2.2.2.2.1, .str r.2.2.2.2.2.2.2.2.2.2.1, .seq r.2.2.2.2.2.2.2.2.2.2.2.1, .bool r.2.2.2.2.2.2.2.2.2.2.2.2]).2
  | (.inr r) => k (.panic [⟨.iface 76 (.agg #[]), false, false⟩]) (bldS zL.L3.X1 [.str r.1, .str r.2.1, .int r.2.2.1, .int r.2.2.2.1, .str r.2.2.2.2.1, .int r.2.2.2.2.2.1, .int r.2.2.2.2.2.2.1, .str r.2.2.2.2.2.2.2.1, .seq r.2.2.2.2.2.2.2.2.1, .str r.2.2.2.2.2.2.2.2.2.1, .seq r.2.2.2.2.2.2.2.2.2.2.1, .bool r.2.2.2.2.2.2.2.2.2.2.2]).1 (bldS zL.L3.X1 [.str r.1, .str r.2.1, .int r.2.2.1, .int r.2.2.2.1, .str r.2.2.2.2.1, .int r.2.2.2.2.2.1, .int r.2.2.2.2.2.2.1, .str r.2.2.2.2.2.2.2.1, .seq r.2.2.2.2.2.2.2.2.1, .str r.2.2.2.2.2.2.2.2.2.1, .seq r.2.2.2.2.2.2.2.2.2.2.1, .bool r.2.2.2.2.2.2.2.2.2.2.2]).2
theorem zL.L3.sel_ok (β : Type) (t : (ByteArray × ByteArray × ByteArray × Int × Int × ByteArray × Int × Int × ByteArray × List (List D) × ByteArray × List (List D) × Bool) ⊕ (ByteArray × ByteArray × Int × Int × ByteArray × Int × Int × ByteArray × List (List D) × ByteArray × List (List D) × Bool)) (k : Exit → Fr → Hp → Option β) : zL.L3.sel β t k = k (endA zL.L3.X zL.L3.eτ t).1 (endA zL.L3.X zL.L3.eτ t).2.1 (endA zL.L3.X zL.L3.eτ t).2.2 := by rcases t with t | t <;> rfl
theorem zL.L3.dσ_ok (d : List D) (x : ByteArray × ByteArray × ByteArray × Int × Int × Dc) (h : zL.L3.dσ d = some x) : zL.L3.eσ x = d := by
  unfold zL.L3.dσ at h
  split at h <;> first | (cases h; rfl) | cases h
theorem zL.L3.dτ_ok (i : Nat) (d : List D) (t : (ByteArray × ByteArray × ByteArray × Int × Int × ByteArray × Int × Int × ByteArray × List (List D) × ByteArray × List (List D) × Bool) ⊕ (ByteArray × ByteArray × Int × Int × ByteArray × Int × Int × ByteArray × List (List D) × ByteArray × List (List D) × Bool)) (h : zL.L3.dτ i d = some t) : zL.L3.eτ t = (i, d) := by
  unfold zL.L3.dτ at h
  split at h <;> first | (cases h; rfl) | cases h
noncomputable def zL.L3.S (K : Nat) (f41 : Bool → Option ((Unit) ⊕ Unit)) (f40 : (Dc) → Option ((Dc) ⊕ (Dc))) (rec : (ByteArray × ByteArray × ByteArray × Int × Int × Dc) → Option ((ByteArray × ByteArray × ByteArray × Int × Int × ByteArray × Int × Int × ByteArray × List (List D) × ByteArray × List (List D) × Bool) ⊕ (ByteArray × ByteArray × Int × Int × ByteArray × Int × Int × ByteArray × List (List D) × ByteArray × List (List D) × Bool))) (x0 : ByteArray) (x1 : ByteArray) (x2 : ByteArray) (x3 : Int) (x4 : Int) (x5 : ByteArray) (x6 : Int) (x7 : Int) (x8 : ByteArray) (x9 : List (List D)) (x10 : ByteArray) (x11 : List (List D)) (x12 : Bool) (x13 : List (List D)) : Option ((ByteArray × ByteArray × ByteArray × Int × Int × ByteArray × Int × Int × ByteArray × List (List D) × ByteArray × List (List D) × Bool) ⊕ (ByteArray × ByteArray × Int × Int × ByteArray × Int × Int × ByteArray × List (List D) × ByteArray × List (List D) × Bool)) :=
  bif decide (x7 < (↑x0.size : Int)) then (f40 (x5, x7, x7, x8, x9, x10, x11, x12, x13)).bind fun v1 => Sum.elim (fun v2 => some (Sum.inr (x1, x2, x3, x4, v2.fst, v2.q1, v2.q2, v2.q3, v2.q4, v2.q5, v2.q6, v2.q7))) (fun v3 => rec (x0, x1, x2, x3, x4, v3.fst, v3.q1, v3.q2, v3.q3, v3.q4, v3.q5, v3.q6, v3.q7, v3.r8)) v1 else some (Sum.inl (x0, x1, x2, x3, x4, x5, x6, x7, x8, x9, x10, x11, x12))
set_option maxRecDepth 100000 in
theorem zL.L3.step (K : Nat) (f41 : Bool → Option ((Unit) ⊕ Unit)) (f40 : (Dc) → Option ((Dc) ⊕ (Dc))) (rec : (ByteArray × ByteArray × ByteArray × Int × Int × Dc) → Option ((ByteArray × ByteArray × ByteArray × Int × Int × ByteArray × Int × Int × ByteArray × List (List D) × ByteArray × List (List D) × Bool) ⊕ (ByteArray × ByteArray × Int × Int × ByteArray × Int × Int × ByteArray × List (List D) × ByteArray × List (List D) × Bool))) (x0 : ByteArray) (x1 : ByteArray) (x2 : ByteArray) (x3 : Int) (x4 : Int) (x5 : ByteArray) (x6 : Int) (x7 : Int) (x8 : ByteArray) (x9 : List (List D)) (x10 : ByteArray) (x11 : List (List D)) (x12 : Bool) (x13 : List (List D)) : execA Tryz.prog lay (zL.Γ f41) [] (inlA Tryz.prog lay (zL.Γ f41) [(40, Tryz.f40, ⟨[], [], 0, none, some (zD.mem f40)⟩)] 3) ⟨zL.J23, [], 0, none, none⟩ 5 (loopAt Tryz.f23 0) (bldS zL.L3.T (zL.L3.eσ (x0, x1, x2, x3, x4, x5, x6, x7, x8, x9, x10, x11, x12, x13))).1 (bldS zL.L3.T (zL.L3.eσ (x0, x1, x2, x3, x4, x5, x6, x7, x8, x9, x10, x11, x12, x13))).2 (contA zL.L3.T zL.L3.X zL.L3.dσ zL.L3.dτ rec) = zL.L3.S K f41 f40 rec x0 x1 x2 x3 x4 x5 x6 x7 x8 x9 x10 x11 x12 x13 := by kernel_rfl
noncomputable def zL.L3 (K : Nat) (f41 : Bool → Option ((Unit) ⊕ Unit)) (f40 : (Dc) → Option ((Dc) ⊕ (Dc))) : Nat → (ByteArray × ByteArray × ByteArray × Int × Int × Dc) → Option ((ByteArray × ByteArray × ByteArray × Int × Int × ByteArray × Int × Int × ByteArray × List (List D) × ByteArray × List (List D) × Bool) ⊕ (ByteArray × ByteArray × Int × Int × ByteArray × Int × Int × ByteArray × List (List D) × ByteArray × List (List D) × Bool))
  | 0, _ => none
  | k + 1, x => zL.L3.S K f41 f40 (zL.L3 K f41 f40 k) x.1 x.2.1 x.2.2.1 x.2.2.2.1 x.2.2.2.2.1 x.2.2.2.2.2.1 x.2.2.2.2.2.2.1 x.2.2.2.2.2.2.2.1 x.2.2.2.2.2.2.2.2.1 x.2.2.2.2.2.2.2.2.2.1 x.2.2.2.2.2.2.2.2.2.2.1 x.2.2.2.2.2.2.2.2.2.2.2.1 x.2.2.2.2.2.2.2.2.2.2.2.2.1 x.2.2.2.2.2.2.2.2.2.2.2.2.2
theorem zL.L3.ok (K : Nat) (f41 : Bool → Option ((Unit) ⊕ Unit)) (f40 : (Dc) → Option ((Dc) ⊕ (Dc))) {B : Nat} {wB : World} (stab_ : ∀ w', Bel B wB w' → GW w') (hΓ_ : AllOk Tryz.prog GW lay (zL.Γ f41)) (hM40_ : HandM Tryz.prog lay B wB 40 (zD.mem f40)) (Kr : Nat) : LSOk Tryz.prog lay B wB [] 5 (sumA zL.L3.T zL.L3.X zL.L3.dσ zL.L3.eτ zL.L3.sel zL.L3.sel_ok (zL.L3 K f41 f40 Kr)) (loopAt Tryz.f23 0) :=
  loop_mk (by kernel_rfl) hΓ_ stab_ (inlA_ok (by kernel_rfl) hΓ_ stab_ (in_mem in_nil (fun args w => by kernel_rfl) rfl hM40_) 3) (C := ⟨zL.J23, [], 0, none, none⟩) (allL_of (l := []) (by kernel_rfl) allL_nil) (by decide) (by decide) zL.L3.dσ_ok zL.L3.dτ_ok (fun _ => rfl) (fun k x => (zL.L3.step K f41 f40 (zL.L3 K f41 f40 k) x.1 x.2.1 x.2.2.1 x.2.2.2.1 x.2.2.2.2.1 x.2.2.2.2.2.1 x.2.2.2.2.2.2.1 x.2.2.2.2.2.2.2.1 x.2.2.2.2.2.2.2.2.1 x.2.2.2.2.2.2.2.2.2.1 x.2.2.2.2.2.2.2.2.2.2.1 x.2.2.2.2.2.2.2.2.2.2.2.1 x.2.2.2.2.2.2.2.2.2.2.2.2.1 x.2.2.2.2.2.2.2.2.2.2.2.2.2).symm) Kr
noncomputable def zL.t (K : Nat) (f41 : Bool → Option ((Unit) ⊕ Unit)) (f40 : (Dc) → Option ((Dc) ⊕ (Dc))) (a0 : ByteArray) : Option (ByteArray × List (List D) × ByteArray × List (List D) × Int × Int) :=
  (zL.L3 K f41 f40 K (a0, ByteArray.mk #[], ByteArray.mk #[], (0 : Int), (0 : Int), a0, (0 : Int), (0 : Int), ByteArray.mk #[], [], ByteArray.mk #[], [], false, [])).bind fun v1 => Sum.elim (fun v2 => (f41 v2.r12).bind fun v3 => Sum.elim (fun v4 => some (v2.q8, v2.q9, v2.q10, v2.q11, (0 : Int), (0 : Int))) (fun v5 => some (ByteArray.mk #[], [], ByteArray.mk #[], [], (↑v2.fst.size : Int), (201 : Int))) v3) (fun v6 => some (ByteArray.mk #[], [], ByteArray.mk #[], [], v6.q5, (201 : Int))) v1
set_option maxRecDepth 100000 in
theorem zL.run (K : Nat) (f41 : Bool → Option ((Unit) ⊕ Unit)) (f40 : (Dc) → Option ((Dc) ⊕ (Dc))) (a0 : ByteArray) : execC Tryz.prog lay (zL.Γ f41) [] (inlA Tryz.prog lay (zL.Γ f41) [(40, Tryz.f40, ⟨[], [], 0, none, some (zD.mem f40)⟩)] 3) ⟨zL.J23, [(3, 5, sumA zL.L3.T zL.L3.X zL.L3.dσ zL.L3.eτ zL.L3.sel zL.L3.sel_ok (zL.L3 K f41 f40 K))], 0, none, none⟩ 5 zL.rest none (zL.fr a0) (zL.hp a0) zL.K = zL.t K f41 f40 a0 := by kernel_rfl
noncomputable def zL.f (k : Nat) (a0 : ByteArray) : Option (ByteArray × List (List D) × ByteArray × List (List D) × Int × Int) := zL.t k (z8.f k) (zD.f k) a0
theorem zL.allOk (k : Nat) : AllOk Tryz.prog GW lay (zL.Γ (z8.f k)) := (allOk_cons (z8.ok k) allOk_nil)
theorem zL.goes (k : Nat) (a0 : ByteArray) {r : ByteArray × List (List D) × ByteArray × List (List D) × Int × Int} (h : zL.f k a0 = some r) {B : Nat} {wB : World} (stab_ : ∀ w', Bel B wB w' → GW w') : WaysF lay B wB [] none (zL.fr a0) (zL.hp a0) 5 (fun e fr' h' => zL.K e fr' h' = some r) (fun Q => zL.rest.wp Tryz.prog Q) := by
  have hΓ_ := zL.allOk k
  unfold zL.f at h
  have hr_ := zL.run k (z8.f k) (zD.f k) a0
  rw [h] at hr_
  exact execC_path (by kernel_rfl) hΓ_ stab_ (inlA_ok (by kernel_rfl) hΓ_ stab_ (in_mem in_nil (fun args w => by kernel_rfl) rfl (zD.ok k stab_)) 3) ⟨zL.J23, [(3, 5, sumA zL.L3.T zL.L3.X zL.L3.dσ zL.L3.eτ zL.L3.sel zL.L3.sel_ok (zL.L3 k (z8.f k) (zD.f k) k))], 0, none, none⟩ 5 _ (allL_of (l := [loopAt Tryz.f23 0]) (by kernel_rfl) (allL_cons (by kernel_rfl) (zL.L3.ok k (z8.f k) (zD.f k) stab_ hΓ_ (zD.ok k stab_) k) allL_nil)) none _ _ _ hr_

end Go.Proofs.YtphlamnaaogmaaaGreatDoor.M
