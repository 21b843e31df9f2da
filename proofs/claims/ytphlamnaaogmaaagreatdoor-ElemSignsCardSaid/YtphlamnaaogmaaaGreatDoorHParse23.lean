import Derived.Test.YtphlamnaaogmaaaGreatDoorE13
import Derived.Recover
import Derived.Defers
import Derived.Tactics2
namespace Go.Proofs.YtphlamnaaogmaaaGreatDoor.M
open Go Go.RowKit Go.Proofs Go.Proofs.Qx
set_option linter.unusedVariables false
set_option linter.unusedSimpArgs false
set_option maxRecDepth 100000

noncomputable def parse_pre0 : Code := match Tryz.f23.body with | some (.seq c _) => c | _ => .skip
noncomputable def parse_pre1 : Code := match Tryz.f23.body with | some (.seq _ (.seq c _)) => c | _ => .skip
def parse_pre2 : Code := .region 2 #[{ dst := some 10, op := Op.makeFunc (Fn.func 39) #[] #[Operand.tmp 5, Operand.tmp 2, Operand.tmp 3, Operand.tmp 4], type := 1, pos := "elem.go:321", after := #[], guard := none }, { dst := none, op := Op.defer { callee := Callee.value (Operand.tmp 10), args := #[], argTypes := #[] }, type := 0, pos := "elem.go:321", after := #[{ on := 0, ground := Ground.data }], guard := none }] false
theorem parse_body : Tryz.f23.body = some (.seq parse_pre0 (.seq parse_pre1 (.seq parse_pre2 zL.rest))) := by kernel_rfl
def catch_0 : Code := .region 0 #[{ dst := some 7, op := Op.call { callee := Callee.builtin Builtin.recover, args := #[], argTypes := #[] }, type := 20, pos := "elem.go:322", after := #[], guard := none }, { dst := some 4, op := Op.assign (Operand.tmp 7), type := 20, pos := "elem.go:322", after := #[{ on := 0, ground := Ground.data }, { on := 0, ground := Ground.chain }, { on := 0, ground := Ground.phase }], guard := none }] false
noncomputable def catch_rest : Code := match Tryz.f39.body with | some (.seq _ c) => c | _ => .skip
theorem catch_body : Tryz.f39.body = some (.seq catch_0 catch_rest) := by kernel_rfl

def onlyN {α : Type} (k : Fr → Hp → Option α) : Exit → Fr → Hp → Option α
  | .normal, fr, h => k fr h
  | _, _, _ => none
def noInl {α : Type} : Nat → List AV → Hp → (Res → Hp → Option α) → Option α := fun _ _ _ _ => none
theorem noInl_ok {B : Nat} {wB : World} {α : Type} : InlOk (α := α) Tryz.prog lay B wB noInl := fun f args h k r hr => by cases hr
theorem plain_path {B : Nat} {wB : World} (stab : ∀ w', Bel B wB w' → GW w') {c : Code} (hl : loopsOf c = []) {J : List (Nat × List Nat)} {n0 : Nat} {fr : Fr} {h : Hp} {α : Type} {k : Fr → Hp → Option α} {r : α}
    (hr : execA Tryz.prog lay [] [] noInl ⟨J, [], 0, none, none⟩ n0 c fr h (onlyN k) = some r) : ∃ fr' h', k fr' h' = some r ∧ Ways lay B wB [] fr h .normal fr' h' n0 (fun Q => c.wp Tryz.prog Q) := by
  obtain ⟨e, fr1, h1, hk, hW⟩ := execA_path (B := B) (wB := wB) (gl := []) (by kernel_rfl) (allOk_nil (GW := GW)) stab noInl_ok ⟨J, [], 0, none, none⟩ n0 c (fun d hd => by rw [hl] at hd; cases hd) fr h _ hr
  cases e with
  | normal => exact ⟨fr1, h1, hk, hW⟩
  | _ => cases hk

def parse_fr0 (s : ByteArray) : Fr := [.str s] ++ List.replicate 44 .junk
def parse_frA (s : ByteArray) : Fr := [.str s, .junk, .ptr 0 0, .ptr 1 0, .ptr 2 0] ++ List.replicate 40 .junk
def parse_hpA : Hp := [.cells 27 [.str ⟨#[]⟩, .val (.slice none 0 0), .str ⟨#[]⟩, .val (.slice none 0 0)] .own, .cells 3 [.int .i64 0] .own, .cells 30 [.int .i64 0] .own]
def parse_hpB (s : ByteArray) : Hp := [.cells 27 [.str ⟨#[]⟩, .val (.slice none 0 0), .str ⟨#[]⟩, .val (.slice none 0 0)] .own, .cells 3 [.int .i64 0] .own, .cells 30 [.int .i64 0] .own, .cells 74 [.str s, .int .i64 0, .int .i64 0, .val (.slice none 0 0), .str ⟨#[]⟩, .val (.slice none 0 0), .str ⟨#[]⟩, .val (.slice none 0 0), .bool false] .own, .cells 70 [.ptr 3 0] .own]
theorem parse_run0 (s : ByteArray) : execA Tryz.prog lay [] [] noInl ⟨[], [], 0, none, none⟩ 0 parse_pre0 (parse_fr0 s) [] (onlyN fun fr h => some (fr, h)) = some (parse_frA s, parse_hpA) := by kernel_rfl
theorem parse_run1 (s : ByteArray) : execA Tryz.prog lay [] [] noInl ⟨[(1, [6, 7, 8])], [], 0, none, none⟩ 0 parse_pre1 (parse_frA s) parse_hpA (onlyN fun fr h => some (fr, h)) = some (zL.fr s, parse_hpB s) := by kernel_rfl
theorem parse_loops0 : loopsOf parse_pre0 = [] := by kernel_rfl
theorem parse_loops1 : loopsOf parse_pre1 = [] := by kernel_rfl
theorem catch_loops : loopsOf catch_rest = [] := by kernel_rfl

theorem pre2_wp {Q : Exit → Act → World → Prop} {a : Act} {w : World} (hs : a.tmps.size = 45)
    (h : Q .normal { tmps := a.tmps.setIfInBounds 10 (.func (.func 39) #[] #[a.tmps.getD 5 undef, a.tmps.getD 2 undef, a.tmps.getD 3 undef, a.tmps.getD 4 undef]),
                     defers := { target := .fn (.func 39) #[a.tmps.getD 5 undef, a.tmps.getD 2 undef, a.tmps.getD 3 undef, a.tmps.getD 4 undef], args := #[] } :: a.defers } w) : parse_pre2.wp Tryz.prog Q a w := by
  unfold parse_pre2
  refine wp_region ?_
  have hmf : ∀ (fn : Fn) (first cap : Array Value) (w : World), (Instr.makeFunc fn first cap).run Tryz.prog w = .ok (.func fn first cap) w := fun _ _ _ _ => rfl
  have h10 : 10 < a.tmps.size := by omega
  simp [wpOps, go_sem, hmf, Act.eval, h10]
  refine .inl (.inl ?_)
  simpa [Array.getD_eq_getD_getElem?] using h

def catch_frI : Fr := [.junk, .junk, .junk, .junk, .val .nilIface] ++ List.replicate 19 .junk
def catch_frP : Fr := [.ptr 4 0, .ptr 0 0, .ptr 1 0, .ptr 2 0, .ifc 76 (.agg [])] ++ List.replicate 19 .junk
theorem catch_runI (n0 : Nat) (h : Hp) : execA Tryz.prog lay [] [] noInl ⟨[], [], 0, none, none⟩ n0 catch_rest catch_frI h (onlyN fun _ h => some h) = some h := by kernel_rfl
def caught (b1 b2 : ByteArray) (i1 i2 : Int) (s : ByteArray) (n m : Int) (b3 : ByteArray) (l1 : List (List D)) (b4 : ByteArray) (l2 : List (List D)) (d : Bool) : Hp :=
  [.cells 27 [.str b1, .val (.slice none 0 0), .str b2, .val (.slice none 0 0)] .own, .cells 3 [.int .i64 i1] .own, .cells 30 [.int .i64 i2] .own, .cells 74 [.str s, .int .i64 n, .int .i64 m, .junk, .str b3, .seq 52 l1, .str b4, .seq 27 l2, .bool d] .own, .cells 70 [.ptr 3 0] .own]
theorem catch_runP (b1 b2 : ByteArray) (i1 i2 : Int) (s : ByteArray) (n m : Int) (b3 : ByteArray) (l1 : List (List D)) (b4 : ByteArray) (l2 : List (List D)) (d : Bool) :
    execA Tryz.prog lay [] [] noInl ⟨[], [], 0, none, none⟩ 5 catch_rest catch_frP (caught b1 b2 i1 i2 s n m b3 l1 b4 l2 d) (onlyN fun _ h => some h) = some (caught ⟨#[]⟩ ⟨#[]⟩ n 201 s n m b3 l1 b4 l2 d ++ [.cells 76 [] .own]) := by kernel_rfl
theorem catch_slots {G : Gh} {w : World} {x0 x1 x2 x3 x4 : AV} {tm : Array Value} (hs : tm.size = 24) (h0 : x0.is G w (tm.getD 0 undef)) (h1 : x1.is G w (tm.getD 1 undef)) (h2 : x2.is G w (tm.getD 2 undef)) (h3 : x3.is G w (tm.getD 3 undef)) {v : Value} (h4 : x4.is G w v) :
    ((tm.setIfInBounds 7 v).setIfInBounds 4 v).size = ([x0, x1, x2, x3, x4] ++ List.replicate 19 AV.junk).length ∧ ∀ t, (([x0, x1, x2, x3, x4] ++ List.replicate 19 AV.junk).getD t .junk).is G w (((tm.setIfInBounds 7 v).setIfInBounds 4 v).getD t undef) := by
  refine ⟨by simp [hs], fun t => ?_⟩
  have e : ∀ t, t ≠ 4 → t ≠ 7 → ((tm.setIfInBounds 7 v).setIfInBounds 4 v).getD t undef = tm.getD t undef := fun t h4 h7 => by
    simp [Array.getD_eq_getD_getElem?, Array.getElem?_setIfInBounds, Ne.symm h4, Ne.symm h7]
  match t with
  | 0 => rw [e 0 (by omega) (by omega)]; exact h0
  | 1 => rw [e 1 (by omega) (by omega)]; exact h1
  | 2 => rw [e 2 (by omega) (by omega)]; exact h2
  | 3 => rw [e 3 (by omega) (by omega)]; exact h3
  | 4 =>
    have : ((tm.setIfInBounds 7 v).setIfInBounds 4 v).getD 4 undef = v := by simp [Array.getD_eq_getD_getElem?, Array.getElem?_setIfInBounds, hs]
    rw [this]; exact h4
  | t + 5 =>
    have : ([x0, x1, x2, x3, x4] ++ List.replicate 19 AV.junk).getD (t + 5) .junk = .junk := by
      rw [List.getD_eq_getElem?_getD, List.getElem?_append_right (by simp), List.getElem?_replicate]
      split <;> rfl
    rw [this]; trivial
theorem catch_end {tm : Array Value} {w : World} : (results Tryz.f39 tm).run Tryz.prog w = .ok (.tuple #[]) w := by
  rw [results_resV, show Tryz.f39.results = #[] by kernel_rfl]
  simp
theorem catch_idle {B : Nat} {wB : World} (stab : ∀ w', Bel B wB w' → GW w') {G : Gh} {h : Hp} {w : World} (H : HRep G B h w) (hΛ : G.lay = lay) (hb : Bel B wB w) (p0 p1 p2 p3 : Value) :
    CallsD Tryz.prog 39 #[p0, p1, p2, p3] .returning w fun e u' w' => e = .returned (.tuple #[]) ∧ u' = .returning ∧ ∃ G', HRep G' B h w' ∧ Mv B wB G w G' w' := by
  refine callsD_of_wpS Tryz.func39 catch_body fun c₀ cs hu => ?_
  apply wpS_seq
  unfold catch_0
  apply wpS_region
  generalize hq : (bodyPostS Tryz.prog Tryz.f39 c₀ cs fun e u' w' => e = .returned (.tuple #[]) ∧ u' = .returning ∧ ∃ G', HRep G' B h w' ∧ Mv B wB G w G' w') = Q
  have hsz : (#[p0, p1, p2, p3] ++ Array.replicate (Tryz.f39.ntmps - (#[p0, p1, p2, p3] : Array Value).size) undef).size = 24 := by simp [show Tryz.f39.ntmps = 24 by kernel_rfl]
  generalize (#[p0, p1, p2, p3] ++ Array.replicate (Tryz.f39.ntmps - (#[p0, p1, p2, p3] : Array Value).size) undef) = tm at hsz
  simp [wpOpsS, go_sem, recoverD, hu, Exit.thenS, hsz]
  refine wpS_of_wp ?_
  obtain ⟨fr', h', hk, hW⟩ := plain_path stab catch_loops (catch_runI h.length h)
  cases hk
  obtain ⟨q1, q2⟩ := catch_slots (G := G) (w := w) (x0 := .junk) (x1 := .junk) (x2 := .junk) (x3 := .junk) (x4 := .val .nilIface) hsz trivial trivial trivial trivial (v := .nilIface) (by simp [AV.is])
  refine hW [] G w G _ w _ (by rw [H.len]; exact Nat.le_refl _) ⟨q1, q2, H, fun g i q => by simp at q, rfl, hΛ, .refl hb⟩ fun G' a' w' S' => ?_
  subst hq
  refine ⟨S'.defs, .returning, ?_, .tuple #[], catch_end, rfl, rfl, G', S'.heap, S'.mv⟩
  cases c₀; simp_all

theorem catch_it {B : Nat} {wB : World} (stab : ∀ w', Bel B wB w' → GW w') {G : Gh} {b1 b2 : ByteArray} {i1 i2 : Int} {s : ByteArray} {n m : Int} {b3 : ByteArray} {l1 : List (List D)} {b4 : ByteArray} {l2 : List (List D)} {d : Bool} {w : World}
    (H : HRep G B (caught b1 b2 i1 i2 s n m b3 l1 b4 l2 d) w) (hΛ : G.lay = lay) (hb : Bel B wB w) (p0 p1 p2 p3 : Value) (h0 : (AV.ptr 4 0).is G w p0) (h1 : (AV.ptr 0 0).is G w p1) (h2 : (AV.ptr 1 0).is G w p2) (h3 : (AV.ptr 2 0).is G w p3) :
    CallsD Tryz.prog 39 #[p0, p1, p2, p3] (.panicking [⟨.iface 76 (.agg #[]), false, false⟩]) w fun e u' w' => e = .returned (.tuple #[]) ∧ u' = .panicking [⟨.iface 76 (.agg #[]), true, false⟩] ∧
      ∃ G', HRep G' B (caught ⟨#[]⟩ ⟨#[]⟩ n 201 s n m b3 l1 b4 l2 d ++ [.cells 76 [] .own]) w' ∧ Mv B wB G w G' w' := by
  refine callsD_of_wpS Tryz.func39 catch_body fun c₀ cs hu => ?_
  apply wpS_seq
  unfold catch_0
  apply wpS_region
  generalize hq : (bodyPostS Tryz.prog Tryz.f39 c₀ cs fun e u' w' => e = .returned (.tuple #[]) ∧ u' = .panicking [⟨.iface 76 (.agg #[]), true, false⟩] ∧
      ∃ G', HRep G' B (caught ⟨#[]⟩ ⟨#[]⟩ n 201 s n m b3 l1 b4 l2 d ++ [.cells 76 [] .own]) w' ∧ Mv B wB G w G' w') = Q
  have hsz : (#[p0, p1, p2, p3] ++ Array.replicate (Tryz.f39.ntmps - (#[p0, p1, p2, p3] : Array Value).size) undef).size = 24 := by simp [show Tryz.f39.ntmps = 24 by kernel_rfl]
  have t0 : (#[p0, p1, p2, p3] ++ Array.replicate (Tryz.f39.ntmps - (#[p0, p1, p2, p3] : Array Value).size) undef).getD 0 undef = p0 := by simp [Array.getD_eq_getD_getElem?]
  have t1 : (#[p0, p1, p2, p3] ++ Array.replicate (Tryz.f39.ntmps - (#[p0, p1, p2, p3] : Array Value).size) undef).getD 1 undef = p1 := by simp [Array.getD_eq_getD_getElem?]
  have t2 : (#[p0, p1, p2, p3] ++ Array.replicate (Tryz.f39.ntmps - (#[p0, p1, p2, p3] : Array Value).size) undef).getD 2 undef = p2 := by simp [Array.getD_eq_getD_getElem?]
  have t3 : (#[p0, p1, p2, p3] ++ Array.replicate (Tryz.f39.ntmps - (#[p0, p1, p2, p3] : Array Value).size) undef).getD 3 undef = p3 := by simp [Array.getD_eq_getD_getElem?]
  generalize (#[p0, p1, p2, p3] ++ Array.replicate (Tryz.f39.ntmps - (#[p0, p1, p2, p3] : Array Value).size) undef) = tm at hsz t0 t1 t2 t3
  simp [wpOpsS, go_sem, recoverD, hu, Exit.thenS, hsz]
  refine wpS_of_wp ?_
  obtain ⟨fr', h', hk, hW⟩ := plain_path stab catch_loops (catch_runP b1 b2 i1 i2 s n m b3 l1 b4 l2 d)
  simp only [Option.some.injEq] at hk
  subst hk
  obtain ⟨q1, q2⟩ := catch_slots (G := G) (w := w) (x0 := .ptr 4 0) (x1 := .ptr 0 0) (x2 := .ptr 1 0) (x3 := .ptr 2 0) (x4 := .ifc 76 (.agg [])) hsz (by rw [t0]; exact h0) (by rw [t1]; exact h1) (by rw [t2]; exact h2) (by rw [t3]; exact h3) (v := .iface 76 (.agg #[])) (by simp [AV.is, AV.isL])
  refine hW [] G w G _ w _ (by rw [← H.len]; simp [caught]) ⟨q1, q2, H, fun g i q => by simp at q, rfl, hΛ, .refl hb⟩ fun G' a' w' S' => ?_
  subst hq
  exact ⟨S'.defs, _, rfl, .tuple #[], catch_end, rfl, rfl, G', S'.heap, S'.mv⟩

theorem hrep_relabel {G : Gh} {B : Nat} {h : Hp} {w : World} (H : HRep G B h w) {i : Nat} {t : TypeId} {l l' : List AV} {md : Md} (hi : h[i]? = some (.cells t l md)) (hl : ∀ c : List Value, AV.isL G w l c → AV.isL G w l' c) : HRep G B (h.set i (.cells t l' md)) w := by
  have hget : ∀ {j : Nat} {c : Blk}, (h.set i (.cells t l' md))[j]? = some c → (j = i ∧ c = .cells t l' md) ∨ h[j]? = some c := fun {j c} hj => by
    rw [List.getElem?_set] at hj
    by_cases q : i = j
    · rw [if_pos q] at hj
      split at hj
      · cases hj; exact .inl ⟨q.symm, rfl⟩
      · cases hj
    · rw [if_neg q] at hj; exact .inr hj
  refine ⟨by simpa using H.len, fun j c hj => ?_, fun j c hj ho g hg => ?_, H.inj, H.lt, H.imm⟩
  · rcases hget hj with ⟨rfl, rfl⟩ | q
    · obtain ⟨a1, a2, c, a3, a4⟩ := H.blk j _ hi
      exact ⟨a1, a2, c, a3, hl _ a4⟩
    · exact H.blk j c q
  · rcases hget hj with ⟨rfl, rfl⟩ | q
    · exact H.own j _ hi (by cases md <;> first | exact ho | rfl) g hg
    · exact H.own j c q ho g hg

theorem parse_open {G : Gh} {w0 w : World} {s : ByteArray} {a : Act} {d : Deferred} {G0 : Gh} (S : St lay w0.heap.size w0 [] [] G0 w0 G (zL.fr s) (parse_hpB s) a w) {v : Value} :
    ∃ G', St lay w0.heap.size w0 [] [d] G w G' (zL.fr s) (zL.hp s) { tmps := (a.put (some 10) v).tmps, defers := d :: a.defers } w := by
  have hn : G.n = 5 := by rw [← S.heap.len]; rfl
  have S1 := S.put (some 10) (av := .junk) (v := v) trivial
  have hfr : putA (zL.fr s) (some 10) .junk = zL.fr s := rfl
  rw [hfr] at S1
  obtain ⟨H1, hle⟩ := S.heap.push (a := 0) (r := .slice none 0 0) (f := []) (b := .trow 27 0 []) (Nat.le_refl _) (fun _ _ => rfl) (fun g hg => by cases hg) S.bel.size
    ⟨by simp [Gh.push], fun i x hx => by simp at hx, fun g hg => by simp [Gh.push, Value.ownBlock] at hg, fun g hg => by simp [Gh.push] at hg, by simp [Gh.push],
      [], [], by simpa [Gh.push] using World.ownsRow_nil w w0.heap.size 27 _, fun i j x d k hx => by simp at hx, rfl, by simp [Gh.push, Value.ownBlock], fun i x hx => by simp at hx⟩
  have m1 : Mv w0.heap.size w0 G w (G.push 0 (.slice none 0 0) []) w := .push hle S.bel (Nat.le_refl _) (fun _ _ => rfl) (fun g hg => by cases hg)
  have H2 := hrep_relabel H1 (i := 3) (l' := [.str s, .int .i64 0, .int .i64 0, .rs 5 0, .str ⟨#[]⟩, .val (.slice none 0 0), .str ⟨#[]⟩, .val (.slice none 0 0), .bool false]) rfl (fun c hc => by
    simp only [AV.isL] at hc ⊢
    obtain ⟨v0, r0, e0, b0, v1, r1, e1, b1, v2, r2, e2, b2, v3, r3, e3, b3, rest⟩ := hc
    refine ⟨v0, r0, e0, b0, v1, r1, e1, b1, v2, r2, e2, b2, v3, r3, e3, ?_, rest⟩
    simp only [AV.is] at b3 ⊢
    subst b3
    refine ⟨by simp [Gh.push, hn], Nat.zero_le _, ⟨none, 0, 0, rfl⟩, fun _ => by simp [Gh.push, hn]⟩)
  refine ⟨_, S1.size, fun t => AV.is_mono hle _ _ (S1.slot t), H2, fun g i q => by simp at q, by simp [S.defs], by rw [hle.lay]; exact S.lay, m1⟩

theorem parse_finish {G0 G : Gh} {w0 w : World} {imm : Nat → Nat → Prop} {h : Hp} (hi : G0.imm = imm) (H : HRep G w0.heap.size h w) (hΛ : G.lay = lay) (m : Mv w0.heap.size w0 G0 w0 G w) {ks : List AK} {τ : Type} {v : AV} {dec : Res → Option τ} {r : τ}
    (hf : finA lay ks (.ret v) h dec = some r) {u : Value} (hu : v.is G w u) : ∃ res, dec res = some r ∧ ∃ G', G'.lay = lay ∧ After imm w0 G'.imm w ∧ res.isE G' w (.returned u) := by
  obtain ⟨res', hk', hfin⟩ := finA_ok H hΛ hf
  obtain ⟨S, hS, hE'⟩ := hfin (.returned u) ⟨u, rfl, hu⟩
  obtain ⟨G2, H2, m2, s2, i2, _, _⟩ := freeze_mv H m.below (frzD_of hS)
  subst hi
  exact ⟨res', hk', { G with imm := immR G S }, hΛ, ⟨fun b o q => .inl (m.le.imm b o q), fun b o hb q => m.old b o hb (m2.old b o hb ((i2 b o).2 q)), fun b o q => H2.imm b o ((i2 b o).2 q), m.below.below⟩, hE'⟩

theorem parse_results (tm : Array Value) {B : Nat} {wB : World} {ds : List Deferred} {G0 G : Gh} {w0 w : World} {fr : Fr} {h : Hp} (S : St lay B wB [] ds G0 w0 G fr h { tmps := tm, defers := ds } w) {l : List AV} (hl : resA Tryz.prog lay fr h [.cell 2 27, .cell 3 3, .cell 4 30] = some l) :
    ∃ v, (results Tryz.f23 tm).run Tryz.prog w = .ok v w ∧ (oneA l).is G w v := St.results S (fn := Tryz.f23) (by rw [show Tryz.f23.results = #[ResultVar.cell 2 27, ResultVar.cell 3 3, ResultVar.cell 4 30] by kernel_rfl]; exact hl)

theorem zL.ok (k : Nat) : CEOk Tryz.prog GW lay 23 (zL.ce (zL.f k)) := by
  refine ⟨fun args w => by kernel_rfl, fun args τ x out sel ok r hs hx G w vs hlay hw himm hl => ?_⟩
  unfold zL.ce zL.tells at hs
  simp only at hs
  split at hs
  · rename_i a0
    cases hs
    have stab : ∀ w', Bel w.heap.size w w' → GW w' := fun w' hb => hw.step hb.below
    simp only [AV.isL, AV.is] at hl
    obtain ⟨v0, r0, e0, rfl, e1⟩ := hl
    have hvs : vs = #[.string a0] := by
      apply Array.ext'
      rw [e0, e1]
    subst hvs
    refine calls_of_wp_defers Tryz.func23 parse_body ?_
    obtain ⟨G0, hG0, hl0, H0, _⟩ := no_globals (Λ := lay) (GW := GW) G.imm w hw himm
    have hn0 : G0.n = 0 := by rw [← H0.len]; rfl
    have htm : (#[Value.string a0] ++ Array.replicate (Tryz.f23.ntmps - (#[Value.string a0] : Array Value).size) undef).size = 45 ∧ (#[Value.string a0] ++ Array.replicate (Tryz.f23.ntmps - (#[Value.string a0] : Array Value).size) undef).getD 0 undef = .string a0 := by simp [show Tryz.f23.ntmps = 45 by kernel_rfl, Array.getD_eq_getD_getElem?]
    generalize (#[Value.string a0] ++ Array.replicate (Tryz.f23.ntmps - (#[Value.string a0] : Array Value).size) undef) = tm at htm
    have S0 : St lay w.heap.size w [] [] G0 w G0 (parse_fr0 a0) [] { tmps := tm, defers := [] } w := by
      refine ⟨by simp [parse_fr0, htm.1], fun t => ?_, H0, fun g i q => by simp at q, rfl, hl0, .refl ⟨Below.refl _ _, Nat.le_refl _⟩⟩
      match t with
      | 0 => show AV.is G0 w (.str a0) (tm.getD 0 undef); rw [htm.2]; simp [AV.is]
      | t + 1 =>
        have : (parse_fr0 a0).getD (t + 1) .junk = .junk := by
          unfold parse_fr0
          rw [List.getD_eq_getElem?_getD, List.getElem?_append_right (by simp), List.getElem?_replicate]
          split <;> rfl
        rw [this]; trivial
    obtain ⟨fr1, h1, hk1, hW1⟩ := plain_path stab parse_loops0 (parse_run0 a0)
    simp only [Option.some.injEq, Prod.mk.injEq] at hk1
    obtain ⟨rfl, rfl⟩ := hk1
    obtain ⟨fr2, h2, hk2, hW2⟩ := plain_path stab parse_loops1 (parse_run1 a0)
    simp only [Option.some.injEq, Prod.mk.injEq] at hk2
    obtain ⟨rfl, rfl⟩ := hk2
    refine wp_seq (hW1 [] G0 w G0 _ w _ (by omega) S0 fun G1 a1 w1 S1 => ?_)
    refine wp_seq (hW2 [] G0 w G1 a1 w1 _ (by omega) S1 fun G2 a2 w2 S2 => ?_)
    refine wp_seq (pre2_wp (by rw [S2.size]; rfl) ?_)
    obtain ⟨G3, S3⟩ := parse_open (d := { target := .fn (.func 39) #[a2.tmps.getD 5 undef, a2.tmps.getD 2 undef, a2.tmps.getD 3 undef, a2.tmps.getD 4 undef], args := #[] }) S2 (v := .func (.func 39) #[] #[a2.tmps.getD 5 undef, a2.tmps.getD 2 undef, a2.tmps.getD 3 undef, a2.tmps.getD 4 undef])
    have hn2 : G2.n = 5 := by rw [← S2.heap.len]; rfl
    have g5 := S2.slot 5
    have g2 := S2.slot 2
    have g3 := S2.slot 3
    have g4 := S2.slot 4
    rw [show (zL.fr a0).getD 5 .junk = .ptr 4 0 from rfl] at g5
    rw [show (zL.fr a0).getD 2 .junk = .ptr 0 0 from rfl] at g2
    rw [show (zL.fr a0).getD 3 .junk = .ptr 1 0 from rfl] at g3
    rw [show (zL.fr a0).getD 4 .junk = .ptr 2 0 from rfl] at g4
    dsimp only [Act.put] at S3
    generalize a2.tmps.getD 5 undef = p5 at g5 S3 ⊢
    generalize a2.tmps.getD 2 undef = p2 at g2 S3 ⊢
    generalize a2.tmps.getD 3 undef = p3 at g3 S3 ⊢
    generalize a2.tmps.getD 4 undef = p4 at g4 S3 ⊢
    refine zL.goes k a0 hx stab _ G2 w2 G3 _ w2 _ (by omega) S3 (fun d hd => by cases hd) fun e fr' h' G' a' w' hk S' => ?_
    have hdefs := S'.defs
    obtain ⟨tm', df'⟩ := a'
    dsimp only at hdefs
    subst hdefs
    have g5' := AV.is_mono S'.mv.le _ _ g5
    have g2' := AV.is_mono S'.mv.le _ _ g2
    have g3' := AV.is_mono S'.mv.le _ _ g3
    have g4' := AV.is_mono S'.mv.le _ _ g4
    -- what the results are, once the deferred call has run
    have fin : ∀ {G'' : Gh} {h'' : Hp} {w'' : World} {l : List AV}, St lay w.heap.size w [] [] G0 w G'' fr' h'' { tmps := tm', defers := [] } w'' → resA Tryz.prog lay fr' h'' [.cell 2 27, .cell 3 3, .cell 4 30] = some l →
        finA lay [.agg [.str, .seq 52, .str, .seq 27], .one (.int .i64), .one (.int .i64)] (.ret (.tup l)) h'' zL.dec = some r → l.length = 3 →
        ∃ v, (results Tryz.f23 tm').run Tryz.prog w'' = .ok v w'' ∧ ∃ imm', After G.imm w imm' w'' ∧ (zL.out r).isE { G with imm := imm' } w'' (.returned v) := fun {G'' h'' w'' l} S'' hl hf hlen => by
      obtain ⟨v, hv, hvis⟩ := parse_results tm' S'' hl
      have hone : oneA l = .tup l := by
        match l, hlen with
        | [_, _, _], _ => rfl
      rw [hone] at hvis
      obtain ⟨res, hres, GE, hGE, hA, hE⟩ := parse_finish hG0 S''.heap S''.lay S''.mv hf hvis
      have := zL.dec_ok res r hres
      subst this
      refine ⟨v, hv, GE.imm, hA, ?_⟩
      obtain ⟨u, hu, hq⟩ := hE
      exact ⟨u, hu, AV.free_is (G := GE) (G' := { G with imm := GE.imm }) (by rw [hGE, hlay]) (fun _ _ q => q) _ _ (by exact zL.out_free r) hq⟩
    cases e with
    | ret =>
      simp only [zL.K] at hk
      split at hk
      · rename_i l hl
        have hlen : l.length = 3 := by
          simp only [resA] at hl
          repeat' (split at hl)
          all_goals first | (cases hl; done) | skip
          all_goals (simp only [Option.map_eq_some_iff] at *)
          all_goals grind
        show Leaves _ _ _ _ _ _ _
        refine leaves_cons (f := 39) (args := #[p5, p2, p3, p4]) (by simp) (by simp [go_sem]) ?_
        refine (catch_idle stab S'.heap S'.lay S'.bel p5 p2 p3 p4).mono ?_
        rintro e u' w'' ⟨rfl, rfl, G'', H'', m''⟩
        have S'' : St lay w.heap.size w [] [] G0 w G'' fr' h' { tmps := tm', defers := [] } w'' :=
          ⟨S'.size, fun t => AV.is_mono m''.le _ _ (S'.slot t), H'', fun g i q => by simp at q, rfl, by rw [m''.le.lay]; exact S'.lay, (S2.mv.trans S'.mv).trans m''⟩
        obtain ⟨v, hv, hR⟩ := fin S'' hl hk hlen
        exact ⟨v, hv, hR⟩
      · cases hk
    | panic ch =>
      simp only [zL.K] at hk
      cases hc : (panSame ch [⟨.iface 76 (.agg #[]), false, false⟩] && zL.at_ fr') with
      | false => rw [hc] at hk; cases hk
      | true =>
        rw [hc] at hk
        simp only [cond_true] at hk
        simp only [Bool.and_eq_true] at hc
        obtain ⟨hp, hat⟩ := hc
        have := panSame_eq hp
        subst this
        split at hk
        · rename_i n hn
          cases hk
          unfold zL.from_ at hn
          split at hn
          · rename_i b1 b2 i1 i2 s' n' m' b3 l1 b4 l2 d'
            cases hn
            show Leaves _ _ _ _ _ _ _
            refine leaves_cons (f := 39) (args := #[p5, p2, p3, p4]) (by simp) (by simp [go_sem]) ?_
            refine (catch_it (b1 := b1) (b2 := b2) (i1 := i1) (i2 := i2) (s := s') (n := n) (m := m') (b3 := b3) (l1 := l1) (b4 := b4) (l2 := l2) (d := d') stab S'.heap S'.lay S'.bel p5 p2 p3 p4 g5' g2' g3' g4').mono ?_
            rintro e u' w'' ⟨rfl, rfl, G'', H'', m''⟩
            have S'' : St lay w.heap.size w [] [] G0 w G'' fr' _ { tmps := tm', defers := [] } w'' :=
              ⟨S'.size, fun t => AV.is_mono m''.le _ _ (S'.slot t), H'', fun g i q => by simp at q, rfl, by rw [m''.le.lay]; exact S'.lay, (S2.mv.trans S'.mv).trans m''⟩
            unfold zL.at_ at hat
            split at hat
            · rename_i f2 f3 f4
              obtain ⟨v, hv, hR⟩ := fin (l := [.agg [.str ⟨#[]⟩, .val (.slice none 0 0), .str ⟨#[]⟩, .val (.slice none 0 0)], .int .i64 n, .int .i64 201]) S'' (by
                simp only [resA, f2, f3, f4]
                kernel_rfl) (by kernel_rfl) rfl
              exact ⟨v, hv, hR⟩
            · cases hat
          · cases hn
        · cases hk
    | normal => cases hk
    | exit i => cases hk
    | goto i => cases hk
    | outgrown => cases hk
  · cases hs
end Go.Proofs.YtphlamnaaogmaaaGreatDoor.M
