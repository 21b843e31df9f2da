/- The small machine: what a function tells, for its callers. -/
import Derived.Test.YtajbnfidcpfonaaDoorR5
namespace Go.Proofs.Rx
open Go Go.RowKit
set_option linter.unusedVariables false
set_option linter.unusedSimpArgs false

mutual
/-- It points into no local block. -/
def AV.free : AV → Bool
  | .ptr .. => false
  | .sl .. => false
  | .agg l => AV.freeL l
  | .tup l => AV.freeL l
  | .fn _ l m => AV.freeL l && AV.freeL m
  | _ => true
def AV.freeL : List AV → Bool
  | [] => true
  | a :: l => a.free && AV.freeL l
end

mutual
theorem AV.free_is {G G' : Gh} {w : World} (hi : ∀ b o, G.imm b o → G'.imm b o) : ∀ (a : AV) (v : Value), a.free = true → a.is G w v → a.is G' w v
  | .junk, _, _, _ => trivial
  | .int .., _, _, h => by simpa [AV.is] using h
  | .bool .., _, _, h => by simpa [AV.is] using h
  | .str .., _, _, h => by simpa [AV.is] using h
  | .ptr .., _, hf, _ => by simp [AV.free] at hf
  | .sl .., _, hf, _ => by simp [AV.free] at hf
  | .agg l, v, hf, h => by
    simp only [AV.is] at h ⊢
    obtain ⟨a, e, hl⟩ := h
    exact ⟨a, e, AV.freeL_is hi l _ (by simpa [AV.free] using hf) hl⟩
  | .tup l, v, hf, h => by
    simp only [AV.is] at h ⊢
    obtain ⟨a, e, hl⟩ := h
    exact ⟨a, e, AV.freeL_is hi l _ (by simpa [AV.free] using hf) hl⟩
  | .fn f l m, v, hf, h => by
    simp only [AV.is] at h ⊢
    obtain ⟨a, b, e, hl, hm⟩ := h
    simp only [AV.free, Bool.and_eq_true] at hf
    exact ⟨a, b, e, AV.freeL_is hi l _ hf.1 hl, AV.freeL_is hi m _ hf.2 hm⟩
  | .val _, _, _, h => by simpa [AV.is] using h
  | .seq c l, v, _, h => by
    simp only [AV.is] at h ⊢
    exact h.mono hi (fun _ _ _ => rfl)
theorem AV.freeL_is {G G' : Gh} {w : World} (hi : ∀ b o, G.imm b o → G'.imm b o) : ∀ (l : List AV) (vs : List Value), AV.freeL l = true → AV.isL G w l vs → AV.isL G' w l vs
  | [], _, _, h => by simpa [AV.isL] using h
  | a :: l, vs, hf, h => by
    simp only [AV.isL] at h ⊢
    obtain ⟨v, r, e, ha, hl⟩ := h
    simp only [AV.freeL, Bool.and_eq_true] at hf
    exact ⟨v, r, e, AV.free_is hi a v hf.1 ha, AV.freeL_is hi l r hf.2 hl⟩
end

section
variable {P : Program} {GW : World → Prop}

theorem allOk_nil : AllOk P GW [] := fun f s h => by simp at h
theorem allOk_cons {f : Nat} {s : Tells} {Γ : List (Nat × Tells)} (h : TellsOk P GW f s) (hs : AllOk P GW Γ) : AllOk P GW ((f, s) :: Γ) := fun g t hg => by
  rw [List.lookup_cons] at hg
  split at hg
  · rename_i e
    cases hg
    obtain rfl : g = f := by simpa using e
    exact h
  · exact hs g t hg

/-- What the machine answers for a function it tells its callers. -/
theorem tells_mk (hm : P.follows .mixedOrders = true) {Γ : List (Nat × Tells)} (hΓ : AllOk P GW Γ) {f : FuncId} {fn : Func} (hf : P.funcs[f]? = some fn)
    (hcf : ∀ args w, (callFunc f args).run P w = .ok (.enter f args) w) (stab : ∀ w w', GW w → Below w.heap.size w w' → GW w') {gl : List (Nat × Nat)} {h0 : Hp}
    (hg : ∀ (imm : Nat → Nat → Prop) (w : World), GW w → (∀ b o, imm b o → b < w.heap.size) → ∃ G : Gh, G.imm = imm ∧ HRep G w.heap.size h0 w ∧ ∀ g i, gl.lookup g = some i → i < G.n ∧ G.at_ i = g) {s : Tells}
    (h : ∀ (args : List AV) (τ : Type) (x : Option τ) (out : τ → AV) (r : τ), s args = some (.mk τ x out) → x = some r → AV.freeL args = true ∧ (out r).free = true ∧ ∃ J n, runA P Γ gl J n fn args h0 = some (out r)) : TellsOk P GW f s := by
  refine ⟨hcf, fun args τ x out r hs hx G w vs hw himm hl => ?_⟩
  obtain ⟨hfa, hfr, J, n, hr⟩ := h args τ x out r hs hx
  obtain ⟨G0, hG0, H, hgl⟩ := hg G.imm w hw himm
  have hl0 : AV.isL G0 w args vs.toList := AV.freeL_is (by rw [hG0]; exact fun _ _ q => q) _ _ hfa hl
  refine (runA_sound hm hΓ hf hr (fun w' hb => stab w w' hw hb) H hgl hl0).mono ?_
  rintro e w' ⟨G', v, rfl, hv, hb, h1, h2, h3⟩
  rw [hG0] at h1 h2
  exact ⟨⟨G.at_, G.n, G'.imm⟩, v, rfl, ⟨rfl, rfl, h1, h2, h3, hb⟩, AV.free_is (G := G') (G' := ⟨G.at_, G.n, G'.imm⟩) (fun _ _ q => q) _ _ hfr hv⟩

/-- No package variable is looked at. -/
theorem no_globals (imm : Nat → Nat → Prop) (w : World) (_ : GW w) (hi : ∀ b o, imm b o → b < w.heap.size) :
    ∃ G : Gh, G.imm = imm ∧ HRep G w.heap.size [] w ∧ ∀ g i, ([] : List (Nat × Nat)).lookup g = some i → i < G.n ∧ G.at_ i = g :=
  ⟨⟨fun _ => 0, 0, imm⟩, rfl, ⟨rfl, fun i b hi => by simp at hi, fun i j hi => absurd hi (Nat.not_lt_zero _), hi⟩, fun g i q => by simp at q⟩

/-- A law's walk. -/
theorem law_mk (hm : P.follows .mixedOrders = true) {Γ : List (Nat × Tells)} (hΓ : AllOk P GW Γ) {f : FuncId} {fn : Func} (hf : P.funcs[f]? = some fn)
    (stab : ∀ w w', GW w → Below w.heap.size w w' → GW w') {gl : List (Nat × Nat)} {h0 : Hp}
    (hg : ∀ (imm : Nat → Nat → Prop) (w : World), GW w → (∀ b o, imm b o → b < w.heap.size) → ∃ G : Gh, G.imm = imm ∧ HRep G w.heap.size h0 w ∧ ∀ g i, gl.lookup g = some i → i < G.n ∧ G.at_ i = g)
    {args : List AV} {J : List (Nat × List Nat)} {n : Nat} (hr : runA P Γ gl J n fn args h0 = some (.bool true)) {w : World} (hw : GW w) {vs : Array Value}
    (hl : ∀ G : Gh, G.imm = (fun b _ => b < w.heap.size) → AV.isL G w args vs.toList) : Calls P f vs w fun e w' => e = .returned (.bool true) ∧ Below w.heap.size w w' := by
  obtain ⟨G0, hG0, H, hgl⟩ := hg (fun b _ => b < w.heap.size) w hw (fun _ _ q => q)
  refine (runA_sound hm hΓ hf hr (fun w' hb => stab w w' hw hb) H hgl (hl G0 hG0)).mono ?_
  rintro e w' ⟨G', v, rfl, hv, hb, _⟩
  simp only [AV.is] at hv
  subst hv
  exact ⟨rfl, hb⟩

/-- From a contract of another hand, of a callee that turns no old memory. -/
theorem tells_of {f : FuncId} {s : Tells} (hcf : ∀ args w, (callFunc f args).run P w = .ok (.enter f args) w)
    (h : ∀ (args : List AV) (τ : Type) (x : Option τ) (out : τ → AV) (r : τ), s args = some (.mk τ x out) → x = some r → ∀ (G : Gh) (w : World) (vs : Array Value), GW w → AV.isL G w args vs.toList →
      ∃ v, Calls P f vs w (fun e w' => e = .returned v ∧ Below w.heap.size w w') ∧ ∀ G' w', G'.imm = G.imm → Below w.heap.size w w' → (out r).is G' w' v) : TellsOk P GW f s := by
  refine ⟨hcf, fun args τ x out r hs hx G w vs hw himm hl => ?_⟩
  obtain ⟨v, hc, hv⟩ := h args τ x out r hs hx G w vs hw hl
  refine hc.mono ?_
  rintro e w' ⟨rfl, hb⟩
  exact ⟨G, v, rfl, ⟨rfl, rfl, fun _ _ q => q, fun _ _ _ q => q, fun b o q => Nat.lt_of_lt_of_le (himm b o q) hb.size, hb⟩, hv G w' rfl hb⟩

end

/-! ### values that hold no memory -/
mutual
def AV.den : AV → Value
  | .int k n => .int k n
  | .bool b => .bool b
  | .str s => .string s
  | .agg l => .agg (AV.denL l).toArray
  | .tup l => .tuple (AV.denL l).toArray
  | .fn f l m => .func (.func f) (AV.denL l).toArray (AV.denL m).toArray
  | .val v => v
  | _ => undef
def AV.denL : List AV → List Value
  | [] => []
  | a :: l => a.den :: AV.denL l
end
mutual
def AV.simple : AV → Bool
  | .int .. => true
  | .bool .. => true
  | .str .. => true
  | .agg l => AV.simpleL l
  | .tup l => AV.simpleL l
  | .fn _ l m => AV.simpleL l && AV.simpleL m
  | .val _ => true
  | _ => false
def AV.simpleL : List AV → Bool
  | [] => true
  | a :: l => a.simple && AV.simpleL l
end

mutual
theorem AV.den_is (G : Gh) (w : World) : ∀ (a : AV) (v : Value), a.simple = true → (a.is G w v ↔ v = a.den)
  | .junk, _, h => by simp [AV.simple] at h
  | .ptr .., _, h => by simp [AV.simple] at h
  | .sl .., _, h => by simp [AV.simple] at h
  | .seq .., _, h => by simp [AV.simple] at h
  | .int .., _, _ => by simp only [AV.is, AV.den]
  | .bool .., _, _ => by simp only [AV.is, AV.den]
  | .str .., _, _ => by simp only [AV.is, AV.den]
  | .val .., _, _ => by simp only [AV.is, AV.den]
  | .agg l, v, h => by
    simp only [AV.is, AV.den]
    constructor
    · rintro ⟨a, rfl, hl⟩
      rw [(AV.denL_is G w l _ (by simpa [AV.simple] using h)).1 hl |>.symm]
    · rintro rfl
      exact ⟨_, rfl, (AV.denL_is G w l _ (by simpa [AV.simple] using h)).2 rfl⟩
  | .tup l, v, h => by
    simp only [AV.is, AV.den]
    constructor
    · rintro ⟨a, rfl, hl⟩
      rw [(AV.denL_is G w l _ (by simpa [AV.simple] using h)).1 hl |>.symm]
    · rintro rfl
      exact ⟨_, rfl, (AV.denL_is G w l _ (by simpa [AV.simple] using h)).2 rfl⟩
  | .fn f l m, v, h => by
    simp only [AV.simple, Bool.and_eq_true] at h
    simp only [AV.is, AV.den]
    constructor
    · rintro ⟨a, b, rfl, hl, hm⟩
      rw [(AV.denL_is G w l _ h.1).1 hl |>.symm, (AV.denL_is G w m _ h.2).1 hm |>.symm]
    · rintro rfl
      exact ⟨_, _, rfl, (AV.denL_is G w l _ h.1).2 rfl, (AV.denL_is G w m _ h.2).2 rfl⟩
theorem AV.denL_is (G : Gh) (w : World) : ∀ (l : List AV) (vs : List Value), AV.simpleL l = true → (AV.isL G w l vs ↔ vs = AV.denL l)
  | [], vs, _ => by simp only [AV.isL, AV.denL]
  | a :: l, vs, h => by
    simp only [AV.simpleL, Bool.and_eq_true] at h
    simp only [AV.isL, AV.denL]
    constructor
    · rintro ⟨v, r, rfl, ha, hl⟩
      rw [(AV.den_is G w a v h.1).1 ha, (AV.denL_is G w l r h.2).1 hl]
    · rintro rfl
      exact ⟨_, _, rfl, (AV.den_is G w a _ h.1).2 rfl, (AV.denL_is G w l _ h.2).2 rfl⟩
end

/-- From a contract of another hand, over values that hold no memory. -/
theorem tells_simple {P : Program} {GW : World → Prop} {f : FuncId} {s : Tells} (hcf : ∀ args w, (callFunc f args).run P w = .ok (.enter f args) w)
    (h : ∀ (args : List AV) (τ : Type) (x : Option τ) (out : τ → AV) (r : τ), s args = some (.mk τ x out) → x = some r → AV.simpleL args = true ∧ (out r).simple = true ∧
      ∀ w, GW w → Calls P f (AV.denL args).toArray w (fun e w' => e = .returned (out r).den ∧ Below w.heap.size w w')) : TellsOk P GW f s :=
  tells_of hcf fun args τ x out r hs hx G w vs hw hl => by
    obtain ⟨h1, h2, h3⟩ := h args τ x out r hs hx
    have e : vs = (AV.denL args).toArray := by apply Array.ext'; simpa using (AV.denL_is G w args _ h1).1 hl
    subst e
    exact ⟨_, h3 w hw, fun G' w' _ _ => (AV.den_is G' w' _ _ h2).2 rfl⟩

/-- A contract for another hand. -/
theorem calls_of {P : Program} {GW : World → Prop} {f : FuncId} {s : Tells} (ht : TellsOk P GW f s) {args : List AV} {τ : Type} {x : Option τ} {out : τ → AV} {r : τ} (hs : s args = some (.mk τ x out)) (hx : x = some r)
    (h1 : AV.simpleL args = true) (h2 : (out r).simple = true) {w : World} (hw : GW w) : Calls P f (AV.denL args).toArray w (fun e w' => e = .returned (out r).den ∧ Below w.heap.size w w') := by
  refine (ht.2 args τ x out r hs hx ⟨fun _ => 0, 0, fun _ _ => False⟩ w (AV.denL args).toArray hw (fun _ _ q => q.elim) (by simpa using (AV.denL_is _ w args _ h1).2 rfl)).mono ?_
  rintro e w' ⟨G', v, rfl, ha, hv⟩
  rw [(AV.den_is G' w' _ _ h2).1 hv]
  exact ⟨rfl, ha.below⟩

/-- A law's walk, over values that hold no memory. -/
theorem law_simple {P : Program} {GW : World → Prop} (hm : P.follows .mixedOrders = true) {Γ : List (Nat × Tells)} (hΓ : AllOk P GW Γ) {f : FuncId} {fn : Func} (hf : P.funcs[f]? = some fn)
    (stab : ∀ w w', GW w → Below w.heap.size w w' → GW w') {args : List AV} {J : List (Nat × List Nat)} {n : Nat} (hr : runA P Γ [] J n fn args [] = some (.bool true)) (h1 : AV.simpleL args = true) {w : World} (hw : GW w) :
    Calls P f (AV.denL args).toArray w fun e w' => e = .returned (.bool true) ∧ Below w.heap.size w w' :=
  law_mk hm hΓ hf stab no_globals hr hw fun G _ => by simpa using (AV.denL_is G w args _ h1).2 rfl

/-! ### leaves -/
theorem map_bind' {α β γ : Type} (g : β → γ) (x : Option α) (f : α → Option β) : (x.bind f).map g = x.bind fun a => (f a).map g := by cases x <;> rfl
theorem map_cond {α β : Type} (g : α → β) (c : Bool) (x y : Option α) : (bif c then x else y).map g = bif c then x.map g else y.map g := by cases c <;> rfl
theorem map_ite {α β : Type} (g : α → β) (c : Prop) [Decidable c] (x y : Option α) : (if c then x else y).map g = if c then x.map g else y.map g := by split <;> rfl

end Go.Proofs.Rx
