/- A machine beside the model, proved to answer as the model does, for any program. No condition of any statement stands here. -/
import Derived.RegionTactic
import Derived.LoopN
import Derived.Below
import Derived.Laws.StructEq
import Derived.Laws.Cells
import Derived.Laws.AppendOwn
import Derived.WalkKit
/- A machine beside the model: it runs a Go function's code over values that are written out, and answers in plain Lean. That what it answers is what the model does is proved in these texts, for any program.
   Here: plain data, values, what they stand for in memory. No condition of any statement stands here. -/
namespace Go.Proofs.Qx
open Go Go.RowKit
set_option linter.unusedVariables false
set_option linter.unusedSimpArgs false

/-! ### plain data -/
/-- The kind of a cell; a slice names its elements' type. -/
inductive CK where
  | int (k : IntKind)
  | bool
  | str
  | seq (t : Nat)
  deriving Inhabited, DecidableEq
/-- What a cell holds; a slice holds elements, each of as many cells. -/
inductive D where
  | int (n : Int)
  | bool (b : Bool)
  | str (s : ByteArray)
  | seq (l : List (List D))
  deriving Inhabited
def D.toInt : D → Int | .int n => n | _ => 0
def D.toBool : D → Bool | .bool b => b | _ => false
def D.toStr : D → ByteArray | .str s => s | _ => .empty
def D.toSeq : D → List (List D) | .seq l => l | _ => []
/-- Cell j of element i. -/
def D.at (l : List (List D)) (i j : Nat) : D := (l.getD i []).getD j (.int 0)

/-! ### values -/
inductive AV where
  | junk
  | int (k : IntKind) (n : Int)
  | bool (b : Bool)
  | str (s : ByteArray)
  | ptr (b o : Nat)
  | agg (l : List AV)
  | tup (l : List AV)
  | fn (f : Nat) (first cap : List AV)
  | val (v : Value)
  | seq (t : Nat) (l : List (List D))
  | sl (b o n c : Nat)
  | rs (r v : Nat)
  | ep (r v m i o : Nat)
  | sp (t : Nat) (l : List (List D)) (i o : Nat)
  | ifc (t : Nat) (a : AV)
  | own (t : Nat) (l : List (List D))
  deriving Inhabited

/-- Where the local blocks lie, how many there are; which cells are written no more; the slices that grow, and how often each has turned; the places of each block; the layout of elements. -/
structure Gh where
  at_ : Nat → Nat
  n : Nat
  imm : Nat → Nat → Prop
  rv : Nat → Value
  ver : Nat → Nat
  ft : Nat → List Nat
  lay : Nat → List CK

/-- A cell of that kind holds that datum. -/
inductive CRep (lay : Nat → List CK) (imm : Nat → Nat → Prop) (w : World) : CK → D → Value → Prop where
  | int (k : IntKind) (n : Int) : CRep lay imm w (.int k) (.int n) (.int k n)
  | bool (b : Bool) : CRep lay imm w .bool (.bool b) (.bool b)
  | str (s : ByteArray) : CRep lay imm w .str (.str s) (.string s)
  | nil (t : Nat) : CRep lay imm w (.seq t) (.seq []) (.slice none 0 0)
  | seq (t : Nat) (l : List (List D)) (b o cap : Nat) (u : Nat → Nat → Value) (hcap : l.length ≤ cap)
      (hel : ∀ (i : Nat) (e : List D), l[i]? = some e → e.length = (lay t).length)
      (hat : ∀ (i j : Nat), i < l.length → j < (lay t).length → imm b (o + i * (lay t).length + j) ∧ w.cell? ⟨b, o + i * (lay t).length + j, none⟩ = some (u i j))
      (hrep : ∀ (i j : Nat) (e : List D) (d : D) (k : CK), l[i]? = some e → e[j]? = some d → (lay t)[j]? = some k → CRep lay imm w k d (u i j)) :
      CRep lay imm w (.seq t) (.seq l) (.slice (some ⟨b, o, none⟩) l.length cap)

theorem CRep.mono {lay : Nat → List CK} {imm imm' : Nat → Nat → Prop} {w w' : World} (hi : ∀ b o, imm b o → imm' b o) (hw : ∀ b o, imm b o → w'.cell? ⟨b, o, none⟩ = w.cell? ⟨b, o, none⟩)
    {k : CK} {d : D} {v : Value} (h : CRep lay imm w k d v) : CRep lay imm' w' k d v := by
  induction h with
  | int k n => exact .int k n
  | bool b => exact .bool b
  | str s => exact .str s
  | nil c => exact .nil c
  | seq c l b o cap u hcap hel hat hrep ih =>
    exact .seq c l b o cap u hcap hel (fun i j h1 h2 => ⟨hi _ _ (hat i j h1 h2).1, by rw [hw _ _ (hat i j h1 h2).1]; exact (hat i j h1 h2).2⟩) ih

/-- A place in an element that is written no more. -/
def SRep (lay : Nat → List CK) (imm : Nat → Nat → Prop) (w : World) (t : Nat) (l : List (List D)) (i o : Nat) (v : Value) : Prop :=
  ∃ b off, v = .pointer (some ⟨b, off + o, none⟩) ∧ ∀ j k, (lay t)[j]? = some k → imm b (off + j) ∧ ∃ u, w.cell? ⟨b, off + j, none⟩ = some u ∧ CRep lay imm w k (D.at l i j) u

theorem SRep.mono {lay : Nat → List CK} {imm imm' : Nat → Nat → Prop} {w w' : World} (hi : ∀ b o, imm b o → imm' b o) (hw : ∀ b o, imm b o → w'.cell? ⟨b, o, none⟩ = w.cell? ⟨b, o, none⟩)
    {t : Nat} {l : List (List D)} {i o : Nat} {v : Value} (h : SRep lay imm w t l i o v) : SRep lay imm' w' t l i o v := by
  obtain ⟨b, off, rfl, h⟩ := h
  refine ⟨b, off, rfl, fun j k hj => ?_⟩
  obtain ⟨h1, u, h2, h3⟩ := h j k hj
  exact ⟨hi _ _ h1, u, by rw [hw _ _ h1]; exact h2, h3.mono hi hw⟩

mutual
def AV.is (G : Gh) (w : World) : AV → Value → Prop
  | .junk, _ => True
  | .int k n, v => v = .int k n
  | .bool b, v => v = .bool b
  | .str s, v => v = .string s
  | .ptr b o, v => b < G.n ∧ v = .pointer (some ⟨G.at_ b, o, none⟩)
  | .agg l, v => ∃ a : Array Value, v = .agg a ∧ AV.isL G w l a.toList
  | .tup l, v => ∃ a : Array Value, v = .tuple a ∧ AV.isL G w l a.toList
  | .fn f l m, v => ∃ a b : Array Value, v = .func (.func f) a b ∧ AV.isL G w l a.toList ∧ AV.isL G w m b.toList
  | .val x, v => v = x
  | .seq t l, v => CRep G.lay G.imm w (.seq t) (.seq l) v
  | .sl b o n c, v => b < G.n ∧ v = .slice (some ⟨G.at_ b, o, none⟩) n c
  | .rs r q, v => r < G.n ∧ q ≤ G.ver r ∧ (∃ a n c, v = .slice a n c) ∧ (G.ver r = q → v = G.rv r)
  | .ep r q m i o, v => r < G.n ∧ q ≤ G.ver r ∧ (∃ b p, v = .pointer (some ⟨b, p, none⟩)) ∧ (G.ver r = q → ∃ g n c, G.rv r = .slice (some ⟨g, 0, none⟩) n c ∧ i < n ∧ v = .pointer (some ⟨g, i * m + o, none⟩))
  | .sp t l i o, v => SRep G.lay G.imm w t l i o v
  | .ifc t a, v => ∃ u, v = .iface t u ∧ AV.is G w a u
  | .own _ _, _ => True
def AV.isL (G : Gh) (w : World) : List AV → List Value → Prop
  | [], vs => vs = []
  | a :: l, vs => ∃ v r, vs = v :: r ∧ AV.is G w a v ∧ AV.isL G w l r
end

/-- More is known, and what is written no more reads as it did. -/
structure Gh.le (G : Gh) (w : World) (G' : Gh) (w' : World) : Prop where
  n : G.n ≤ G'.n
  at_ : ∀ i, i < G.n → G'.at_ i = G.at_ i
  imm : ∀ b o, G.imm b o → G'.imm b o
  cell : ∀ b o, G.imm b o → w'.cell? ⟨b, o, none⟩ = w.cell? ⟨b, o, none⟩
  ver : ∀ i, i < G.n → G.ver i ≤ G'.ver i
  rv : ∀ i, i < G.n → G'.ver i = G.ver i → G'.rv i = G.rv i
  lay : G'.lay = G.lay

theorem Gh.le.refl (G : Gh) (w : World) : G.le w G w := ⟨Nat.le_refl _, fun _ _ => rfl, fun _ _ h => h, fun _ _ _ => rfl, fun _ _ => Nat.le_refl _, fun _ _ _ => rfl, rfl⟩
theorem Gh.le.trans {A B C : Gh} {a b c : World} (h : A.le a B b) (k : B.le b C c) : A.le a C c :=
  ⟨Nat.le_trans h.n k.n, fun i hi => (k.at_ i (Nat.lt_of_lt_of_le hi h.n)).trans (h.at_ i hi), fun _ _ hi => k.imm _ _ (h.imm _ _ hi),
    fun _ _ hi => (k.cell _ _ (h.imm _ _ hi)).trans (h.cell _ _ hi), fun i hi => Nat.le_trans (h.ver i hi) (k.ver i (Nat.lt_of_lt_of_le hi h.n)),
    fun i hi e => by
      have h1 := h.ver i hi
      have h2 := k.ver i (Nat.lt_of_lt_of_le hi h.n)
      rw [k.rv i (Nat.lt_of_lt_of_le hi h.n) (by omega), h.rv i hi (by omega)], k.lay.trans h.lay⟩

mutual
theorem AV.is_mono {G G' : Gh} {w w' : World} (h : G.le w G' w') : ∀ (a : AV) (v : Value), a.is G w v → a.is G' w' v
  | .junk, _, _ => by simp [AV.is]
  | .int .., _, hv => by simpa [AV.is] using hv
  | .bool .., _, hv => by simpa [AV.is] using hv
  | .str .., _, hv => by simpa [AV.is] using hv
  | .ptr b o, v, hv => by
    simp only [AV.is] at hv ⊢
    exact ⟨Nat.lt_of_lt_of_le hv.1 h.n, by rw [h.at_ b hv.1]; exact hv.2⟩
  | .agg l, v, hv => by
    simp only [AV.is] at hv ⊢
    obtain ⟨a, e, hl⟩ := hv
    exact ⟨a, e, AV.isL_mono h l _ hl⟩
  | .tup l, v, hv => by
    simp only [AV.is] at hv ⊢
    obtain ⟨a, e, hl⟩ := hv
    exact ⟨a, e, AV.isL_mono h l _ hl⟩
  | .fn f l m, v, hv => by
    simp only [AV.is] at hv ⊢
    obtain ⟨a, b, e, hl, hm⟩ := hv
    exact ⟨a, b, e, AV.isL_mono h l _ hl, AV.isL_mono h m _ hm⟩
  | .val _, _, hv => by simpa [AV.is] using hv
  | .seq c l, v, hv => by
    simp only [AV.is, h.lay] at hv ⊢
    exact hv.mono h.imm h.cell
  | .sl b o n c, v, hv => by
    simp only [AV.is] at hv ⊢
    exact ⟨Nat.lt_of_lt_of_le hv.1 h.n, by rw [h.at_ b hv.1]; exact hv.2⟩
  | .rs r q, v, hv => by
    simp only [AV.is] at hv ⊢
    obtain ⟨h1, h2, h0, h3⟩ := hv
    have := h.ver r h1
    exact ⟨Nat.lt_of_lt_of_le h1 h.n, by omega, h0, fun e => by rw [h.rv r h1 (by omega)]; exact h3 (by omega)⟩
  | .ep r q m i o, v, hv => by
    simp only [AV.is] at hv ⊢
    obtain ⟨h1, h2, h0, h3⟩ := hv
    have := h.ver r h1
    exact ⟨Nat.lt_of_lt_of_le h1 h.n, by omega, h0, fun e => by rw [h.rv r h1 (by omega)]; exact h3 (by omega)⟩
  | .sp t l i o, v, hv => by
    simp only [AV.is, h.lay] at hv ⊢
    exact hv.mono h.imm h.cell
  | .ifc t a, v, hv => by
    simp only [AV.is] at hv ⊢
    obtain ⟨u, e, ha⟩ := hv
    exact ⟨u, e, AV.is_mono h a u ha⟩
  | .own .., _, _ => by simp [AV.is]
theorem AV.isL_mono {G G' : Gh} {w w' : World} (h : G.le w G' w') : ∀ (l : List AV) (vs : List Value), AV.isL G w l vs → AV.isL G' w' l vs
  | [], vs, hv => by simpa [AV.isL] using hv
  | a :: l, vs, hv => by
    simp only [AV.isL] at hv ⊢
    obtain ⟨v, r, e, ha, hl⟩ := hv
    exact ⟨v, r, e, AV.is_mono h a v ha, AV.isL_mono h l r hl⟩
end

section
variable {G : Gh} {w : World}
theorem isL_len : ∀ {l : List AV} {vs : List Value}, AV.isL G w l vs → vs.length = l.length
  | [], vs, h => by simp [AV.isL] at h; simp [h]
  | a :: l, vs, h => by
    simp only [AV.isL] at h
    obtain ⟨v, r, rfl, _, hl⟩ := h
    simp [isL_len hl]

theorem isL_get : ∀ {l : List AV} {vs : List Value}, AV.isL G w l vs → ∀ (i : Nat) (a : AV), l[i]? = some a → ∃ v, vs[i]? = some v ∧ a.is G w v
  | [], vs, h, i, a, hi => by simp at hi
  | b :: l, vs, h, i, a, hi => by
    simp only [AV.isL] at h
    obtain ⟨v, r, rfl, ha, hl⟩ := h
    cases i with
    | zero => simp at hi; subst hi; exact ⟨v, rfl, ha⟩
    | succ i => simpa using isL_get hl i a (by simpa using hi)

theorem isL_of_get : ∀ {l : List AV} {vs : List Value}, vs.length = l.length → (∀ (i : Nat) (a : AV) (v : Value), l[i]? = some a → vs[i]? = some v → a.is G w v) → AV.isL G w l vs
  | [], vs, h, _ => by simp at h; simp [AV.isL, h]
  | a :: l, [], h, _ => by simp at h
  | a :: l, v :: r, h, k => by
    simp only [AV.isL]
    exact ⟨v, r, rfl, k 0 a v rfl rfl, isL_of_get (by simpa using h) (fun i b u hb hu => k (i + 1) b u (by simpa using hb) (by simpa using hu))⟩

theorem isL_append : ∀ {l m : List AV} {vs us : List Value}, AV.isL G w l vs → AV.isL G w m us → AV.isL G w (l ++ m) (vs ++ us)
  | [], m, vs, us, h, k => by simp [AV.isL] at h; simpa [h] using k
  | a :: l, m, vs, us, h, k => by
    simp only [AV.isL] at h
    obtain ⟨v, r, rfl, ha, hl⟩ := h
    simp only [List.cons_append, AV.isL]
    exact ⟨v, r ++ us, rfl, ha, isL_append hl k⟩

theorem isL_take : ∀ {l : List AV} {vs : List Value}, AV.isL G w l vs → ∀ n, AV.isL G w (l.take n) (vs.take n)
  | [], vs, h, n => by simp [AV.isL] at h; simp [h, AV.isL]
  | a :: l, vs, h, n => by
    simp only [AV.isL] at h
    obtain ⟨v, r, rfl, ha, hl⟩ := h
    cases n with
    | zero => simp [AV.isL]
    | succ n => simp only [List.take_succ_cons, AV.isL]; exact ⟨v, _, rfl, ha, isL_take hl n⟩

theorem isL_drop : ∀ {l : List AV} {vs : List Value}, AV.isL G w l vs → ∀ n, AV.isL G w (l.drop n) (vs.drop n)
  | [], vs, h, n => by simp [AV.isL] at h; simp [h, AV.isL]
  | a :: l, vs, h, n => by
    simp only [AV.isL] at h
    obtain ⟨v, r, rfl, ha, hl⟩ := h
    cases n with
    | zero => simp only [List.drop_zero, AV.isL]; exact ⟨v, r, rfl, ha, hl⟩
    | succ n => simpa using isL_drop hl n

theorem isL_set {l : List AV} {vs : List Value} (h : AV.isL G w l vs) (i : Nat) {a : AV} {v : Value} (hv : a.is G w v) : AV.isL G w (l.set i a) (vs.set i v) := by
  refine isL_of_get (by simp [isL_len h]) fun j b u hb hu => ?_
  rw [List.getElem?_set] at hb hu
  by_cases e : i = j
  · subst e
    have hl := isL_len h
    by_cases q : i < l.length
    · rw [if_pos rfl, if_pos q] at hb
      rw [if_pos rfl, if_pos (by omega)] at hu
      cases hb; cases hu; exact hv
    · rw [if_pos rfl, if_neg q] at hb; cases hb
  · rw [if_neg e] at hb hu
    obtain ⟨u', e', k⟩ := isL_get h j b hb
    rw [hu] at e'; cases e'; exact k
end

/-- A value of the program's text. -/
def ofC : Value → AV
  | .int k n => .int k n
  | .bool b => .bool b
  | .string s => .str s
  | v => .val v
def ofV : Value → AV
  | .agg a => .agg (a.toList.map ofC)
  | .tuple a => .tup (a.toList.map ofC)
  | v => ofC v

theorem ofC_is (G : Gh) (w : World) (v : Value) : (ofC v).is G w v := by cases v <;> simp [ofC, AV.is]
theorem ofCs_is (G : Gh) (w : World) : ∀ (l : List Value), AV.isL G w (l.map ofC) l
  | [] => by simp [AV.isL]
  | v :: l => by simp only [List.map_cons, AV.isL]; exact ⟨v, l, rfl, ofC_is G w v, ofCs_is G w l⟩
theorem ofV_is (G : Gh) (w : World) (v : Value) : (ofV v).is G w v := by
  cases v
  case agg a => simp only [ofV, AV.is]; exact ⟨_, rfl, ofCs_is G w _⟩
  case tuple a => simp only [ofV, AV.is]; exact ⟨_, rfl, ofCs_is G w _⟩
  all_goals (simp only [ofV]; exact ofC_is G w _)

/-- The cells of a value. -/
def AV.cells : AV → List AV
  | .agg l => l
  | v => [v]
/-- It is known to be the value of one cell. -/
def AV.one : AV → Bool
  | .int .. | .bool .. | .str .. | .ptr .. | .fn .. | .seq .. | .sl .. | .rs .. | .ep .. | .sp .. | .ifc .. => true
  | .val v => v.oneCell'
  | _ => false
/-- What it is is known: as cells. -/
def AV.known : AV → Bool
  | .agg l => l.all AV.one
  | v => v.one

theorem AV.one_is {G : Gh} {w : World} {a : AV} {v : Value} (h : a.one = true) (hv : a.is G w v) : v.oneCell' = true := by
  cases a <;> simp only [AV.one, AV.is] at h hv
  case int => subst hv; rfl
  case bool => subst hv; rfl
  case str => subst hv; rfl
  case ptr => obtain ⟨_, rfl⟩ := hv; rfl
  case sl => obtain ⟨_, rfl⟩ := hv; rfl
  case fn => obtain ⟨_, _, rfl, _⟩ := hv; rfl
  case val => subst hv; exact h
  case seq => cases hv <;> rfl
  case rs => obtain ⟨_, _, ⟨_, _, _, rfl⟩, _⟩ := hv; rfl
  case ep => obtain ⟨_, _, ⟨_, _, rfl⟩, _⟩ := hv; rfl
  case sp => obtain ⟨_, _, rfl, _⟩ := hv; rfl
  case ifc => obtain ⟨_, rfl, _⟩ := hv; rfl
  all_goals simp at h

theorem cells_is {G : Gh} {w : World} {a : AV} {v : Value} (h : a.known = true) (hv : a.is G w v) : AV.isL G w a.cells v.cells.toList ∧ ∀ u ∈ v.cells.toList, u.oneCell' = true := by
  have single : a.one = true → AV.isL G w [a] v.cells.toList ∧ ∀ u ∈ v.cells.toList, u.oneCell' = true := fun h1 => by
    have o := AV.one_is h1 hv
    have e : v.cells.toList = [v] := by cases v <;> first | rfl | simp [Value.oneCell'] at o
    rw [e]
    exact ⟨by simp only [AV.isL]; exact ⟨v, [], rfl, hv, rfl⟩, fun u hu => by simp at hu; subst hu; exact o⟩
  cases a
  case agg l =>
    simp only [AV.is] at hv
    obtain ⟨b, rfl, hl⟩ := hv
    refine ⟨hl, fun u hu => ?_⟩
    simp only [AV.known, List.all_eq_true] at h
    obtain ⟨i, hi⟩ := List.mem_iff_getElem?.1 hu
    have hlt : i < l.length := by
      have := isL_len hl
      rcases Nat.lt_or_ge i b.toList.length with q | q
      · simpa [← this] using q
      · rw [show (Value.agg b).cells.toList = b.toList from rfl, List.getElem?_eq_none q] at hi; cases hi
    obtain ⟨u', e, k⟩ := isL_get hl i l[i] (List.getElem?_eq_getElem hlt)
    rw [show (Value.agg b).cells.toList = b.toList from rfl] at hi
    rw [hi] at e; cases e
    exact AV.one_is (h _ (List.getElem_mem hlt)) k
  all_goals exact single h


/-! ### memory -/
/-- Of another hand; the call's own; written no more. -/
inductive Md where
  | glob
  | own
  | froz
  deriving Inhabited, DecidableEq
inductive Blk where
  | cells (elem : TypeId) (l : List AV) (md : Md)
  | row (e : TypeId) (v : Nat) (nb : Bool) (l : List (List D))
  | froz (e : TypeId) (v : Nat) (l : List (List D))
  | iter (s : ByteArray) (pos : Nat)
  | gone
  deriving Inhabited
def Blk.own : Blk → Bool
  | .cells _ _ .own => true
  | .row .. => true
  | .iter .. => true
  | _ => false

/-- The slice v is a row of its own, of these elements. -/
def RowRep (G : Gh) (B : Nat) (w : World) (e : TypeId) (nb : Bool) (l : List (List D)) (v : Value) (ft : List Nat) : Prop :=
  ft = v.ownBlock.toList ∧ (nb = true → (v = .slice none 0 0 ↔ l = [])) ∧ (∀ (i : Nat) (d : List D), l[i]? = some d → d.length = (G.lay e).length) ∧
  ∃ xs : List Value, w.ownsRow B e (G.lay e).length v l.length xs ∧
    ∀ (i j : Nat) (x : List D) (d : D) (k : CK), l[i]? = some x → x[j]? = some d → (G.lay e)[j]? = some k → ∃ u, xs[i * (G.lay e).length + j]? = some u ∧ CRep G.lay G.imm w k d u

def BRep (G : Gh) (B : Nat) (w : World) (i : Nat) : Blk → Prop
  | .cells e l md => G.ft i = [G.at_ i] ∧ (md = .froz → ∀ o, G.imm (G.at_ i) o) ∧ ∃ c : Array Value, w.heap[G.at_ i]? = some (.cells c e (0, 0)) ∧ AV.isL G w l c.toList
  | .row e v nb l => G.ver i = v ∧ RowRep G B w e nb l (G.rv i) (G.ft i)
  | .froz e v l => G.ver i = v ∧ G.ft i = [] ∧ CRep G.lay G.imm w (.seq e) (.seq l) (G.rv i)
  | .iter s p => G.ft i = [G.at_ i] ∧ w.heap[G.at_ i]? = some (.stringIter s p)
  | .gone => True

structure HRep (G : Gh) (B : Nat) (h : List Blk) (w : World) : Prop where
  len : h.length = G.n
  blk : ∀ i b, h[i]? = some b → BRep G B w i b
  own : ∀ i b, h[i]? = some b → b.own = true → ∀ g ∈ G.ft i, B ≤ g ∧ ∀ o, ¬ G.imm g o
  inj : ∀ i j, i < G.n → j < G.n → i ≠ j → ∀ g ∈ G.ft i, g ∉ G.ft j
  lt : ∀ i, i < G.n → ∀ g ∈ G.ft i, g < w.heap.size
  imm : ∀ b o, G.imm b o → b < w.heap.size

theorem ownsRow_of_block {w w' : World} {B : Nat} {e : TypeId} {m : Nat} {v : Value} {n : Nat} {xs : List Value} (h : w.ownsRow B e m v n xs) (hb : ∀ g, v.ownBlock = some g → w'.heap[g]? = w.heap[g]?) : w'.ownsRow B e m v n xs := by
  refine ⟨h.1, ?_⟩
  rcases h.2 with h2 | ⟨g, cap, cur, rfl, h1, h2, h3⟩
  · exact .inl h2
  · exact .inr ⟨g, cap, cur, rfl, h1, by rw [hb g rfl]; exact h2, h3⟩

theorem ownBlock_mem {v : Value} {g : Nat} : g ∈ v.ownBlock.toList ↔ v.ownBlock = some g := by cases v.ownBlock <;> simp [eq_comm]

theorem RowRep.mono {G G' : Gh} {B : Nat} {w w' : World} (hle : G.le w G' w') {e : TypeId} {nb : Bool} {l : List (List D)} {v : Value} {ft : List Nat} (hb : ∀ g ∈ ft, w'.heap[g]? = w.heap[g]?)
    (h : RowRep G B w e nb l v ft) : RowRep G' B w' e nb l v ft := by
  obtain ⟨h1, h2, h3, xs, h4, h5⟩ := h
  subst h1
  refine ⟨rfl, h2, by rw [hle.lay]; exact h3, xs, by rw [hle.lay]; exact ownsRow_of_block h4 fun g hg => hb g (ownBlock_mem.2 hg), fun i j x d k q1 q2 q3 => ?_⟩
  rw [hle.lay] at q3 ⊢
  obtain ⟨u, hu, hc⟩ := h5 i j x d k q1 q2 q3
  exact ⟨u, hu, hc.mono hle.imm hle.cell⟩

theorem BRep.mono {G G' : Gh} {B : Nat} {w w' : World} (hle : G.le w G' w') {i : Nat} (ha : G'.at_ i = G.at_ i) (hv : G'.ver i = G.ver i) (hr : G'.rv i = G.rv i) (hf : G'.ft i = G.ft i)
    (hb : ∀ g ∈ G.ft i, w'.heap[g]? = w.heap[g]?) {b : Blk} (h : BRep G B w i b) : BRep G' B w' i b := by
  cases b
  case cells e l md =>
    obtain ⟨h1, h0, c, h2, h3⟩ := h
    exact ⟨by rw [hf, ha]; exact h1, fun e o => by rw [ha]; exact hle.imm _ _ (h0 e o), c, by rw [ha, hb _ (by rw [h1]; simp)]; exact h2, AV.isL_mono hle _ _ h3⟩
  case row e v nb l =>
    obtain ⟨h1, h2⟩ := h
    exact ⟨by rw [hv]; exact h1, by rw [hr, hf]; exact h2.mono hle hb⟩
  case froz e v l =>
    obtain ⟨h1, h2, h3⟩ := h
    exact ⟨by rw [hv]; exact h1, by rw [hf]; exact h2, by rw [hr, hle.lay]; exact h3.mono hle.imm hle.cell⟩
  case iter s p =>
    obtain ⟨h1, h2⟩ := h
    exact ⟨by rw [hf, ha]; exact h1, by rw [ha, hb _ (by rw [h1]; simp)]; exact h2⟩
  case gone => trivial

/-- Other memory turned: what is told of the blocks, and of what is written no more, stays. -/
theorem HRep.keep {G G' : Gh} {B : Nat} {h : List Blk} {w w' : World} (H : HRep G B h w) (hle : G.le w G' w') (hn : G'.n = G.n) (ha : G'.at_ = G.at_) (hv : G'.ver = G.ver) (hr : G'.rv = G.rv) (hf : G'.ft = G.ft)
    (hsz : w.heap.size ≤ w'.heap.size) (hb : ∀ i, i < G.n → ∀ g ∈ G.ft i, w'.heap[g]? = w.heap[g]?) (hold : ∀ i b, h[i]? = some b → b.own = true → ∀ g ∈ G.ft i, ∀ o, G'.imm g o → G.imm g o)
    (hnew : ∀ b o, G'.imm b o → b < w'.heap.size) : HRep G' B h w' := by
  have hlt : ∀ {i b}, h[i]? = some b → i < G.n := fun hi => by rw [← H.len]; exact (List.getElem?_eq_some_iff.1 hi).1
  refine ⟨by rw [hn]; exact H.len, fun i b hi => (H.blk i b hi).mono hle (by rw [ha]) (by rw [hv]) (by rw [hr]) (by rw [hf]) (hb i (hlt hi)), fun i b hi ho g hg => ?_, ?_, ?_, hnew⟩
  · rw [hf] at hg
    exact ⟨(H.own i b hi ho g hg).1, fun o q => (H.own i b hi ho g hg).2 o (hold i b hi ho g hg o q)⟩
  · rw [hn, hf]; exact H.inj
  · rw [hn, hf]; exact fun i hi g hg => Nat.lt_of_lt_of_le (H.lt i hi g hg) hsz

/-- Another call made memory, and perhaps more that is written no more. -/
theorem HRep.after {G : Gh} {imm' : Nat → Nat → Prop} {B : Nat} {h : List Blk} {w w' : World} (H : HRep G B h w) (hb : Below w.heap.size w w')
    (hi : ∀ b o, G.imm b o → imm' b o) (hold : ∀ b o, b < w.heap.size → imm' b o → G.imm b o) (hnew : ∀ b o, imm' b o → b < w'.heap.size) : HRep { G with imm := imm' } B h w' ∧ G.le w { G with imm := imm' } w' := by
  have hle : G.le w { G with imm := imm' } w' := ⟨Nat.le_refl _, fun _ _ => rfl, hi, fun b o q => hb.cell (p := ⟨b, o, none⟩) (H.imm b o q), fun _ _ => Nat.le_refl _, fun _ _ _ => rfl, rfl⟩
  exact ⟨H.keep hle rfl rfl rfl rfl rfl hb.size (fun i hi g hg => hb.block g (H.lt i hi g hg)) (fun i b hib _ g hg o q => hold g o (H.lt i (by rw [← H.len]; exact (List.getElem?_eq_some_iff.1 hib).1) g hg) q) hnew, hle⟩

theorem HRep.below {G : Gh} {B : Nat} {h : List Blk} {w w' : World} (H : HRep G B h w) (hb : Below w.heap.size w w') : HRep G B h w' ∧ G.le w G w' :=
  H.after (imm' := G.imm) hb (fun _ _ q => q) (fun _ _ _ q => q) (fun b o q => Nat.lt_of_lt_of_le (H.imm b o q) hb.size)

/-- One more block. -/
def Gh.push (G : Gh) (a : Nat) (r : Value) (f : List Nat) : Gh :=
  { G with at_ := fun i => if i = G.n then a else G.at_ i, rv := fun i => if i = G.n then r else G.rv i, ver := fun i => if i = G.n then 0 else G.ver i, ft := fun i => if i = G.n then f else G.ft i, n := G.n + 1 }

theorem Gh.le_push {G : Gh} {w w' : World} (hc : ∀ b o, G.imm b o → w'.cell? ⟨b, o, none⟩ = w.cell? ⟨b, o, none⟩) (a : Nat) (r : Value) (f : List Nat) : G.le w (G.push a r f) w' :=
  ⟨Nat.le_succ _, fun i hi => by simp [Gh.push, Nat.ne_of_lt hi], fun _ _ q => q, hc, fun i hi => by simp [Gh.push, Nat.ne_of_lt hi], fun i hi _ => by simp [Gh.push, Nat.ne_of_lt hi], rfl⟩

theorem HRep.push {G : Gh} {B : Nat} {h : List Blk} {w w' : World} (H : HRep G B h w) (hsz : w.heap.size ≤ w'.heap.size) (hb : ∀ k, k < w.heap.size → w'.heap[k]? = w.heap[k]?)
    (a : Nat) (r : Value) (f : List Nat) (b : Blk) (hf : ∀ g ∈ f, w.heap.size ≤ g ∧ g < w'.heap.size) (hB : B ≤ w.heap.size) (hrep : BRep (G.push a r f) B w' G.n b) :
    HRep (G.push a r f) B (h ++ [b]) w' ∧ G.le w (G.push a r f) w' := by
  have hle : G.le w (G.push a r f) w' := Gh.le_push (fun b o q => World.cell?_of_block (hb b (H.imm b o q))) a r f
  have e1 : ∀ i, i < G.n → (G.push a r f).at_ i = G.at_ i ∧ (G.push a r f).rv i = G.rv i ∧ (G.push a r f).ver i = G.ver i ∧ (G.push a r f).ft i = G.ft i := fun i hi => by simp [Gh.push, Nat.ne_of_lt hi]
  have e2 : (G.push a r f).ft G.n = f := by simp [Gh.push]
  have hcase : ∀ {i b'}, (h ++ [b])[i]? = some b' → (i < G.n ∧ h[i]? = some b') ∨ (i = G.n ∧ b' = b) := fun {i b'} hi => by
    rw [List.getElem?_append] at hi
    by_cases q : i < h.length
    · rw [if_pos q] at hi; exact .inl ⟨by rw [← H.len]; exact q, hi⟩
    · rw [if_neg q] at hi
      rcases Nat.lt_or_ge (i - h.length) 1 with z | z
      · have : i - h.length = 0 := by omega
        rw [this] at hi; simp at hi
        exact .inr ⟨by rw [← H.len]; omega, hi.symm⟩
      · rw [List.getElem?_eq_none (by simpa using z)] at hi; cases hi
  refine ⟨⟨by simp [Gh.push, H.len], fun i b' hi => ?_, fun i b' hi ho g hg => ?_, fun i j hi hj hij g hg => ?_, fun i hi g hg => ?_, fun b o q => Nat.lt_of_lt_of_le (H.imm b o q) hsz⟩, hle⟩
  · rcases hcase hi with ⟨q, hi⟩ | ⟨rfl, rfl⟩
    · obtain ⟨a1, a2, a3, a4⟩ := e1 i q
      exact (H.blk i b' hi).mono hle a1 a3 a2 a4 fun g hg => hb g (H.lt i q g hg)
    · exact hrep
  · rcases hcase hi with ⟨q, hi⟩ | ⟨rfl, rfl⟩
    · rw [(e1 i q).2.2.2] at hg; exact H.own i b' hi ho g hg
    · rw [e2] at hg
      exact ⟨Nat.le_trans hB (hf g hg).1, fun o q => by have := H.imm _ _ q; have := (hf g hg).1; omega⟩
  · have hi' : i < G.n + 1 := hi
    have hj' : j < G.n + 1 := hj
    by_cases qi : i = G.n
    · have qj : j < G.n := by omega
      rw [qi, e2] at hg
      rw [(e1 j qj).2.2.2]
      intro hgj
      have := H.lt j qj g hgj
      have := (hf g hg).1; omega
    · have qi' : i < G.n := by omega
      rw [(e1 i qi').2.2.2] at hg
      by_cases qj : j = G.n
      · rw [qj, e2]
        intro hgj
        have := H.lt i qi' g hg
        have := (hf g hgj).1; omega
      · rw [(e1 j (by omega)).2.2.2]; exact H.inj i j qi' (by omega) hij g hg
  · have hi' : i < G.n + 1 := hi
    by_cases qi : i = G.n
    · rw [qi, e2] at hg; exact (hf g hg).2
    · rw [(e1 i (by omega)).2.2.2] at hg; exact Nat.lt_of_lt_of_le (H.lt i (by omega) g hg) hsz

/-- A new block of cells. -/
theorem HRep.alloc {G : Gh} {B : Nat} {h : List Blk} {w : World} (H : HRep G B h w) (hB : B ≤ w.heap.size) {t : TypeId} {l : List AV} {c : Array Value} (hl : AV.isL G w l c.toList) :
    HRep (G.push w.heap.size undef [w.heap.size]) B (h ++ [.cells t l .own]) (w.alloc (.cells c t)) ∧ G.le w (G.push w.heap.size undef [w.heap.size]) (w.alloc (.cells c t)) := by
  have hb : ∀ k, k < w.heap.size → (w.alloc (.cells c t)).heap[k]? = w.heap[k]? := fun k hk => Below.heap_alloc _ _ _ hk
  refine H.push (by simp) hb _ _ _ _ (fun g hg => by simp at hg; subst hg; simp) hB ⟨by simp [Gh.push], (fun e => by cases e), c, ?_, ?_⟩
  · have : (G.push w.heap.size undef [w.heap.size]).at_ G.n = w.heap.size := by simp [Gh.push]
    rw [this]
    show (w.heap.push _)[w.heap.size]? = _
    simp
  · exact AV.isL_mono (Gh.le_push (fun b o q => World.cell?_of_block (hb b (H.imm b o q))) _ _ _) _ _ hl

/-- One block has turned, and lies perhaps elsewhere. -/
theorem HRep.turn {G G' : Gh} {B : Nat} {h : List Blk} {w w' : World} (H : HRep G B h w) {i : Nat} (hi : i < G.n) (b : Blk) (hle : G.le w G' w') (hn : G'.n = G.n) (himm : G'.imm = G.imm)
    (hsame : ∀ j, j ≠ i → G'.at_ j = G.at_ j ∧ G'.ver j = G.ver j ∧ G'.rv j = G.rv j ∧ G'.ft j = G.ft j) (hsz : w.heap.size ≤ w'.heap.size)
    (hb : ∀ j, j < G.n → j ≠ i → ∀ g ∈ G.ft j, w'.heap[g]? = w.heap[g]?) (hft : ∀ g ∈ G'.ft i, (g ∈ G.ft i ∨ w.heap.size ≤ g) ∧ g < w'.heap.size)
    (hown : b.own = true → ∀ g ∈ G'.ft i, B ≤ g ∧ ∀ o, ¬ G.imm g o) (hrep : BRep G' B w' i b) : HRep G' B (h.set i b) w' := by
  have hlt : ∀ {j c}, h[j]? = some c → j < G.n := fun hj => by rw [← H.len]; exact (List.getElem?_eq_some_iff.1 hj).1
  have hget : ∀ {j c}, (h.set i b)[j]? = some c → (j = i ∧ c = b) ∨ (j ≠ i ∧ h[j]? = some c) := fun {j c} hj => by
    rw [List.getElem?_set] at hj
    by_cases q : i = j
    · rw [if_pos q] at hj
      split at hj
      · cases hj; exact .inl ⟨q.symm, rfl⟩
      · cases hj
    · rw [if_neg q] at hj; exact .inr ⟨fun e => q e.symm, hj⟩
  refine ⟨by rw [hn]; simpa using H.len, fun j c hj => ?_, fun j c hj ho g hg => ?_, fun j k hj hk hjk g hg => ?_, fun j hj g hg => ?_, fun x o q => ?_⟩
  · rcases hget hj with ⟨rfl, rfl⟩ | ⟨q, hj⟩
    · exact hrep
    · obtain ⟨a1, a2, a3, a4⟩ := hsame j q
      exact (H.blk j c hj).mono hle a1 a2 a3 a4 (hb j (hlt hj) q)
  · rcases hget hj with ⟨rfl, rfl⟩ | ⟨q, hj⟩
    · rw [himm]; exact hown ho g hg
    · rw [(hsame j q).2.2.2] at hg; rw [himm]; exact H.own j c hj ho g hg
  · rw [hn] at hj hk
    by_cases qj : j = i
    · have qk : k ≠ i := fun e => hjk (by rw [qj, e])
      rw [(hsame k qk).2.2.2]
      intro hgk
      rw [qj] at hg
      rcases (hft g hg).1 with q | q
      · exact H.inj i k hi hk (fun e => qk e.symm) g q hgk
      · have := H.lt k hk g hgk; omega
    · rw [(hsame j qj).2.2.2] at hg
      by_cases qk : k = i
      · rw [qk]
        intro hgk
        rcases (hft g hgk).1 with q | q
        · exact H.inj j i hj hi qj g hg q
        · have := H.lt j hj g hg; omega
      · rw [(hsame k qk).2.2.2]; exact H.inj j k hj hk hjk g hg
  · rw [hn] at hj
    by_cases qj : j = i
    · rw [qj] at hg; exact (hft g hg).2
    · rw [(hsame j qj).2.2.2] at hg; exact Nat.lt_of_lt_of_le (H.lt j hj g hg) hsz
  · rw [himm] at q; exact Nat.lt_of_lt_of_le (H.imm x o q) hsz

/-- Cells of one of the call's own blocks are written. -/
theorem HRep.store {G : Gh} {B : Nat} {h : List Blk} {w : World} (H : HRep G B h w) {i : Nat} {t : TypeId} {l0 : List AV} (hi : h[i]? = some (.cells t l0 .own)) {l : List AV} {c : Array Value}
    (hl : AV.isL G w l c.toList) : HRep G B (h.set i (.cells t l .own)) (w.setRow (G.at_ i) c) ∧ G.le w G (w.setRow (G.at_ i) c) := by
  have hlt : i < G.n := by rw [← H.len]; exact (List.getElem?_eq_some_iff.1 hi).1
  obtain ⟨hft, _, c0, e0, k0⟩ := H.blk i _ hi
  have o0 := H.own i _ hi rfl (G.at_ i) (by rw [hft]; simp)
  have hrow := setRow_heap w (G.at_ i) c0 c t (0, 0) e0
  have hother : ∀ k, k ≠ G.at_ i → (w.setRow (G.at_ i) c).heap[k]? = w.heap[k]? := fun k hk => by
    simp only [World.setRow, Array.getElem?_modify]
    rw [if_neg (by omega)]
  have hle : G.le w G (w.setRow (G.at_ i) c) := ⟨Nat.le_refl _, fun _ _ => rfl, fun _ _ q => q, fun b' o' q => by
    have hne : b' ≠ G.at_ i := fun e => o0.2 o' (e ▸ q)
    exact World.cell?_of_block (hother b' hne), fun _ _ => Nat.le_refl _, fun _ _ _ => rfl, rfl⟩
  have hsz : (w.setRow (G.at_ i) c).heap.size = w.heap.size := by simp [World.setRow]
  refine ⟨H.turn hlt (.cells t l .own) hle rfl rfl (fun _ _ => ⟨rfl, rfl, rfl, rfl⟩) (by omega) (fun j hj q g hg => hother g fun e => ?_) (fun g hg => ⟨.inl hg, by rw [hsz]; exact H.lt i hlt g hg⟩)
    (fun _ g hg => H.own i _ hi rfl g hg) ⟨hft, (fun e => by cases e), c, hrow, AV.isL_mono hle _ _ hl⟩, hle⟩
  subst e
  exact H.inj j i hj hlt q _ hg (by rw [hft]; simp)

/-! ### data of values -/
/-- Written no more: also these blocks. -/
def immR (G : Gh) (S : List Nat) (b o : Nat) : Prop := G.imm b o ∨ ∃ r ∈ S, b ∈ G.ft r

theorem immR_mono {G : Gh} {S S' : List Nat} (h : ∀ r ∈ S, r ∈ S') : ∀ b o, immR G S b o → immR G S' b o := fun b o q => by
  rcases q with q | ⟨r, hr, hb⟩
  · exact .inl q
  · exact .inr ⟨r, h r hr, hb⟩

end Go.Proofs.Qx

/- The machine: what it does, step by step. Nothing is proved here. -/
namespace Go.Proofs.Qx
open Go Go.RowKit
set_option linter.unusedVariables false

abbrev Fr := List AV
abbrev Hp := List Blk
/-- How a function ends. -/
inductive Res where
  | ret (v : AV)
  | pan (v : Value)
/-- What a function answers: some plain thing, or none, and how it is told. -/
inductive Out : Type 1 where
  | mk (τ : Type) (x : Option τ) (out : τ → Res) (sel : (β : Type) → τ → (Res → Option β) → Option β) (ok : ∀ β t k, sel β t k = k (out t))
abbrev Tells := List AV → Option Out
/-- How an argument is handed over: as it is; as data of one cell, or of some. -/
inductive AK where
  | raw
  | one (k : CK)
  | agg (ks : List CK)
/-- How a call's answer is taken: it holds no slices; slices that are written no more; slices of the caller's own. -/
inductive CM where
  | flat
  | froz
  | own
  deriving DecidableEq
structure CE : Type 1 where
  ks : List AK
  mode : CM
  tells : Tells
/-- What a loop does from a frame and a memory. -/
inductive LOut : Type 1 where
  | mk (τ : Type) (x : Option τ) (out : τ → Exit × Fr × Hp) (sel : (β : Type) → τ → (Exit → Fr → Hp → Option β) → Option β) (ok : ∀ β t k, sel β t k = k (out t).1 (out t).2.1 (out t).2.2)
abbrev LSum := Fr → Hp → Option LOut
structure Cfg : Type 1 where
  J : List (Nat × List Nat)
  LS : List (Nat × Nat × LSum)
  rounds : Nat

/-! ### laid open, as the kernel evaluates by name -/
def forceL {α β : Type} : List α → (List α → Option β) → Option β
  | [], k => k []
  | a :: l, k => forceL l fun l => k (a :: l)
def head1 {β : Type} (a : AV) (k : AV → Option β) : Option β :=
  match a with
  | .junk => k .junk
  | .int i n => k (.int i n)
  | .bool b => k (.bool b)
  | .str s => k (.str s)
  | .ptr b o => k (.ptr b o)
  | .agg l => k (.agg l)
  | .tup l => k (.tup l)
  | .fn f l m => k (.fn f l m)
  | .val v => k (.val v)
  | .seq c l => k (.seq c l)
  | .sl b o n c => k (.sl b o n c)
  | .rs r v => k (.rs r v)
  | .ep r v m i o => k (.ep r v m i o)
  | .sp t l i o => k (.sp t l i o)
  | .ifc t a => k (.ifc t a)
  | .own t l => k (.own t l)
def forceC {β : Type} : List AV → (List AV → Option β) → Option β
  | [], k => k []
  | a :: l, k => head1 a fun a => forceC l fun l => k (a :: l)
def headK {β : Type} (a : AV) (k : AV → Option β) : Option β :=
  match a with
  | .junk => k .junk
  | .int i n => k (.int i n)
  | .bool b => k (.bool b)
  | .str s => k (.str s)
  | .ptr b o => k (.ptr b o)
  | .agg l => forceC l fun l => k (.agg l)
  | .tup l => forceC l fun l => k (.tup l)
  | .fn f l m => forceC l fun l => forceC m fun m => k (.fn f l m)
  | .val v => k (.val v)
  | .seq c l => k (.seq c l)
  | .sl b o n c => k (.sl b o n c)
  | .rs r v => k (.rs r v)
  | .ep r v m i o => k (.ep r v m i o)
  | .sp t l i o => k (.sp t l i o)
  | .ifc t a => head1 a fun a => k (.ifc t a)
  | .own t l => k (.own t l)
def forceB {β : Type} (b : Blk) (k : Blk → Option β) : Option β :=
  match b with
  | .cells e l md => forceC l fun l => (match md with
    | .glob => k (.cells e l .glob)
    | .own => k (.cells e l .own)
    | .froz => k (.cells e l .froz))
  | .row e v nb l => (match nb with
    | true => k (.row e v true l)
    | false => k (.row e v false l))
  | .froz e v l => k (.froz e v l)
  | .iter s p => k (.iter s p)
  | .gone => k .gone
def forceH {β : Type} : Hp → (Hp → Option β) → Option β
  | [], k => k []
  | b :: l, k => forceB b fun b => forceH l fun l => k (b :: l)

/-! ### kinds and data -/
def avOf : CK → D → AV
  | .int k, d => .int k d.toInt
  | .bool, d => .bool d.toBool
  | .str, d => .str d.toStr
  | .seq t, d => .seq t d.toSeq
/-- The cells from o on of element i. -/
def avsAt (l : List (List D)) (i : Nat) : List CK → Nat → List AV
  | [], _ => []
  | k :: ks, o => avOf k (D.at l i o) :: avsAt l i ks (o + 1)

/-- The cells of element i, one by one. -/
def atsRow (l : List (List D)) (i : Nat) : Nat → Nat → List D
  | _, 0 => []
  | j, k + 1 => D.at l i j :: atsRow l i (j + 1) k

/-- A datum of one cell, and the blocks that are written no more then. -/
def leafD (h : Hp) : CK → AV → Option (D × List Nat)
  | .int k, .int k' n => if k = k' then some (.int n, []) else none
  | .bool, .bool b => some (.bool b, [])
  | .str, .str s => some (.str s, [])
  | .seq t, .seq t' l => if t = t' then some (.seq l, []) else none
  | .seq _, .val (.slice none 0 0) => some (.seq [], [])
  | .seq t, .rs r q => match h[r]? with
    | some (.row e v _ l) => if q = v ∧ e = t then some (.seq l, [r]) else none
    | some (.froz e v l) => if q = v ∧ e = t then some (.seq l, []) else none
    | _ => none
  | _, _ => none
def cellsD (g : CK → AV → Option (D × List Nat)) : List CK → List AV → Option (List D × List Nat)
  | [], _ => some ([], [])
  | k :: ks, a :: l => match g k a, cellsD g ks l with
    | some (d, S), some (ds, S') => some (d :: ds, S ++ S')
    | _, _ => none
  | _ :: _, [] => none
def rowsD (g : CK → AV → Option (D × List Nat)) (ks : List CK) : Nat → List AV → Option (List (List D) × List Nat)
  | 0, _ => some ([], [])
  | n + 1, l => match cellsD g ks l, rowsD g ks n (l.drop ks.length) with
    | some (d, S), some (ds, S') => some (d :: ds, S ++ S')
    | _, _ => none
def asD (Λ : Nat → List CK) (h : Hp) : Nat → CK → AV → Option (D × List Nat)
  | 0, k, a => leafD h k a
  | f + 1, k, a => match k, a with
    | .seq t, .sl b o n c => match h[b]? with
      | some (.cells e l md) => if e = t ∧ md ≠ .glob ∧ n ≤ c then (rowsD (asD Λ h f) (Λ t) n (l.drop o)).map fun (x, S) => (.seq x, b :: S) else none
      | _ => none
    | k, a => leafD h k a
/-- Blocks that are written no more. -/
def frzA : Hp → List Nat → Hp
  | h, [] => h
  | h, r :: S => match h[r]? with
    | some (.row e v _ l) => frzA (h.set r (.froz e v l)) S
    | some (.cells e l .own) => frzA (h.set r (.cells e l .froz)) S
    | _ => frzA h S

/-- An argument as it is handed over. -/
def argA (Λ : Nat → List CK) (h : Hp) : AK → AV → Option (AV × List Nat)
  | .raw, a => some (a, [])
  | .one k, a => (asD Λ h 4 k a).map fun (d, S) => (avOf k d, S)
  | .agg ks, .agg l => if l.length = ks.length then (cellsD (asD Λ h 4) ks l).map fun (ds, S) => (.agg (avsAt [ds] 0 ks 0), S) else none
  | _, _ => none
def argsA (Λ : Nat → List CK) (h : Hp) : List AK → List AV → Option (List AV × List Nat)
  | [], [] => some ([], [])
  | k :: ks, a :: l => match argA Λ h k a, argsA Λ h ks l with
    | some (x, S), some (xs, S') => some (x :: xs, S ++ S')
    | _, _ => none
  | _, _ => none

/-- It holds no memory. -/
def AV.flat1 : AV → Bool
  | .int .. | .bool .. | .str .. => true
  | _ => false
def AV.flat : AV → Bool
  | .agg l => l.all AV.flat1
  | .tup l => l.all fun a => match a with | .agg m => m.all AV.flat1 | a => a.flat1
  | a => a.flat1

section
variable {α : Type} (P : Program) (Λ : Nat → List CK) (Γ : List (Nat × CE)) (gl : List (Nat × Nat))

def ev (fr : Fr) : Operand → AV
  | .tmp t => fr.getD t .junk
  | .const v => ofV v
  | .global g => match gl.lookup g with | some i => .ptr i 0 | none => .val (.pointer (some ⟨g, 0, none⟩))
  | .func f => .fn f [] []

def putA (fr : Fr) (dst : Option Tmp) (v : AV) : Fr := match dst with | some d => fr.set d v | none => fr

def isAggT (t : TypeId) : Option Bool :=
  match P.underlying t with
  | some (.struct _) => some true
  | some (.array _ _) => some true
  | some _ => some false
  | none => none

def szT (t : TypeId) : Option Nat := (P.info? t).map (·.size)

/-- A part of written-out cells. -/
def partA (t : TypeId) (cs : List AV) (off : Nat) : Option AV :=
  match isAggT P t, szT P t with
  | some true, some n => if off + n ≤ cs.length then some (.agg ((cs.drop off).take n)) else none
  | some false, _ => cs[off]?
  | _, _ => none

def loadA (h : Hp) (t : TypeId) : AV → Option AV
  | .ptr b o => match h[b]? with
    | some (.cells _ cs _) => partA P t cs o
    | _ => none
  | .sp e l i o => partA P t (avsAt l i (Λ e) 0) o
  | .ep r q m i o => match h[r]? with
    | some (.row e v _ l) => if q = v ∧ m = (Λ e).length then partA P t (avsAt l i (Λ e) 0) o else none
    | _ => none
  | _ => none

def zeroA (t : TypeId) : Option (List AV) :=
  match P.info? t with
  | some i => match i.zero with
    | some z => some (z.cells.toList.map ofC)
    | none => none
  | none => none

/-- Parts laid into cells. -/
def fillA (place : Nat → Option (Nat × Nat)) (cells : List AV) : List (Nat × AV) → Option (List AV)
  | [] => some cells
  | (i, v) :: rest => match place i with
    | none => none
    | some (off, size) => if v.known && (v.cells.length == size) && decide (off + size ≤ cells.length) then fillA place (cells.take off ++ v.cells ++ cells.drop (off + size)) rest else none

def buildA (t : TypeId) (parts : List (Nat × AV)) : Option AV :=
  match P.info? t, P.underlying t with
  | some it, some (.array _ e) =>
    match it.zero, P.info? e with
    | some z, some ie => (fillA (fun i => some (i * ie.size, ie.size)) (z.cells.toList.map ofC) parts).map .agg
    | _, _ => none
  | some it, some (.struct fields) =>
    match it.zero, fields.toList.mapM (fun f => (P.info? f.type).map fun i => (f.offset, i.size)) with
    | some z, some places => (fillA (places[·]?) (z.cells.toList.map ofC) parts).map .agg
    | _, _ => none
  | _, _ => none

/-- Equality of cells: of numbers, bools and texts alone. -/
def eqCell (t : TypeId) : AV → AV → Option Bool
  | .int k a, .int k' b => match P.underlying t with
    | some (.int _) => if k = k' then some (a == b) else none
    | _ => none
  | .bool a, .bool b => match P.underlying t with
    | some .bool => some (a == b)
    | _ => none
  | .str a, .str b => match P.underlying t with
    | some .string => some (a.toList == b.toList)
    | _ => none
  | _, _ => none

def eqFieldsA (xs ys : List AV) : List Field → Option Bool
  | [] => some true
  | f :: fs => if f.name == "_" then none else
    match isAggT P f.type, xs[f.offset]?, ys[f.offset]? with
    | some false, some a, some b => match eqCell P f.type a b, eqFieldsA xs ys fs with
      | some p, some q => some (p && q)
      | _, _ => none
    | _, _, _ => none

/-- Is a slice nil? -/
def nilA (h : Hp) : AV → Option Bool
  | .val (.slice none 0 0) => some true
  | .sl _ _ _ _ => some false
  | .rs r q => match h[r]? with
    | some (.row _ v true l) => if q = v then some (match l with | [] => true | _ :: _ => false) else none
    | _ => none
  | _ => none

def eqA (h : Hp) (t : TypeId) : AV → AV → Option Bool
  | .agg xs, .agg ys => match P.underlying t with
    | some (.struct fs) => if P.stoodInHeld t || P.eqGuardType P.depth t then none else eqFieldsA P xs ys fs.toList
    | _ => none
  | .int k a, .int k' b => if k = k' then some (a == b) else none
  | .bool a, .bool b => match P.underlying t with
    | some .bool => some (a == b)
    | _ => none
  | .str a, .str b => some (a.toList == b.toList)
  | _, _ => none

def intA (op : BinOp) (i : IntKind) (a : Int) (j : IntKind) (b : Int) (k : AV → Option α) : Option α :=
  match op with
  | .shl => if 0 ≤ b then k (.int i (i.wrap (a * 2 ^ (min b.toNat i.bits)))) else none
  | .shr => if 0 ≤ b then k (.int i (a.fdiv (2 ^ (min b.toNat i.bits)))) else none
  | .add => if i = j then k (.int i (i.wrap (a + b))) else none
  | .sub => if i = j then k (.int i (i.wrap (a - b))) else none
  | .mul => if i = j then k (.int i (i.wrap (a * b))) else none
  | .quo => if i = j then (if b = 0 then none else k (.int i (i.wrap (a.tdiv b)))) else none
  | .rem => if i = j then (if b = 0 then none else k (.int i (a.tmod b))) else none
  | .lss => if i = j then k (.bool (decide (a < b))) else none
  | .leq => if i = j then k (.bool (decide (a ≤ b))) else none
  | .gtr => if i = j then k (.bool (decide (a > b))) else none
  | .geq => if i = j then k (.bool (decide (a ≥ b))) else none
  | _ => none

def strA (op : BinOp) (a b : ByteArray) (k : AV → Option α) : Option α :=
  match op with
  | .add => if ((a.size + b.size : Nat) : Int) > IntKind.i64.max then none else k (.str (a ++ b))
  | .lss => k (.bool (Op.bytesLess a.toList b.toList))
  | .leq => k (.bool (Op.bytesLess a.toList b.toList || a.toList == b.toList))
  | .gtr => k (.bool (!(Op.bytesLess a.toList b.toList || a.toList == b.toList)))
  | .geq => k (.bool (!Op.bytesLess a.toList b.toList))
  | _ => none

def binA (h : Hp) (op : BinOp) (t : TypeId) (x y : AV) (k : AV → Option α) : Option α :=
  match op with
  | .eql => match eqA P h t x y with | some b => k (.bool b) | none => none
  | .neq => match eqA P h t x y with | some b => k (.bool (!b)) | none => none
  | op => match x, y with
    | .int i a, .int j b => intA op i a j b k
    | .str a, .str b => strA op a b k
    | _, _ => none

def unA (op : UnOp) (x : AV) (k : AV → Option α) : Option α :=
  match op, x with
  | .neg, .int i n => k (.int i (i.wrap (0 - n)))
  | .not, .bool b => k (.bool (!b))
  | _, _ => none

def pickA (c a b : AV) (k : AV → Option α) : Option α :=
  match c with
  | .bool c => match c with
    | true => k a
    | false => k b
  | _ => none

/-- A byte of a text. -/
def byteAt (s : ByteArray) (i : Int) : Int := ((s.data.toList.getD i.toNat 0).toNat : Int)

/-- Cells that are all bytes. -/
def bytesA : List AV → Option (List Int)
  | [] => some []
  | .int .u8 n :: l => (bytesA l).map (n :: ·)
  | _ :: _ => none
def bytesOf (l : List Int) : ByteArray := ⟨(l.map fun n => UInt8.ofNat n.toNat).toArray⟩

def convA (h : Hp) (src dst : TypeId) (x : AV) (k : AV → Option α) : Option α :=
  match P.underlying src, P.underlying dst, x with
  | some (.slice e), some .string, .sl b o n _ => match P.underlying e, h[b]? with
    | some (.int .u8), some (.cells _ c _) => if o + n ≤ c.length then (match bytesA ((c.drop o).take n) with | some l => k (.str (bytesOf l)) | none => none) else none
    | _, _ => none
  | some (.int _), some (.int j), .int i n => k (.int j (j.wrap n))
  | some .string, some .string, .str s => k (.str s)
  | some (.int _), some .string, .int _ n => k (.str (Utf8.encode n))
  | _, _, _ => none

def fieldAddrA (t : TypeId) (x : AV) (f : Nat) : Option AV :=
  match P.underlying t with
  | some (.struct fs) => match fs[f]? with
    | some q => match szT P q.type with
      | some n => if n = 0 then none else (match x with
        | .ptr b o => some (.ptr b (o + q.offset))
        | .sp e l i o => some (.sp e l i (o + q.offset))
        | .ep r v m i o => some (.ep r v m i (o + q.offset))
        | _ => none)
      | none => none
    | none => none
  | _ => none

def fieldA (t : TypeId) (x : AV) (f : Nat) : Option AV :=
  match P.underlying t, x with
  | some (.struct fs), .agg l => match fs[f]? with
    | some q => partA P q.type l q.offset
    | none => none
  | _, _ => none

def sliceStrA (s : ByteArray) (lo hi : AV) (k : AV → Option α) : Option α :=
  match lo, hi with
  | .int _ l, .int _ h => if 0 ≤ h ∧ h ≤ (s.size : Int) then (if 0 ≤ l ∧ l ≤ h then k (.str (s.extract l.toNat h.toNat)) else none) else none
  | _, _ => none

def sliceSeqA (t : Nat) (s : List (List D)) (lo hi : AV) (k : AV → Option α) : Option α :=
  match lo, hi with
  | .int _ l, .int _ h => if 0 ≤ h ∧ h ≤ (s.length : Int) then (if 0 ≤ l ∧ l ≤ h then k (.seq t ((s.take h.toNat).drop l.toNat)) else none) else none
  | _, _ => none

/-- How long a slice is. -/
def lenA (h : Hp) : AV → Option Nat
  | .sl _ _ n _ => some n
  | .val (.slice _ n _) => some n
  | .seq _ l => some l.length
  | .rs r q => match h[r]? with
    | some (.row _ v _ l) => if q = v then some l.length else none
    | some (.froz _ v l) => if q = v then some l.length else none
    | _ => none
  | _ => none

def builtinA (h : Hp) (b : Builtin) (argTypes : Array TypeId) (args : List AV) (k : AV → Option α) : Option α :=
  match b, args with
  | .len, [.str s] => match (argTypes[0]?).bind P.underlying with
    | some .string => k (.int .i64 s.size)
    | _ => none
  | .len, [x] => match (argTypes[0]?).bind P.underlying with
    | some (.slice _) => match lenA h x with
      | some n => k (.int .i64 n)
      | none => none
    | _ => none
  | .min, [.int i x, .int j y] => k (.int i (if y < x then y else x))
  | .max, [.int i x, .int j y] => k (.int i (if y > x then y else x))
  | _, _ => none

/-- One of the first n numbers. -/
def pickN (j : Int) (k : Nat → Option α) : Nat → Option α
  | 0 => none
  | n + 1 => if j = (n : Int) then k n else pickN j k n

/-- The address of an element. -/
def indexAddrA (h : Hp) (t : TypeId) (x i : AV) (k : AV → Option α) : Option α :=
  match P.underlying t, i with
  | some (.slice e), .int _ j => match szT P e with
    | some z => (match x with
      | .sl b o n _ => pickN j (fun m => k (.ptr b (o + m * z))) n
      | .seq t l => if z = (Λ t).length then (if 0 ≤ j ∧ j < (l.length : Int) then k (.sp t l j.toNat 0) else none) else none
      | .rs r q => match h[r]? with
        | some (.row t v _ l) => if q = v ∧ z = (Λ t).length then (if 0 ≤ j ∧ j < (l.length : Int) then k (.ep r v z j.toNat 0) else none) else none
        | some (.froz t v l) => if q = v ∧ z = (Λ t).length then (if 0 ≤ j ∧ j < (l.length : Int) then k (.sp t l j.toNat 0) else none) else none
        | _ => none
      | _ => none)
    | none => none
  | some (.array n e), .int _ j => match szT P e, x with
    | some z, .ptr b o => pickN j (fun m => k (.ptr b (o + m * z))) n
    | _, _ => none
  | _, _ => none

/-- A call that turns no memory: of a function that tells, whose arguments are data. -/
def callQ (h : Hp) (args : List AV) (f : Nat) : Option (Option Out) :=
  match Γ.lookup f with
  | some ce => match argsA Λ h ce.ks args with
    | some (as, S) => (match S with
      | [] => (match ce.mode with | .own => none | _ => some (ce.tells as))
      | _ :: _ => (match ce.mode with | .flat => some (ce.tells as) | _ => none))
    | none => none
  | none => none
/-- The answer's shape is the one that was announced. -/
def okRet (Γ : List (Nat × CE)) (f : Nat) (v : AV) : Bool :=
  match Γ.lookup f with
  | some ce => (match ce.mode with | .flat => v.flat | _ => true)
  | none => false

/-- An operation that writes nothing. -/
def quietA (fr : Fr) (h : Hp) (op : Op) (k : AV → Option α) : Option α :=
  match op with
  | .move x => k (ev gl fr x)
  | .assign x => k (ev gl fr x)
  | .pick c a b => pickA (ev gl fr c) (ev gl fr a) (ev gl fr b) k
  | .build t parts => match buildA P t (parts.toList.map fun p => (p.1, ev gl fr p.2)) with | some v => k v | none => none
  | .load t p => match loadA P Λ h t (ev gl fr p) with | some v => k v | none => none
  | .nilCheck x => match ev gl fr x with
    | .ptr b o => k (.ptr b o)
    | .sp t l i o => k (.sp t l i o)
    | .ep r v m i o => k (.ep r v m i o)
    | .fn f a c => k (.fn f a c)
    | _ => none
  | .binOp o t x y _ => binA P h o t (ev gl fr x) (ev gl fr y) k
  | .unOp o _ x => unA o (ev gl fr x) k
  | .convert s d x => convA P h s d (ev gl fr x) k
  | .fieldAddr t x f => match fieldAddrA P t (ev gl fr x) f with | some v => k v | none => none
  | .indexAddr t x i => indexAddrA P Λ h t (ev gl fr x) (ev gl fr i) k
  | .field t x f => match fieldA P t (ev gl fr x) f with | some v => k v | none => none
  | .index t x i => match P.underlying t, ev gl fr x, ev gl fr i with
    | some .string, .str s, .int _ n => if 0 ≤ n ∧ n < (s.size : Int) then k (.int .u8 (byteAt s n)) else none
    | _, _, _ => none
  | .slice t x lo hi mx => match P.underlying t, ev gl fr x, mx with
    | some .string, .str s, none => sliceStrA s (match lo with | some l => ev gl fr l | none => .int .i64 0) (match hi with | some l => ev gl fr l | none => .int .i64 s.size) k
    | some (.slice e), .seq t' l, none => if szT P e = some (Λ t').length then sliceSeqA t' l (match lo with | some l => ev gl fr l | none => .int .i64 0) (match hi with | some l => ev gl fr l | none => .int .i64 l.length) k else none
    | _, _, _ => none
  | .extract x i => match ev gl fr x with
    | .tup l => match l[i]? with | some v => k v | none => none
    | _ => none
  | .makeInterface t x => match P.underlying t with
    | some (.interface _) => none
    | some _ => k (.ifc t (ev gl fr x))
    | none => none
  | .makeFunc (.func f) first cap => k (.fn f (first.toList.map (ev gl fr)) (cap.toList.map (ev gl fr)))
  | .call c => match c.callee with
    | .builtin b => builtinA P h b c.argTypes (c.args.toList.map (ev gl fr)) k
    | .value x => match ev gl fr x with
      | .fn f first cap => match callQ Λ Γ h (first ++ c.args.toList.map (ev gl fr) ++ cap) f with
        | some (some (.mk _ x _ sel _)) => x.bind fun r => sel α r fun res => match res with
          | .ret v => if okRet Γ f v then k v else none
          | .pan _ => none
        | _ => none
      | _ => none
    | _ => none
  | _ => none

/-- The cells of a slice that is written out. -/
def rowA (t : TypeId) (len : Nat) (parts : List (Nat × AV)) : Option (TypeId × List AV) :=
  match P.underlying t with
  | some (.slice e) => match P.info? e with
    | some ie => match ie.zero with
      | some z => if ie.size = z.cells.size ∧ 0 < ie.size ∧ len * ie.size ≤ 16777216 then
          (fillA (fun i => some (i * ie.size, ie.size)) (List.replicate len (z.cells.toList.map ofC)).flatten parts).map fun l => (e, l)
        else none
      | none => none
    | none => none
  | _ => none

/-- Where a store goes, and how that block reads then; and which blocks are written no more. -/
def storeA (h : Hp) (t : TypeId) (p v : AV) : Option (Nat × Blk × List Nat) :=
  match p with
  | .ptr b o => match h[b]?, szT P t with
    | some (.cells e cs .own), some n => if v.known && (v.cells.length == n) && decide (o + n ≤ cs.length) then some (b, .cells e (cs.take o ++ v.cells ++ cs.drop (o + n)) .own, []) else none
    | _, _ => none
  | .ep r q m i o => match h[r]?, szT P t with
    | some (.row e ver nb l), some n => if q = ver ∧ m = (Λ e).length ∧ v.known = true ∧ v.cells.length = n ∧ o + n ≤ m then
        match cellsD (asD Λ h 4) (((Λ e).drop o).take n) v.cells with
        | some (ds, S) => if S.contains r then none else some (r, .row e ver nb (l.set i ((atsRow l i 0 m).take o ++ ds ++ (atsRow l i 0 m).drop (o + n))), S)
        | none => none
      else none
    | _, _ => none
  | _ => none

/-- What is appended, as elements. -/
def srcA (h : Hp) (t : Nat) (x : AV) : Option (List (List D) × List Nat) :=
  match asD Λ h 4 (.seq t) x with
  | some (.seq l, S) => some (l, S)
  | _ => none

/-- The row that a slice is, made if there is none. -/
def baseA (h : Hp) (e : TypeId) : AV → Option (Hp × Nat × Nat × Bool × List (List D))
  | .val (.slice none 0 0) => some (h ++ [.row e 0 true []], h.length, 0, true, [])
  | .rs r q => match h[r]? with
    | some (.row t v nb l) => if q = v ∧ t = e then some (h, r, v, nb, l) else none
    | _ => none
  | _ => none

def appendA (fr : Fr) (h : Hp) (c : Call) (dst : Option Tmp) (k : Fr → Hp → Option α) : Option α :=
  match c.args.toList with
  | [s, x] =>
    match (c.argTypes[0]?).bind P.underlying with
    | some (.slice e) =>
      match P.info? e with
      | some ie =>
        if c.argTypes[1]? = c.argTypes[0]? ∧ ie.size = (Λ e).length ∧ 0 < ie.size ∧ ie.zero.any (fun z => z.cells.size == ie.size) = true ∧ 0 < ie.bytes ∧ ie.bytes ≤ 4096 then
          match srcA Λ h e (ev gl fr x), baseA h e (ev gl fr s) with
          | some (m, S), some (h', r, v, nb, l) =>
            if S.contains r then none else
            if l.length + m.length ≤ 1073741824 then
              forceH ((frzA h' S).set r (.row e (v + 1) nb (l ++ m))) fun h => forceL (putA fr dst (.rs r (v + 1))) fun fr => k fr h
            else none
          | _, _ => none
        else none
      | none => none
    | _ => none
  | _ => none

/-- Slices of the caller's own are taken over. -/
def adopt1 (h : Hp) : AV → AV × Hp
  | .own t l => (.rs h.length 0, h ++ [.row t 0 false l])
  | a => (a, h)
def adoptL : Hp → List AV → List AV × Hp
  | h, [] => ([], h)
  | h, a :: l => let (a, h) := adopt1 h a; let (l, h) := adoptL h l; (a :: l, h)

def doA (inl : Nat → List AV → Hp → (Res → Hp → Option α) → Option α) (fr : Fr) (h : Hp) (o : Oper) (k : Fr → Hp → Option α) (kp : Value → Fr → Hp → Option α) : Option α :=
  match o.op with
  | .alloc t => match zeroA P t with
    | some z => forceC z fun z => forceL (putA fr o.dst (.ptr h.length 0)) fun fr => forceL (h ++ [.cells t z .own]) fun h => k fr h
    | none => none
  | .box t x => if (ev gl fr x).known then forceC (ev gl fr x).cells fun z => forceL (putA fr o.dst (.ptr h.length 0)) fun fr => forceL (h ++ [.cells t z .own]) fun h => k fr h else none
  | .buildSlice t len parts => match rowA P t len (parts.toList.map fun p => (p.1, ev gl fr p.2)) with
    | some (e, l) => forceC l fun l => forceL (putA fr o.dst (.sl h.length 0 len len)) fun fr => forceL (h ++ [.cells e l .own]) fun h => k fr h
    | none => none
  | .store t p x => match storeA P Λ h t (ev gl fr p) (ev gl fr x) with
    | some (b, c, S) => forceB c fun c => forceH ((frzA h S).set b c) fun h => forceL (putA fr o.dst .junk) fun fr => k fr h
    | none => none
  | .call c => match c.callee with
    | .builtin .append => appendA P Λ gl fr h c o.dst k
    | .builtin b => quietA P Λ Γ gl fr h (.call c) (fun v => headK v fun v => forceL (putA fr o.dst v) fun fr => k fr h)
    | .value x => match ev gl fr x with
      | .fn f first cap => match Γ.lookup f with
        | none => inl f (first ++ c.args.toList.map (ev gl fr) ++ cap) h fun e h' => if h.length ≤ h'.length then (match e with
          | .ret v => headK v fun v => forceL (putA fr o.dst v) fun fr => k fr h'
          | .pan v => kp v fr h') else none
        | some ce => match argsA Λ h ce.ks (first ++ c.args.toList.map (ev gl fr) ++ cap) with
          | some (as, S) => match ce.tells as with
            | some (.mk _ x _ sel _) => x.bind fun r => sel α r fun res => match res with
              | .pan v => kp v fr h
              | .ret v => (match ce.mode with
                | .flat => if v.flat then headK v fun v => forceL (putA fr o.dst v) fun fr => k fr h else none
                | .froz => forceH (frzA h S) fun h => headK v fun v => forceL (putA fr o.dst v) fun fr => k fr h
                | .own => none)
            | none => none
          | none => none
      | _ => none
    | _ => none
  | .panic x => match ev gl fr x with
    | .ifc t (.agg []) => kp (.iface t (.agg #[])) fr h
    | _ => none
  | .range t x => match P.underlying t, ev gl fr x with
    | some .string, .str s => forceL (putA fr o.dst (.ptr h.length 0)) fun fr => forceH (h ++ [.iter s 0]) fun h => k fr h
    | _, _ => none
  | .next it true => match ev gl fr it with
    | .ptr b 0 => match h[b]? with
      | some (.iter s pos) => if pos < s.size then
          forceL (putA fr o.dst (.tup [.bool true, .int .i64 pos, .int .i32 (Utf8.decode s pos).1])) fun fr => forceH (h.set b (.iter s (pos + (Utf8.decode s pos).2))) fun h => k fr h
        else forceL (putA fr o.dst (.tup [.bool false])) fun fr => k fr h
      | _ => none
    | _ => none
  | op => quietA P Λ Γ gl fr h op (fun v => headK v fun v => forceL (putA fr o.dst v) fun fr => k fr h)

/-- What stands behind a guard. -/
def guardA (ops : List Oper) (fr : Fr) (o : Oper) (yes no : Fr → Option α) : Option α :=
  match o.guard with
  | none => yes fr
  | some (j, want) => match (ops[j]?).bind (·.dst) with
    | none => none
    | some t => match fr.getD t .junk with
      | .bool b => match b with
        | true => forceL (fr.set t (.bool true)) fun fr => match want with | true => yes fr | false => no fr
        | false => forceL (fr.set t (.bool false)) fun fr => match want with | true => no fr | false => yes fr
      | .tup _ => no fr
      | _ => none

/-- Does it act: 0 no, 1 it makes a block, 2 it writes. -/
def kindA (fr : Fr) (h : Hp) (op : Op) : Nat :=
  match op with
  | .alloc _ => 1
  | .box _ _ => 1
  | .buildSlice _ _ _ => 1
  | .store _ _ _ => 2
  | .range _ _ => 1
  | .next _ _ => 2
  | .panic _ => 2
  | .call c => match c.callee with
    | .builtin .append => 2
    | .builtin _ => 0
    | .value x => match ev gl fr x with
      | .fn f first cap => match Γ.lookup f with
        | none => 2
        | some ce => match argsA Λ h ce.ks (first ++ c.args.toList.map (ev gl fr) ++ cap) with
          | some (_, S) => (match S with
            | [] => (match ce.mode with | .own => 2 | _ => 0)
            | _ :: _ => (match ce.mode with | .flat => 0 | _ => 2))
          | none => 0
      | _ => 0
    | _ => 0
  | _ => 0
/-- A quiet one that looks into memory. -/
def readsM : Op → Bool
  | .load _ _ => true
  | .convert _ _ _ => true
  | .indexAddr _ _ _ => true
  | .call _ => true
  | _ => false

def opsA (inl : Nat → List AV → Hp → (Res → Hp → Option α) → Option α) (ops : List Oper) : List Oper → Fr → Hp → (Exit → Fr → Hp → Option α) → Option α
  | [], fr, h, k => k .normal fr h
  | o :: rest, fr, h, k => guardA ops fr o
      (fun fr => doA P Λ Γ gl inl fr h o (fun fr h => opsA inl ops rest fr h k) (fun v fr h => k (.panic [{ v, recovered := false }]) fr h))
      (fun fr => forceL (putA fr o.dst (.tup [])) fun fr => opsA inl ops rest fr h k)

/-- The places that an operation looks at. -/
def looks (ops : List Oper) (o : Oper) : List Tmp :=
  (o.op.operands.toList.filterMap fun | .tmp t => some t | _ => none) ++
  (match o.guard with
   | some (j, _) => ((ops[j]?).bind (·.dst)).toList
   | none => [])

/-- Each operation comes behind those whose places it looks at (or they are bound to come behind it), and no two write one place, and those that act are in order: then the order is all one. -/
def orderly (ops : List Oper) (ks : List Nat) : Bool :=
  ops.zipIdx.all fun (o, i) =>
    (o.after.toList.all fun e => !Region.binds .any e || decide (e.on < i)) &&
    (ops.zipIdx.all fun (p, j) => !(ks.getD i 0 != 0 && ks.getD j 0 != 0 || readsM o.op && ks.getD j 0 == 2 || ks.getD i 0 == 2 && readsM p.op) || decide (i ≤ j) || o.after.toList.any fun e => e.on == j && Region.binds .any e) &&
    (ops.zipIdx.all fun (p, j) => match p.dst with
      | none => true
      | some t => (i == j || o.dst != some t) && (!(looks ops o).contains t || (decide (j < i) && o.after.toList.any fun e => e.on == j && Region.binds .any e) || (decide (i < j) && p.after.toList.any fun e => e.on == i && Region.binds .any e)))

/-- Operations whose order is open. -/
def opsQ (inl : Nat → List AV → Hp → (Res → Hp → Option α) → Option α) (ops : List Oper) : List Oper → List Nat → Fr → Hp → (Fr → Hp → Option α) → Option α
  | [], ks, fr, h, k => if orderly ops ks then k fr h else none
  | o :: rest, ks, fr, h, k => guardA ops fr o
      (fun fr => match kindA Λ Γ gl fr h o.op with
        | 0 => quietA P Λ Γ gl fr h o.op (fun v => headK v fun v => forceL (putA fr o.dst v) fun fr => opsQ inl ops rest (ks ++ [0]) fr h k)
        | 1 => doA P Λ Γ gl inl fr h o (fun fr h => opsQ inl ops rest (ks ++ [1]) fr h k) (fun _ _ _ => none)
        | _ => doA P Λ Γ gl inl fr h o (fun fr h => opsQ inl ops rest (ks ++ [2]) fr h k) (fun _ _ _ => none))
      (fun fr => forceL (putA fr o.dst (.tup [])) fun fr => opsQ inl ops rest (ks ++ [0]) fr h k)

/-- Places that are looked at no more are forgotten (so that ways that meet again read alike). -/
def drops (fr : Fr) : List Nat → Fr
  | [] => fr
  | t :: l => drops (fr.set t .junk) l
def dropsR (J : List (Nat × List Nat)) (id : Nat) (fr : Fr) : Fr := match J.lookup id with | some l => drops fr l | none => fr

/-- A test's place reads as it was decided; or is forgotten (the key 1000000 + place). -/
def fixB (J : List (Nat × List Nat)) (fr : Fr) (c : Operand) (b : Bool) : Fr := match c with
  | .tmp i => match J.lookup (1000000 + i) with
    | some l => drops fr l
    | none => fr.set i (.bool b)
  | _ => fr

/-- The number of a loop: that of the first region in it. -/
def loopKey : Code → Nat
  | .region id _ _ => id
  | .seq a b => match loopKey a with | 0 => loopKey b | n => n
  | .cond _ a b => match loopKey a with | 0 => loopKey b | n => n
  | .block _ c => loopKey c
  | .loop c => loopKey c
  | _ => 0

/-- A loop of at most so many rounds. -/
def loopA (step : Fr → Hp → (Exit → Fr → Hp → Option α) → Option α) : Nat → Fr → Hp → (Exit → Fr → Hp → Option α) → Option α
  | 0, _, _, _ => none
  | n + 1, fr, h, k => step fr h fun e fr' h' => match e with
    | .normal => loopA step n fr' h' k
    | e => k e fr' h'

def execA (inl : Nat → List AV → Hp → (Res → Hp → Option α) → Option α) (C : Cfg) (n0 : Nat) : Code → Fr → Hp → (Exit → Fr → Hp → Option α) → Option α
  | .skip, fr, h, k => k .normal fr h
  | .region id ops draw, fr, h, k =>
    match draw with
    | false => opsA P Λ Γ gl inl ops.toList ops.toList fr h (fun e fr h => match e with
      | .normal => forceL (dropsR C.J id fr) fun fr => k .normal fr h
      | e => k e fr h)
    | true => opsQ P Λ Γ gl inl ops.toList ops.toList [] fr h (fun fr h => forceL (dropsR C.J id fr) fun fr => k .normal fr h)
  | .seq a b, fr, h, k => execA inl C n0 a fr h fun e fr h => match e with
    | .normal => execA inl C n0 b fr h k
    | e => k e fr h
  | .cond c a b, fr, h, k => match ev gl fr c with
    | .bool t => match t with
      | true => forceL (fixB C.J fr c true) fun fr => execA inl C n0 a fr h k
      | false => forceL (fixB C.J fr c false) fun fr => execA inl C n0 b fr h k
    | _ => none
  | .block id c, fr, h, k => execA inl C n0 c fr h fun e fr h => match e with
    | .exit i => if i = id then k .normal fr h else k (.exit i) fr h
    | e => k e fr h
  | .loop c, fr, h, k => match C.LS.lookup (loopKey c) with
    | some (n, s) => if n0 ≤ n then (match s fr h with
      | some (.mk _ x _ sel _) => x.bind fun t => sel α t fun e fr h => forceL fr fun fr => forceH h fun h => k e fr h
      | none => none) else none
    | none => loopA (fun fr h k => execA inl C n0 c fr h k) C.rounds fr h k
  | .exit i, fr, h, k => k (.exit i) fr h
  | .label _, fr, h, k => k .normal fr h
  | .ret, fr, h, k => k .ret fr h
  | _, _, _, _ => none

def resA (fr : Fr) (h : Hp) : List ResultVar → Option (List AV)
  | [] => some []
  | .tmp t :: rs => (resA fr h rs).map (fr.getD t .junk :: ·)
  | .cell p t :: rs => match loadA P Λ h t (fr.getD p .junk), resA fr h rs with
    | some v, some l => some (v :: l)
    | _, _ => none

def oneA : List AV → AV
  | [v] => v
  | l => .tup l

/-- A function's body, at arguments. -/
def bodyA (inl : Nat → List AV → Hp → (Res → Hp → Option α) → Option α) (C : Cfg) (fn : Func) (args : List AV) (h : Hp) (k : Res → Hp → Option α) : Option α :=
  match fn.body with
  | some c => forceL (args ++ List.replicate (fn.ntmps - args.length) .junk) fun fr => execA P Λ Γ gl inl C h.length c fr h fun e fr h => match e with
    | .normal => match resA P Λ fr h fn.results.toList with
      | some l => k (.ret (oneA l)) h
      | none => none
    | .ret => match resA P Λ fr h fn.results.toList with
      | some l => k (.ret (oneA l)) h
      | none => none
    | .panic [e] => (match e with
      | { v := v, recovered := false, goexit := false } => k (.pan v) h
      | _ => none)
    | _ => none
  | none => none

/-- Functions whose bodies are run in place. -/
def inlA (IN : List (Nat × Func × Cfg)) : Nat → Nat → List AV → Hp → (Res → Hp → Option α) → Option α
  | 0, _, _, _, _ => none
  | d + 1, f, args, h, k => match IN.lookup f with
    | some (fn, C) => bodyA P Λ Γ [] (inlA IN d) C fn args h k
    | none => none

/-! ### what a function answers, as data -/
/-- An answer as it is handed over. -/
def resK (h : Hp) : List AK → List AV → Option (List AV × List Nat) := argsA Λ h
def finA (ks : List AK) (r : Res) (h : Hp) (k : Res → Option α) : Option α :=
  match r with
  | .pan v => k (.pan v)
  | .ret v => match ks with
    | [q] => (match argA Λ h q v with
      | some (v, _) => k (.ret v)
      | none => none)
    | ks => match v with
      | .tup l => (match argsA Λ h ks l with
        | some (l, _) => k (.ret (.tup l))
        | none => none)
      | _ => none
/-- A function, at arguments: what it answers is handed over as data. -/
def runA (IN : List (Nat × Func × Cfg)) (d : Nat) (C : Cfg) (fn : Func) (args : List AV) (h : Hp) (ks : List AK) (k : Res → Option α) : Option α :=
  bodyA P Λ Γ gl (inlA P Λ Γ IN d) C fn args h fun r h => finA Λ ks r h k

/-! ### a loop's state, as data -/
inductive Tp where
  | junk
  | int (k : IntKind)
  | bool
  | str
  | seq (t : Nat)
  | ptr (b o : Nat)
  | sl (b o n c : Nat)
  | rs (j v : Nat)
  | fn (f : Nat) (first cap : List Tp)
  | nil
  | agg (l : List Tp)
  deriving Inhabited
inductive TB where
  | cells (e : TypeId) (l : List Tp) (md : Md)
  | row (e : TypeId) (nb : Bool) (v : Nat)
  | froz (e : TypeId) (v : Nat)
  | iter
  | gone
  deriving Inhabited
structure TS where
  fr : List Tp
  h : List TB
  /-- Where the blocks are found: so many stay; the others by a place of the frame, or by a cell of the block that it points to. -/
  keep : Nat
  at_ : List (Nat × Option Nat)

mutual
/-- The data of a value, laid along its template. -/
def extT (tv : List Nat) (ρ : List (Option Nat)) (h : Hp) : Tp → AV → Option (List D)
  | .junk, _ => some []
  | .int k, .int k' n => if k = k' then some [.int n] else none
  | .bool, .bool b => some [.bool b]
  | .str, .str s => some [.str s]
  | .seq t, .seq t' l => if t = t' then some [.seq l] else none
  | .seq _, .val (.slice none 0 0) => some [.seq []]
  | .ptr b o, .ptr b' o' => if ρ[b]? = some (some b') ∧ o = o' then some [] else none
  | .sl b o n c, .sl b' o' n' c' => if ρ[b]? = some (some b') ∧ o = o' ∧ n = n' ∧ c = c' then some [] else none
  | .rs j v, .rs r q => if ρ[j]? = some (some r) ∧ v ≤ tv.getD j 0 then (match h[r]? with
    | some (.row _ v _ _) => if q = v then some [] else none
    | some (.froz _ v _) => if q = v then some [] else none
    | _ => none) else none
  | .rs j v, .val (.slice none 0 0) => if ρ[j]? = some none ∧ v ≤ tv.getD j 0 then some [] else none
  | .fn f l m, .fn f' l' m' => if f = f' then (match extTs tv ρ h l l', extTs tv ρ h m m' with
    | some x, some y => some (x ++ y)
    | _, _ => none) else none
  | .nil, .val (.slice none 0 0) => some []
  | .agg l, .agg l' => extTs tv ρ h l l'
  | _, _ => none
def extTs (tv : List Nat) (ρ : List (Option Nat)) (h : Hp) : List Tp → List AV → Option (List D)
  | [], [] => some []
  | t :: ts, a :: l => match extT tv ρ h t a, extTs tv ρ h ts l with
    | some x, some y => some (x ++ y)
    | _, _ => none
  | _, _ => none
end
mutual
/-- .. and back; what is left of the data. -/
def bldT : Tp → List D → AV × List D
  | .junk, d => (.junk, d)
  | .int k, d => match d with
    | .int n :: r => (.int k n, r)
    | _ => (.junk, d)
  | .bool, d => match d with
    | .bool b :: r => (.bool b, r)
    | _ => (.junk, d)
  | .str, d => match d with
    | .str s :: r => (.str s, r)
    | _ => (.junk, d)
  | .seq t, d => match d with
    | .seq l :: r => (.seq t l, r)
    | _ => (.junk, d)
  | .ptr b o, d => (.ptr b o, d)
  | .sl b o n c, d => (.sl b o n c, d)
  | .rs j v, d => (.rs j v, d)
  | .fn f l m, d => let x := bldTs l d; let y := bldTs m x.2; (.fn f x.1 y.1, y.2)
  | .nil, d => (.val (.slice none 0 0), d)
  | .agg l, d => let x := bldTs l d; (.agg x.1, x.2)
def bldTs : List Tp → List D → List AV × List D
  | [], d => ([], d)
  | t :: ts, d => let x := bldT t d; let y := bldTs ts x.2; (x.1 :: y.1, y.2)
end

def extB (tv : List Nat) (keep : Bool) (ρ : List (Option Nat)) (h : Hp) : TB → Option Nat → Option (List D)
  | .gone, _ => some []
  | .cells e l md, some b => match h[b]? with
    | some (.cells e' l' md') => if e = e' ∧ md = md' then extTs tv ρ h l l' else none
    | _ => none
  | .row e nb v, some b => match h[b]? with
    | some (.row e' v' nb' l) => if e = e' ∧ (nb = true → nb' = true) ∧ (keep = true → v = v') then some [.seq l] else none
    | _ => none
  | .row _ _ _, none => some [.seq []]
  | .froz e v, some b => match h[b]? with
    | some (.froz e' v' l) => if e = e' ∧ (keep = true → v = v') then some [.seq l] else none
    | _ => none
  | .iter, some b => match h[b]? with
    | some (.iter s p) => some [.str s, .int p]
    | _ => none
  | _, _ => none
def extBs (tv : List Nat) (ρ : List (Option Nat)) (h : Hp) : Nat → List TB → List (Option Nat) → Option (List D)
  | _, [], [] => some []
  | n, t :: ts, b :: bs => match extB tv (n != 0) ρ h t b, extBs tv ρ h (n - 1) ts bs with
    | some x, some y => some (x ++ y)
    | _, _ => none
  | _, _, _ => none
def bldB : TB → List D → Blk × List D
  | .gone, d => (.gone, d)
  | .cells e l md, d => let x := bldTs l d; (.cells e x.1 md, x.2)
  | .row e nb v, d => match d with
    | .seq l :: r => (.row e v nb l, r)
    | _ => (.gone, d)
  | .froz e v, d => match d with
    | .seq l :: r => (.froz e v l, r)
    | _ => (.gone, d)
  | .iter, d => match d with
    | .str s :: .int p :: r => (.iter s p.toNat, r)
    | _ => (.gone, d)
def bldBs : List TB → List D → Hp × List D
  | [], d => ([], d)
  | t :: ts, d => let x := bldB t d; let y := bldBs ts x.2; (x.1 :: y.1, y.2)

/-- Where the template's blocks are found. -/
def placeT (T : TS) (fr : Fr) (h : Hp) : List (Option Nat) :=
  (List.range T.keep).map some ++ T.at_.map fun p =>
    let v := match p.2 with
      | none => fr.getD p.1 .junk
      | some c => match fr.getD p.1 .junk with
        | .ptr b o => match h[b]? with
          | some (.cells _ l _) => l.getD (o + c) .junk
          | _ => .junk
        | _ => .junk
    match v with
    | .rs r _ => some r
    | .ptr b _ => some b
    | .sl b _ _ _ => some b
    | _ => none
/-- The versions of the template's blocks. -/
def TB.ver : TB → Nat
  | .row _ _ v => v
  | .froz _ v => v
  | _ => 0
def noDup : List (Option Nat) → Bool
  | [] => true
  | none :: l => noDup l
  | some a :: l => !(l.contains (some a)) && noDup l
def extS (T : TS) (fr : Fr) (h : Hp) : Option (List D) :=
  let ρ := placeT T fr h
  if noDup ρ ∧ T.keep ≤ h.length then
    match extTs (T.h.map TB.ver) ρ h T.fr fr, extBs (T.h.map TB.ver) ρ h T.keep T.h ρ with
    | some x, some y => some (x ++ y)
    | _, _ => none
  else none
def bldS (T : TS) (d : List D) : Fr × Hp := let x := bldTs T.fr d; let y := bldBs T.h x.2; (x.1, y.1)

/-- The exits of a loop: the first one of that kind whose template fits. -/
def exitsA (e : Exit) (fr : Fr) (h : Hp) : Nat → List (Exit × TS) → Option (Nat × List D)
  | _, [] => none
  | i, (x, T) :: l =>
    let here := match x, e with
      | .exit a, .exit b => a == b
      | .ret, .ret => true
      | _, _ => false
    match here with
    | true => match extS T fr h with
      | some d => some (i, d)
      | none => exitsA e fr h (i + 1) l
    | false => exitsA e fr h (i + 1) l
end
end Go.Proofs.Qx

/- The machine's quiet operations do what the model's do. -/
namespace Go.Proofs.Qx
open Go Go.RowKit
set_option linter.unusedVariables false
set_option linter.unusedSimpArgs false

/-! ### laid open is the same -/
theorem forceL_eq {α β : Type} : ∀ (l : List α) (k : List α → Option β), forceL l k = k l
  | [], k => rfl
  | a :: l, k => by simp only [forceL]; exact forceL_eq l _
theorem head1_eq {β : Type} (a : AV) (k : AV → Option β) : head1 a k = k a := by cases a <;> rfl
theorem forceC_eq {β : Type} : ∀ (l : List AV) (k : List AV → Option β), forceC l k = k l
  | [], k => rfl
  | a :: l, k => by simp only [forceC, head1_eq]; exact forceC_eq l _
theorem headK_eq {β : Type} (a : AV) (k : AV → Option β) : headK a k = k a := by
  cases a <;> simp only [headK, forceC_eq, head1_eq]
theorem forceB_eq {β : Type} (b : Blk) (k : Blk → Option β) : forceB b k = k b := by
  cases b
  case cells e l md => cases md <;> simp only [forceB, forceC_eq]
  case row e v nb l => cases nb <;> rfl
  all_goals rfl
theorem forceH_eq {β : Type} : ∀ (l : Hp) (k : Hp → Option β), forceH l k = k l
  | [], k => rfl
  | a :: l, k => by simp only [forceH, forceB_eq]; exact forceH_eq l _

section
variable {P : Program} {G : Gh} {w : World}

theorem run_isAggT {t : TypeId} {b : Bool} (h : isAggT P t = some b) (w : World) : (isAgg t).run P w = .ok b w := by
  unfold isAggT at h
  unfold isAgg
  cases hu : P.underlying t with
  | none => simp [hu] at h
  | some d =>
    rw [hu] at h
    rw [Sem.run_bind, run_underlying hu w, Result.andThen_ok]
    cases d <;> simp at h <;> subst h <;> rfl

theorem run_szT {t : TypeId} {n : Nat} (h : szT P t = some n) (w : World) : (sizeOf t).run P w = .ok n w := by
  unfold szT at h
  cases hq : P.info? t with
  | none => simp [hq] at h
  | some i => simp [hq] at h; subst h; simp [sizeOf, typeInfo, hq]

theorem run_partA {t : TypeId} {l : List AV} {off : Nat} {av : AV} (h : partA P t l off = some av) {cs : Array Value} (hl : AV.isL G w l cs.toList) (w' : World) :
    ∃ v, (part t cs off).run P w' = .ok v w' ∧ av.is G w v := by
  unfold partA at h
  cases ha : isAggT P t with
  | none => simp [ha] at h
  | some b =>
    cases b with
    | true =>
      cases hn : szT P t with
      | none => simp [ha, hn] at h
      | some n =>
        simp only [ha, hn] at h
        split at h
        · cases h
          refine ⟨.agg (cs.extract off (off + n)), by simp [part, run_isAggT ha w', run_szT hn w'], ?_⟩
          simp only [AV.is]
          refine ⟨_, rfl, ?_⟩
          rw [Array.toList_extract]
          have := isL_take (isL_drop hl off) n
          simpa [List.extract_eq_take_drop] using this
        · cases h
    | false =>
      simp only [ha] at h
      obtain ⟨v, hv, k⟩ := isL_get hl off av h
      refine ⟨v, ?_, k⟩
      have hv' : cs[off]? = some v := by simpa using hv
      simp [part, run_isAggT ha w', hv']

theorem add_addr (b o n : Nat) : (⟨b, o, none⟩ : Addr).add n = ⟨b, o + n, none⟩ := by unfold Addr.add; split <;> simp_all

/-! ### data -/
theorem avOf_is {k : CK} {d : D} {v : Value} (h : CRep G.lay G.imm w k d v) : (avOf k d).is G w v := by
  cases h
  case int => simp only [avOf, AV.is, D.toInt]
  case bool => simp only [avOf, AV.is, D.toBool]
  case str => simp only [avOf, AV.is, D.toStr]
  case nil => simp only [avOf, AV.is, D.toSeq]; exact .nil _
  case seq t l b o cap u h1 h2 h3 h4 => simp only [avOf, AV.is, D.toSeq]; exact .seq t l b o cap u h1 h2 h3 h4

theorem avsAt_len (l : List (List D)) (i : Nat) : ∀ (ks : List CK) (o : Nat), (avsAt l i ks o).length = ks.length
  | [], _ => rfl
  | k :: ks, o => by simp [avsAt, avsAt_len l i ks]

theorem avsAt_is {l : List (List D)} {i : Nat} : ∀ {ks : List CK} {o : Nat} {us : List Value}, us.length = ks.length → (∀ (j : Nat) (k : CK), ks[j]? = some k → ∃ u, us[j]? = some u ∧ CRep G.lay G.imm w k (D.at l i (o + j)) u) →
    AV.isL G w (avsAt l i ks o) us
  | [], o, us, h, _ => by simp at h; simp [avsAt, AV.isL, h]
  | k :: ks, o, [], h, _ => by simp at h
  | k :: ks, o, u :: us, h, hk => by
    simp only [avsAt, AV.isL]
    refine ⟨u, us, rfl, ?_, avsAt_is (by simpa using h) fun j k' hj => ?_⟩
    · obtain ⟨u', e, hc⟩ := hk 0 k rfl
      cases e; exact avOf_is hc
    · obtain ⟨u', e, hc⟩ := hk (j + 1) k' (by simpa using hj)
      exact ⟨u', by simpa using e, by rw [show o + 1 + j = o + (j + 1) by omega]; exact hc⟩

/-- A part of cells that lie in a row. -/
theorem run_loadAt_cells {t : TypeId} {l : List AV} {o : Nat} {av : AV} (h : partA P t l o = some av) {us : List Value} (hl : AV.isL G w l us) {b off : Nat} (hc : ∀ j u, us[j]? = some u → w.cell? ⟨b, off + j, none⟩ = some u) :
    ∃ u, (Instr.loadAt t (.pointer (some ⟨b, off + o, none⟩))).run P w = .ok u w ∧ av.is G w u := by
  unfold partA at h
  cases ha : isAggT P t with
  | none => simp [ha] at h
  | some q =>
    cases q with
    | true =>
      cases hn : szT P t with
      | none => simp [ha, hn] at h
      | some n =>
        simp only [ha, hn] at h
        split at h
        · rename_i hle
          cases h
          have hlen := isL_len hl
          have hcs := run_loadCells_list (P := P) w ⟨b, off + o, none⟩ ((us.drop o).take n) (fun j u hj => by
            rw [add_addr, Nat.add_assoc]
            rw [List.getElem?_take] at hj
            split at hj
            · rw [List.getElem?_drop] at hj; exact hc _ _ hj
            · cases hj)
          have hll : ((us.drop o).take n).length = n := by simp; omega
          rw [hll] at hcs
          refine ⟨.agg ((us.drop o).take n).toArray, by simp [Instr.loadAt, Instr.sureAddr, loadVar, run_isAggT ha w, run_szT hn w, hcs], ?_⟩
          simp only [AV.is]
          exact ⟨_, rfl, by simpa using isL_take (isL_drop hl o) n⟩
        · cases h
    | false =>
      simp only [ha] at h
      obtain ⟨u, hu, k'⟩ := isL_get hl o av h
      refine ⟨u, ?_, k'⟩
      simp [Instr.loadAt, Instr.sureAddr, loadVar, run_isAggT ha w, hc o u hu]

theorem RowRep.cells {B : Nat} {e : TypeId} {nb : Bool} {l : List (List D)} {v : Value} {ft : List Nat} (h : RowRep G B w e nb l v ft) {g n c : Nat} (hv : v = .slice (some ⟨g, 0, none⟩) n c) :
    n = l.length ∧ n ≤ c ∧ ft = [g] ∧ ∀ i j, i < l.length → j < (G.lay e).length → ∃ u k, (G.lay e)[j]? = some k ∧ w.cell? ⟨g, i * (G.lay e).length + j, none⟩ = some u ∧ CRep G.lay G.imm w k (D.at l i j) u := by
  obtain ⟨h1, _, h3, xs, h4, h5⟩ := h
  subst hv
  have hn : n = l.length := by
    rcases h4.2 with ⟨e, _⟩ | ⟨g', cap, cur, e, _⟩
    · cases e
    · cases e; rfl
  refine ⟨hn, ?_, h1, fun i j hi hj => ?_⟩
  · rcases h4.2 with ⟨e, _⟩ | ⟨g', cap, cur, e, _, _, q, _⟩
    · cases e
    · cases e; omega
  have hx : l[i]? = some l[i] := List.getElem?_eq_getElem hi
  have hxl := h3 i _ hx
  have hj' : j < l[i].length := by omega
  obtain ⟨u, hu, hc⟩ := h5 i j l[i] l[i][j] (G.lay e)[j] hx (List.getElem?_eq_getElem hj') (List.getElem?_eq_getElem hj)
  have hcell := h4.cells (g := g) rfl (i * (G.lay e).length + j) u hu
  rw [add_addr, Nat.zero_add] at hcell
  refine ⟨u, _, List.getElem?_eq_getElem hj, hcell, ?_⟩
  have : D.at l i j = l[i][j] := by
    unfold D.at
    simp [List.getD_eq_getElem?_getD, hx, hj']
  rw [this]; exact hc

theorem run_loadA {B : Nat} {h : Hp} (H : HRep G B h w) {Λ : Nat → List CK} (hΛ : G.lay = Λ) {t : TypeId} {p av : AV} (hl : loadA P Λ h t p = some av) {v : Value} (hp : p.is G w v) :
    ∃ u, (Instr.loadAt t v).run P w = .ok u w ∧ av.is G w u := by
  unfold loadA at hl
  cases p <;> simp only at hl <;> try (cases hl; done)
  case ptr b o =>
    simp only [AV.is] at hp
    obtain ⟨hb, rfl⟩ := hp
    split at hl
    · rename_i e cs md hk
      obtain ⟨_, _, c, hc, hcl⟩ := H.blk b _ hk
      have hcell : ∀ j u, c.toList[j]? = some u → w.cell? ⟨G.at_ b, 0 + j, none⟩ = some u := fun j u hj => by rw [Nat.zero_add]; simp [World.cell?, hc]; simpa using hj
      have := run_loadAt_cells hl hcl hcell
      rwa [Nat.zero_add] at this
    · cases hl
  case sp e l i o =>
    simp only [AV.is] at hp
    obtain ⟨b, off, rfl, hc⟩ := hp
    subst hΛ
    have hex : ∃ us : List Value, us.length = (G.lay e).length ∧ ∀ (j : Nat) (k : CK), (G.lay e)[j]? = some k → ∃ u, us[j]? = some u ∧ w.cell? ⟨b, off + j, none⟩ = some u ∧ CRep G.lay G.imm w k (D.at l i j) u := by
      refine ⟨(List.range (G.lay e).length).map fun j => (w.cell? ⟨b, off + j, none⟩).getD undef, by simp, fun j k hj => ?_⟩
      obtain ⟨_, u, h2, h3⟩ := hc j k hj
      have : j < (G.lay e).length := (List.getElem?_eq_some_iff.1 hj).1
      exact ⟨u, by simp [this, h2], h2, h3⟩
    obtain ⟨us, hlen, hus⟩ := hex
    refine run_loadAt_cells hl (avsAt_is hlen fun j k hj => ?_) fun j u hj => ?_
    · obtain ⟨u, h1, _, h3⟩ := hus j k hj
      exact ⟨u, h1, by rw [Nat.zero_add]; exact h3⟩
    · have hlt : j < (G.lay e).length := by rw [← hlen]; exact (List.getElem?_eq_some_iff.1 hj).1
      obtain ⟨u', h1, h2, _⟩ := hus j _ (List.getElem?_eq_getElem hlt)
      rw [hj] at h1; cases h1; exact h2
  case ep r q m i o =>
    simp only [AV.is] at hp
    obtain ⟨hr, hq, _, hp⟩ := hp
    split at hl
    · rename_i e v' nb l hk
      split at hl
      · rename_i hcond
        obtain ⟨rfl, rfl⟩ := hcond
        subst hΛ
        obtain ⟨hver, hrow⟩ := H.blk r _ hk
        obtain ⟨g, n, c, hrv, hin, rfl⟩ := hp hver
        obtain ⟨hn, _, _, hcells⟩ := hrow.cells hrv
        have hil : i < l.length := by omega
        have hex : ∃ us : List Value, us.length = (G.lay e).length ∧ ∀ (j : Nat) (k : CK), (G.lay e)[j]? = some k → ∃ u, us[j]? = some u ∧ w.cell? ⟨g, i * (G.lay e).length + j, none⟩ = some u ∧ CRep G.lay G.imm w k (D.at l i j) u := by
          refine ⟨(List.range (G.lay e).length).map fun j => (w.cell? ⟨g, i * (G.lay e).length + j, none⟩).getD undef, by simp, fun j k hj => ?_⟩
          have hj' : j < (G.lay e).length := (List.getElem?_eq_some_iff.1 hj).1
          obtain ⟨u, k', h1, h2, h3⟩ := hcells i j hil hj'
          rw [hj] at h1; cases h1
          exact ⟨u, by simp [hj', h2], h2, h3⟩
        obtain ⟨us, hlen, hus⟩ := hex
        refine run_loadAt_cells hl (avsAt_is hlen fun j k hj => ?_) fun j u hj => ?_
        · obtain ⟨u, h1, _, h3⟩ := hus j k hj
          exact ⟨u, h1, by rw [Nat.zero_add]; exact h3⟩
        · have hlt : j < (G.lay e).length := by rw [← hlen]; exact (List.getElem?_eq_some_iff.1 hj).1
          obtain ⟨u', h1, h2, _⟩ := hus j _ (List.getElem?_eq_getElem hlt)
          rw [hj] at h1; cases h1; exact h2
      · cases hl
    · cases hl

/-! ### building -/
theorem foldl_lay (off : Nat) : ∀ (vs : List Value) (k : Nat) (c : Array Value), off + k + vs.length ≤ c.size →
    ((vs.zipIdx k).foldl (fun cs p => cs.setIfInBounds (off + p.2) p.1) c).toList = c.toList.take (off + k) ++ vs ++ c.toList.drop (off + k + vs.length)
  | [], k, c, h => by simp
  | v :: vs, k, c, h => by
    simp only [List.zipIdx_cons, List.foldl_cons]
    rw [foldl_lay off vs (k + 1) _ (by simp at h ⊢; omega)]
    have e := list_seg_step c.toList (off + k) v vs (by simp at h ⊢; omega)
    simpa [Array.toList_setIfInBounds, Nat.add_assoc] using e

theorem fill_is {place place' : Nat → Option (Nat × Nat)} (hpl : ∀ i, place' i = place i) : ∀ (parts : List (Nat × AV)) (vparts : List (Nat × Value)) (l : List AV) (cs : Array Value) (r : List AV),
    vparts.map (·.1) = parts.map (·.1) → AV.isL G w (parts.map (·.2)) (vparts.map (·.2)) → AV.isL G w l cs.toList → fillA place l parts = some r →
    ∃ rs, Instr.fill place' cs vparts = some rs ∧ AV.isL G w r rs.toList
  | [], vparts, l, cs, r, hi, hp, hl, h => by
    simp at hi; subst hi
    simp only [fillA] at h; cases h
    exact ⟨cs, rfl, hl⟩
  | (i, a) :: parts, [], l, cs, r, hi, hp, hl, h => by simp at hi
  | (i, a) :: parts, (i', v) :: vparts, l, cs, r, hi, hp, hl, h => by
    simp only [List.map_cons, List.cons.injEq] at hi
    obtain ⟨rfl, hi⟩ := hi
    simp only [List.map_cons, AV.isL] at hp
    obtain ⟨v', rest, e, ha, hrest⟩ := hp
    cases e
    simp only [fillA] at h
    simp only [Instr.fill, hpl]
    cases hq : place i' with
    | none => simp [hq] at h
    | some q =>
      obtain ⟨off, size⟩ := q
      simp only [hq] at h ⊢
      split at h
      · rename_i hc
        simp only [Bool.and_eq_true, beq_iff_eq, decide_eq_true_eq] at hc
        obtain ⟨⟨hk, hsz⟩, hle⟩ := hc
        obtain ⟨hcl, _⟩ := cells_is hk ha
        have hlen := isL_len hcl
        have hlen2 := isL_len hl
        have h1 : v.cells.size = size := by simp at hlen; omega
        have h2 : off + v.cells.size ≤ cs.size := by simp at hlen2; omega
        rw [if_neg (by simp [h1]; omega)]
        refine fill_is hpl parts vparts _ _ r hi hrest ?_ h
        have e : (Array.foldl (fun cs x => cs.setIfInBounds (off + x.2) x.1) cs v.cells.zipIdx).toList = cs.toList.take off ++ v.cells.toList ++ cs.toList.drop (off + size) := by
          rw [← Array.foldl_toList, Array.toList_zipIdx]
          have := foldl_lay off v.cells.toList 0 cs (by simp; omega)
          simpa [h1] using this
        have e2 : (v.cells.zipIdx.foldl (fun cs (x : Value × Nat) => match x with | (c, j) => cs.setIfInBounds (off + j) c) cs).toList = cs.toList.take off ++ v.cells.toList ++ cs.toList.drop (off + size) := e
        rw [e2]
        exact isL_append (isL_append (isL_take hl off) hcl) (isL_drop hl (off + size))
      · cases h

theorem run_buildA {t : TypeId} {parts : List (Nat × AV)} {av : AV} (h : buildA P t parts = some av) {vparts : Array (Nat × Value)} (hi : vparts.toList.map (·.1) = parts.map (·.1))
    (hp : AV.isL G w (parts.map (·.2)) (vparts.toList.map (·.2))) (w' : World) : ∃ v, (Instr.build t vparts).run P w' = .ok v w' ∧ av.is G w v := by
  unfold buildA at h
  cases hit : P.info? t with
  | none => simp [hit] at h
  | some it =>
    cases hu : P.underlying t with
    | none => simp [hit, hu] at h
    | some d =>
      rw [hit, hu] at h
      cases d <;> try (simp at h; done)
      case array n e =>
        simp only at h
        cases hz : it.zero with
        | none => simp [hz] at h
        | some z =>
          cases hie : P.info? e with
          | none => simp [hz, hie] at h
          | some ie =>
            simp only [hz, hie, Option.map_eq_some_iff] at h
            obtain ⟨r, hr, rfl⟩ := h
            obtain ⟨rs, hrs, k⟩ := fill_is (G := G) (w := w) (fun _ => rfl) parts vparts.toList _ z.cells r hi hp (ofCs_is G w _) hr
            exact ⟨.agg rs, run_build w' t vparts rs (by simp [Program.built, hit, hu, hz, hie, hrs]), by simp only [AV.is]; exact ⟨_, rfl, k⟩⟩
      case struct fs =>
        simp only at h
        cases hz : it.zero with
        | none => simp [hz] at h
        | some z =>
          cases hpl : fs.toList.mapM (fun f => (P.info? f.type).map fun i => (f.offset, i.size)) with
          | none => simp [hz, hpl] at h
          | some places =>
            simp only [hz, hpl, Option.map_eq_some_iff] at h
            obtain ⟨r, hr, rfl⟩ := h
            obtain ⟨rs, hrs, k⟩ := fill_is (G := G) (w := w) (place' := fun i => places.toArray[i]?) (fun i => by simp) parts vparts.toList _ z.cells r hi hp (ofCs_is G w _) hr
            exact ⟨.agg rs, run_build w' t vparts rs (by simp only [Program.built, hit, hu, hz, hpl]; exact hrs), by simp only [AV.is]; exact ⟨_, rfl, k⟩⟩

/-! ### equality -/
theorem run_eqCell {t : TypeId} {x y : AV} {b : Bool} (h : eqCell P t x y = some b) {u v : Value} (hx : x.is G w u) (hy : y.is G w v) (d : Nat) (w' : World) :
    (Op.equalIn (d + 1) t u v).run P w' = .ok b w' := by
  unfold eqCell at h
  cases x <;> cases y <;> simp only at h <;> try (cases h; done)
  case int k a k' a' =>
    simp only [AV.is] at hx hy; subst hx; subst hy
    cases hu : P.underlying t with
    | none => simp [hu] at h
    | some q =>
      cases q <;> simp [hu] at h
      obtain ⟨rfl, rfl⟩ := h
      exact run_equalIn_int w' d t k _ a a' hu
  case bool a a' =>
    simp only [AV.is] at hx hy; subst hx; subst hy
    cases hu : P.underlying t with
    | none => simp [hu] at h
    | some q =>
      cases q <;> simp [hu] at h
      subst h
      exact run_equalIn_bool w' d t a a' hu
  case str a a' =>
    simp only [AV.is] at hx hy; subst hx; subst hy
    cases hu : P.underlying t with
    | none => simp [hu] at h
    | some q =>
      cases q <;> simp [hu] at h
      subst h
      exact run_equalIn_string w' d t a a' hu

theorem run_eqFields {xs ys : List AV} {us vs : Array Value} (hx : AV.isL G w xs us.toList) (hy : AV.isL G w ys vs.toList) (d : Nat) (w' : World) :
    ∀ (fs : List Field) (b : Bool), eqFieldsA P xs ys fs = some b → (Op.eqFields (d + 1) us vs fs).run P w' = .ok b w'
  | [], b, h => by simp only [eqFieldsA] at h; cases h; simp [Op.eqFields]
  | f :: fs, b, h => by
    simp only [eqFieldsA] at h
    split at h
    · cases h
    · rename_i hn
      have hne : f.name ≠ "_" := by simpa using hn
      cases ha : isAggT P f.type with
      | none => simp [ha] at h
      | some q =>
        cases q with
        | true => simp [ha] at h
        | false =>
          cases hxo : xs[f.offset]? with
          | none => simp [ha, hxo] at h
          | some x =>
            cases hyo : ys[f.offset]? with
            | none => simp [ha, hxo, hyo] at h
            | some y =>
              simp only [ha, hxo, hyo] at h
              cases hc : eqCell P f.type x y with
              | none => simp [hc] at h
              | some p =>
                cases hr : eqFieldsA P xs ys fs with
                | none => simp [hc, hr] at h
                | some q =>
                  simp only [hc, hr] at h
                  cases h
                  obtain ⟨u, hu, ku⟩ := isL_get hx _ _ hxo
                  obtain ⟨v, hv, kv⟩ := isL_get hy _ _ hyo
                  have e1 : (part f.type us f.offset).run P w' = .ok u w' := by
                    have : us[f.offset]? = some u := by simpa using hu
                    simp [part, run_isAggT ha w', this]
                  have e2 : (part f.type vs f.offset).run P w' = .ok v w' := by
                    have : vs[f.offset]? = some v := by simpa using hv
                    simp [part, run_isAggT ha w', this]
                  have e3 := run_eqCell hc ku kv d w'
                  have ih := run_eqFields hx hy d w' fs q hr
                  simp only [Op.eqFields, hne, ne_eq, not_false_eq_true, if_true, Sem.run_bind, e1, e2, e3, Result.andThen_ok, Sem.run_ite, ih, Sem.run_pure]
                  cases p <;> simp

theorem run_eqA {hp0 : Hp} {t : TypeId} {x y : AV} {b : Bool} (h : eqA P hp0 t x y = some b) {u v : Value} (hx : x.is G w u) (hy : y.is G w v) (ox oy : Operand) (w' : World) :
    ((eqGuard .eql t ox oy u v).run P w' = .ok () w' ∧ (binOp .eql t u v).run P w' = .ok (.bool b) w') ∧
    ((eqGuard .neq t ox oy u v).run P w' = .ok () w' ∧ (binOp .neq t u v).run P w' = .ok (.bool (!b)) w') := by
  unfold eqA at h
  cases x <;> cases y <;> simp only at h <;> try (cases h; done)
  case agg xs ys =>
    simp only [AV.is] at hx hy
    obtain ⟨us, rfl, hx⟩ := hx
    obtain ⟨vs, rfl, hy⟩ := hy
    cases hu : P.underlying t with
    | none => simp [hu] at h
    | some q =>
      cases q <;> simp [hu] at h
      rename_i fs
      obtain ⟨⟨hs, hg⟩, h⟩ := h
      have hf : P.fieldsOf t = fs := by simp [Program.fieldsOf, hu]
      have e := run_equalIn_struct w' 9999 t us vs (by rw [hf]; exact hu) hs
      rw [hf, run_eqFields hx hy 9998 w' fs.toList b h] at e
      refine ⟨⟨run_eqGuard_agg w' _ t ox oy us vs hg, ?_⟩, ⟨run_eqGuard_agg w' _ t ox oy us vs hg, ?_⟩⟩
      · rw [run_eql_struct, e]; rfl
      · rw [run_neq_struct, e]; rfl
  case int k a k' a' =>
    simp only [AV.is] at hx hy; subst hx; subst hy
    split at h
    · rename_i hk; subst hk; cases h
      refine ⟨⟨by simp [eqGuard], ?_⟩, ⟨by simp [eqGuard], ?_⟩⟩ <;> simp [binOp, Op.intCmp, bne]
    · cases h
  case bool a a' =>
    simp only [AV.is] at hx hy; subst hx; subst hy
    cases hu : P.underlying t with
    | none => simp [hu] at h
    | some q =>
      cases q <;> simp [hu] at h
      subst h
      have e := run_equalIn_bool (P := P) w' 9999 t a a' hu
      refine ⟨⟨by simp [eqGuard], ?_⟩, ⟨by simp [eqGuard], ?_⟩⟩
      · simp [binOp, Op.equal, Op.maxDepth, e]
      · simp [binOp, Op.equal, Op.maxDepth, e]
  case str a a' =>
    simp only [AV.is] at hx hy; subst hx; subst hy
    cases h
    refine ⟨⟨by simp [eqGuard], ?_⟩, ⟨by simp [eqGuard], ?_⟩⟩ <;> simp [binOp, Op.stringOp]

end

/-! ### a quiet operation -/
/-- A callee has answered: more may be written no more, and no old memory has turned. -/
structure After (imm : Nat → Nat → Prop) (w : World) (imm' : Nat → Nat → Prop) (w' : World) : Prop where
  more : ∀ b o, imm b o → imm' b o
  old : ∀ b o, b < w.heap.size → imm' b o → imm b o
  new : ∀ b o, imm' b o → b < w'.heap.size
  below : Below w.heap.size w w'

theorem After.refl {G : Gh} {B : Nat} {h : Hp} {w : World} (H : HRep G B h w) : After G.imm w G.imm w := ⟨fun _ _ q => q, fun _ _ _ q => q, H.imm, Below.refl _ _⟩

/-- A function ended so. -/
def Res.isE (G : Gh) (w : World) : Res → Ending → Prop
  | .ret v, e => ∃ u, e = .returned u ∧ v.is G w u
  | .pan v, e => e = .panicked [{ v, recovered := false }]

def CEOk (P : Program) (GW : World → Prop) (Λ : Nat → List CK) (f : Nat) (ce : CE) : Prop :=
  (∀ args w, (callFunc f args).run P w = .ok (.enter f args) w) ∧
  ∀ (args : List AV) (τ : Type) (x : Option τ) (out : τ → Res) (sel : (β : Type) → τ → (Res → Option β) → Option β) (ok : ∀ β t k, sel β t k = k (out t)) (r : τ), ce.tells args = some (.mk τ x out sel ok) → x = some r → ∀ (G : Gh) (w : World) (vs : Array Value), G.lay = Λ → GW w → (∀ b o, G.imm b o → b < w.heap.size) →
    AV.isL G w args vs.toList → Calls P f vs w fun e w' => ∃ imm', After G.imm w imm' w' ∧ (out r).isE { G with imm := imm' } w' e

def AllOk (P : Program) (GW : World → Prop) (Λ : Nat → List CK) (Γ : List (Nat × CE)) : Prop := ∀ f ce, Γ.lookup f = some ce → CEOk P GW Λ f ce

/-- Two memories of which one may know more blocks. -/
def Compat (h h2 : Hp) : Prop := ∀ b : Nat, b < h2.length → b < h.length → h2[b]? = h[b]?
theorem Compat.refl (h : Hp) : Compat h h := fun _ _ _ => rfl
theorem Compat.get {h h2 : Hp} (hc : Compat h h2) {b : Nat} {k : Blk} (hk : h[b]? = some k) (hb : b < h2.length) : h2[b]? = some k := by
  rw [hc b hb (List.getElem?_eq_some_iff.1 hk).1]; exact hk

def QOk (P : Program) (GW : World → Prop) (Λ : Nat → List CK) (h : Hp) (o : Oper) (e : Operand → AV) (av : AV) : Prop :=
  ∀ (B : Nat) (G : Gh) (w : World) (a : Act) (next : Act → World → Prop) (Q : Exit → Act → World → Prop) (h2 : Hp), (readsM o.op = true → Compat h h2) → HRep G B h2 w → G.lay = Λ → GW w → (∀ x ∈ o.op.operands, (e x).is G w (a.eval x)) →
    (∀ (imm' : Nat → Nat → Prop) (v : Value) (w' : World), HRep { G with imm := imm' } B h2 w' → G.le w { G with imm := imm' } w' → After G.imm w imm' w' → av.is { G with imm := imm' } w' v → next (a.put o.dst v) w') → o.wp P a w next Q

theorem QOk.of_run {P : Program} {GW : World → Prop} {Λ : Nat → List CK} {h : Hp} {o : Oper} {e : Operand → AV} {av : AV}
    (hr : ∀ (B : Nat) (G : Gh) (w : World) (ρ : Operand → Value) (h2 : Hp), (readsM o.op = true → Compat h h2) → HRep G B h2 w → G.lay = Λ → (∀ x ∈ o.op.operands, (e x).is G w (ρ x)) → ∃ v, (execOp ρ o).run P w = .ok (.value v) w ∧ av.is G w v) : QOk P GW Λ h o e av := by
  intro B G w a next Q h2 hcp H hΛ _ hop hk
  obtain ⟨v, hrun, hv⟩ := hr B G w a.eval h2 hcp H hΛ hop
  unfold Oper.wp
  rw [hrun]
  exact hk G.imm v w H (Gh.le.refl G w) (After.refl H) hv

section
variable {α : Type} {P : Program} {GW : World → Prop} {Λ : Nat → List CK} {r : α} {h : Hp} {e : Operand → AV}

theorem int_sound {op : BinOp} {i j : IntKind} {a b : Int} {t : TypeId} {x y : Operand} {k : AV → Option α} (h1 : op ≠ .eql) (h2 : op ≠ .neq) (hq : intA op i a j b k = some r) :
    ∃ av, k av = some r ∧ ∀ (G : Gh) (w : World), ∃ z, (eqGuard op t x y (.int i a) (.int j b)).run P w = .ok () w ∧ (binOp op t (.int i a) (.int j b)).run P w = .ok z w ∧ av.is G w z := by
  unfold intA at hq
  cases op <;> simp only at hq <;> try (first | exact absurd rfl h1 | exact absurd rfl h2 | cases hq; done)
  all_goals
    repeat' (split at hq <;> try (cases hq; done))
  all_goals
    refine ⟨_, hq, fun G w => ⟨_, by simp [eqGuard], ?_, by simp only [AV.is]; rfl⟩⟩
    clear hq
    first
      | (rename_i hk; subst hk; simp [binOp, Op.intArith, Op.intCmp]; done)
      | (rename_i hk hb; subst hk; simp [binOp, Op.intDiv, hb]; done)
      | (rename_i hb; simp [binOp, Op.shift, Int.not_lt.2 hb]; done)

theorem str_sound {op : BinOp} {a b : ByteArray} {t : TypeId} {x y : Operand} {k : AV → Option α} (h1 : op ≠ .eql) (h2 : op ≠ .neq) (hq : strA op a b k = some r) :
    ∃ av, k av = some r ∧ ∀ (G : Gh) (w : World), ∃ z, (eqGuard op t x y (.string a) (.string b)).run P w = .ok () w ∧ (binOp op t (.string a) (.string b)).run P w = .ok z w ∧ av.is G w z := by
  unfold strA at hq
  cases op <;> simp only at hq <;> try (first | exact absurd rfl h1 | exact absurd rfl h2 | cases hq; done)
  all_goals
    repeat' (split at hq <;> try (cases hq; done))
  all_goals
    refine ⟨_, hq, fun G w => ⟨_, by simp [eqGuard], ?_, by simp only [AV.is]; rfl⟩⟩
    clear hq
    first
      | (simp [binOp, Op.stringOp]; done)
      | (rename_i hb; simp only [binOp, Op.stringOp]; rw [if_neg hb]; rfl)

theorem bin_sound {op : BinOp} {t yt : TypeId} {x y : Operand} {k : AV → Option α} (hq : binA P h op t (e x) (e y) k = some r) :
    ∃ av, k av = some r ∧ ∀ o : Oper, o.op = .binOp op t x y yt → QOk P GW Λ h o e av := by
  have fin : ∀ av, k av = some r → (∀ (G : Gh) (w : World) (u v : Value), (e x).is G w u → (e y).is G w v → ∃ z, (eqGuard op t x y u v).run P w = .ok () w ∧ (binOp op t u v).run P w = .ok z w ∧ av.is G w z) →
      ∃ av, k av = some r ∧ ∀ o : Oper, o.op = .binOp op t x y yt → QOk P GW Λ h o e av := fun av hk hz =>
    ⟨av, hk, fun o ho => QOk.of_run fun B G w ρ hp2 hcp H hΛ hop => by
      obtain ⟨z, h1, h2, h3⟩ := hz G w (ρ x) (ρ y) (hop x (by simp [ho, Op.operands])) (hop y (by simp [ho, Op.operands]))
      exact ⟨z, by simp [execOp, ho, h1, h2], h3⟩⟩
  by_cases h1 : op = .eql
  · subst h1
    simp only [binA] at hq
    cases hb : eqA P h t (e x) (e y) with
    | none => simp [hb] at hq
    | some b =>
      simp only [hb] at hq
      exact fin _ hq fun G w u v hu hv => ⟨_, (run_eqA hb hu hv x y w).1.1, (run_eqA hb hu hv x y w).1.2, by simp [AV.is]⟩
  by_cases h2 : op = .neq
  · subst h2
    simp only [binA] at hq
    cases hb : eqA P h t (e x) (e y) with
    | none => simp [hb] at hq
    | some b =>
      simp only [hb] at hq
      exact fin _ hq fun G w u v hu hv => ⟨_, (run_eqA hb hu hv x y w).2.1, (run_eqA hb hu hv x y w).2.2, by simp [AV.is]⟩
  have hq' : (match e x, e y with
    | .int i a, .int j b => intA op i a j b k
    | .str a, .str b => strA op a b k
    | _, _ => none) = some r := by
    unfold binA at hq
    cases op <;> first | exact absurd rfl h1 | exact absurd rfl h2 | exact hq
  clear hq
  split at hq'
  · rename_i i a j b hex hey
    obtain ⟨av, hk, hz⟩ := int_sound (P := P) (t := t) (x := x) (y := y) h1 h2 hq'
    refine fin av hk fun G w u v hu hv => ?_
    rw [hex] at hu; rw [hey] at hv
    simp only [AV.is] at hu hv; subst hu; subst hv
    exact hz G w
  · rename_i a b hex hey
    obtain ⟨av, hk, hz⟩ := str_sound (P := P) (t := t) (x := x) (y := y) h1 h2 hq'
    refine fin av hk fun G w u v hu hv => ?_
    rw [hex] at hu; rw [hey] at hv
    simp only [AV.is] at hu hv; subst hu; subst hv
    exact hz G w
  · cases hq'

theorem un_sound {op : UnOp} {t : TypeId} {x : Operand} {k : AV → Option α} (hq : unA op (e x) k = some r) :
    ∃ av, k av = some r ∧ ∀ o : Oper, o.op = .unOp op t x → QOk P GW Λ h o e av := by
  unfold unA at hq
  split at hq
  · rename_i i n hex
    refine ⟨_, hq, fun o ho => QOk.of_run fun B G w ρ hp2 hcp H hΛ hop => ?_⟩
    have hu := hop x (by simp [ho, Op.operands])
    rw [hex] at hu; simp only [AV.is] at hu
    exact ⟨.int i (i.wrap (0 - n)), by simp [execOp, ho, hu, Op.unary, Op.intArith], by simp [AV.is]⟩
  · rename_i b hex
    refine ⟨_, hq, fun o ho => QOk.of_run fun B G w ρ hp2 hcp H hΛ hop => ?_⟩
    have hu := hop x (by simp [ho, Op.operands])
    rw [hex] at hu; simp only [AV.is] at hu
    exact ⟨.bool (!b), by simp [execOp, ho, hu, Op.unary], by simp [AV.is]⟩
  · cases hq

theorem pick_sound {c x y : Operand} {k : AV → Option α} (hq : pickA (e c) (e x) (e y) k = some r) :
    ∃ av, k av = some r ∧ ∀ o : Oper, o.op = .pick c x y → QOk P GW Λ h o e av := by
  unfold pickA at hq
  split at hq
  · rename_i b hex
    cases b
    · refine ⟨_, hq, fun o ho => QOk.of_run fun B G w ρ hp2 hcp H hΛ hop => ?_⟩
      have hu := hop c (by simp [ho, Op.operands])
      rw [hex] at hu; simp only [AV.is] at hu
      exact ⟨ρ y, by simp [execOp, ho, hu, asBool], hop y (by simp [ho, Op.operands])⟩
    · refine ⟨_, hq, fun o ho => QOk.of_run fun B G w ρ hp2 hcp H hΛ hop => ?_⟩
      have hu := hop c (by simp [ho, Op.operands])
      rw [hex] at hu; simp only [AV.is] at hu
      exact ⟨ρ x, by simp [execOp, ho, hu, asBool], hop x (by simp [ho, Op.operands])⟩
  · cases hq

theorem bytesA_is {G : Gh} {w : World} : ∀ {l : List AV} {ns : List Int} {vs : List Value}, bytesA l = some ns → AV.isL G w l vs → vs = ns.map (.int .u8 ·)
  | [], ns, vs, h, hl => by simp only [bytesA] at h; cases h; simpa [AV.isL] using hl
  | a :: l, ns, vs, h, hl => by
    simp only [AV.isL] at hl
    obtain ⟨v, r, rfl, ha, hl⟩ := hl
    cases a with
    | int k n =>
      cases k with
      | u8 =>
        simp only [bytesA, Option.map_eq_some_iff] at h
        obtain ⟨ns', h, rfl⟩ := h
        simp only [AV.is] at ha
        rw [ha, bytesA_is h hl]; rfl
      | _ => simp [bytesA] at h
    | _ => simp [bytesA] at h

theorem foldl_bytes : ∀ (ns : List Int) (b : ByteArray), ns.foldl (fun r n => r.push (UInt8.ofNat n.toNat)) b = ⟨b.data ++ (ns.map fun n => UInt8.ofNat n.toNat).toArray⟩
  | [], b => by simp
  | n :: ns, b => by
    simp only [List.foldl_cons, List.map_cons]
    rw [foldl_bytes ns]
    congr 1
    apply Array.ext'
    simp [ByteArray.push]

theorem conv_sound {s d : TypeId} {x : Operand} {k : AV → Option α} (hq : convA P h s d (e x) k = some r) :
    ∃ av, k av = some r ∧ ∀ o : Oper, o.op = .convert s d x → QOk P GW Λ h o e av := by
  unfold convA at hq
  split at hq
  · rename_i el b off n c hs hd hex
    split at hq
    · rename_i el0 cb md0 hel hb
      split at hq
      · rename_i hle
        split at hq
        · rename_i ns hns
          refine ⟨_, hq, fun o ho => QOk.of_run fun B G w ρ hp2 hcp H hΛ hop => ?_⟩
          have hu := hop x (by simp [ho, Op.operands])
          rw [hex] at hu; simp only [AV.is] at hu
          obtain ⟨hbn, hu⟩ := hu
          obtain ⟨_, _, ca, hc, hcl⟩ := H.blk b _ ((hcp (by rw [ho]; rfl)).get hb (by rw [H.len]; assumption))
          have hlen := isL_len hcl
          have hvs := bytesA_is hns (isL_take (isL_drop hcl off) n)
          have hload := run_loadCells_list (P := P) w ⟨G.at_ b, off, none⟩ ((ca.toList.drop off).take n) (fun j u hj => by
            rw [add_addr]
            rw [List.getElem?_take] at hj
            split at hj
            · rw [List.getElem?_drop] at hj; simp [World.cell?, hc]; simpa using hj
            · cases hj)
          have hll : ((ca.toList.drop off).take n).length = n := by simp at hlen ⊢; omega
          rw [hll, hvs] at hload
          have hrun := run_bytesToString (P := P) w ⟨G.at_ b, off, none⟩ n c ns (by simpa using hload)
          rw [foldl_bytes] at hrun
          refine ⟨.string (bytesOf ns), ?_, by simp [AV.is]⟩
          have e1 := run_convert_bytes_string (P := P) w s d el (some ⟨G.at_ b, off, none⟩) n c hs hel hd
          simp only [execOp, ho, hu, Sem.run_bind, e1, hrun, Result.andThen_ok, Sem.run_pure]
          simp [bytesOf]
        · cases hq
      · cases hq
    · cases hq
  · rename_i i j i' n hs hd hex
    refine ⟨_, hq, fun o ho => QOk.of_run fun B G w ρ hp2 hcp H hΛ hop => ?_⟩
    have hu := hop x (by simp [ho, Op.operands])
    rw [hex] at hu; simp only [AV.is] at hu
    exact ⟨.int j (j.wrap n), by simp [execOp, ho, hu, convert, run_underlying hs, run_underlying hd, Conv.intToInt], by simp [AV.is]⟩
  · rename_i v hs hd hex
    refine ⟨_, hq, fun o ho => QOk.of_run fun B G w ρ hp2 hcp H hΛ hop => ?_⟩
    have hu := hop x (by simp [ho, Op.operands])
    rw [hex] at hu; simp only [AV.is] at hu
    exact ⟨.string v, by simp [execOp, ho, hu, convert, run_underlying hs, run_underlying hd], by simp [AV.is]⟩
  · rename_i i i' n hs hd hex
    refine ⟨_, hq, fun o ho => QOk.of_run fun B G w ρ hp2 hcp H hΛ hop => ?_⟩
    have hu := hop x (by simp [ho, Op.operands])
    rw [hex] at hu; simp only [AV.is] at hu
    exact ⟨.string (Utf8.encode n), by simp [execOp, ho, hu, convert, run_underlying hs, run_underlying hd, Conv.intToString], by simp [AV.is]⟩
  · cases hq

theorem D_at {l : List (List D)} {i j : Nat} {x : List D} {d : D} (hi : l[i]? = some x) (hj : x[j]? = some d) : D.at l i j = d := by
  simp [D.at, List.getD_eq_getElem?_getD, hi, hj]

/-- An element of a slice that is written no more. -/
theorem crep_elem {lay : Nat → List CK} {imm : Nat → Nat → Prop} {w : World} {t : Nat} {l : List (List D)} {v : Value} (h : CRep lay imm w (.seq t) (.seq l) v) {i : Nat} (hi : i < l.length) :
    ∃ b o cap, v = .slice (some ⟨b, o, none⟩) l.length cap ∧ SRep lay imm w t l i 0 (.pointer (some ⟨b, o + i * (lay t).length, none⟩)) := by
  cases h
  case nil => simp at hi
  case seq b o cap u h1 h2 h3 h4 =>
    refine ⟨b, o, cap, rfl, b, o + i * (lay t).length, rfl, fun j k hj => ?_⟩
    have hjl : j < (lay t).length := (List.getElem?_eq_some_iff.1 hj).1
    obtain ⟨q1, q2⟩ := h3 i j hi hjl
    refine ⟨q1, _, q2, ?_⟩
    have hx : l[i]? = some l[i] := List.getElem?_eq_getElem hi
    have hxl := h2 i _ hx
    have hd : l[i][j]? = some (l[i][j]'(by omega)) := List.getElem?_eq_getElem (by omega)
    rw [D_at hx hd]
    exact h4 i j _ _ k hx hd hj

theorem crep_slice {lay : Nat → List CK} {imm : Nat → Nat → Prop} {w : World} {t : Nat} {l : List (List D)} {v : Value} (h : CRep lay imm w (.seq t) (.seq l) v) : ∃ a c, v = .slice a l.length c := by
  cases h
  case nil => exact ⟨none, 0, rfl⟩
  case seq => exact ⟨_, _, rfl⟩

theorem pickN_sound {j : Int} {k : Nat → Option α} {r : α} : ∀ {n : Nat}, pickN j k n = some r → ∃ m, m < n ∧ j = (m : Int) ∧ k m = some r
  | 0, h => by cases h
  | n + 1, h => by
    unfold pickN at h
    split at h
    · rename_i hj; exact ⟨n, by omega, hj, h⟩
    · obtain ⟨m, h1, h2, h3⟩ := pickN_sound h; exact ⟨m, by omega, h2, h3⟩

theorem indexAddr_sound {t : TypeId} {x i : Operand} {k : AV → Option α} (hq : indexAddrA P Λ h t (e x) (e i) k = some r) :
    ∃ av, k av = some r ∧ ∀ o : Oper, o.op = .indexAddr t x i → QOk P GW Λ h o e av := by
  unfold indexAddrA at hq
  split at hq
  · rename_i el ik j hu hei
    split at hq
    · rename_i z hz
      split at hq
      · rename_i b off n c hex
        obtain ⟨m, hm, hjm, hq2⟩ := pickN_sound hq; subst hjm
        refine ⟨_, hq2, fun o ho => QOk.of_run fun B G w ρ hp2 hcp H hΛ hop => ?_⟩
        have hv := hop x (by simp [ho, Op.operands])
        have hv2 := hop i (by simp [ho, Op.operands])
        rw [hex] at hv; rw [hei] at hv2; simp only [AV.is] at hv hv2
        have hj : (0 : Int) ≤ (m : Int) ∧ (m : Int) < (n : Int) := ⟨by omega, by omega⟩
        refine ⟨.pointer (some ⟨G.at_ b, off + m * z, none⟩), ?_, by simp only [AV.is, and_true]; exact hv.1⟩
        simp [execOp, ho, hv.2, hv2, Instr.indexAt, asIntOf, run_underlying hu, run_szT hz w, hm, add_addr]
      · rename_i t' l hex
        split at hq
        · rename_i hzl
          split at hq
          · rename_i hj
            refine ⟨_, hq, fun o ho => QOk.of_run fun B G w ρ hp2 hcp H hΛ hop => ?_⟩
            have hv := hop x (by simp [ho, Op.operands])
            have hv2 := hop i (by simp [ho, Op.operands])
            rw [hex] at hv; rw [hei] at hv2; simp only [AV.is] at hv hv2
            obtain ⟨b, o', cap, hvv, hs⟩ := crep_elem hv (i := j.toNat) (by omega)
            refine ⟨.pointer (some ⟨b, o' + j.toNat * z, none⟩), ?_, by simp only [AV.is]; rw [hzl, ← hΛ]; exact hs⟩
            simp [execOp, ho, hvv, hv2, Instr.indexAt, asIntOf, run_underlying hu, run_szT hz w, hj.1, hj.2, add_addr]
          · cases hq
        · cases hq
      · rename_i rr qq hex
        split at hq
        · rename_i t' v' nb l hrow
          split at hq
          · rename_i hc
            obtain ⟨rfl, hzl⟩ := hc
            split at hq
            · rename_i hj
              refine ⟨_, hq, fun o ho => QOk.of_run fun B G w ρ hp2 hcp H hΛ hop => ?_⟩
              have hv := hop x (by simp [ho, Op.operands])
              have hv2 := hop i (by simp [ho, Op.operands])
              rw [hex] at hv; rw [hei] at hv2; simp only [AV.is] at hv hv2
              obtain ⟨h1, h2, _, h3⟩ := hv
              have hrow2 := (hcp (by rw [ho]; rfl)).get hrow (by rw [H.len]; exact h1)
              obtain ⟨hver, hrep⟩ := H.blk rr _ hrow2
              have hvv := h3 hver
              obtain ⟨_, _, _, xs, hown, _⟩ := hrep
              rcases hown.2 with ⟨_, hl0⟩ | ⟨g, cap, cur, hrv, _⟩
              · exfalso; omega
              · refine ⟨.pointer (some ⟨g, j.toNat * z, none⟩), ?_, by simp only [AV.is]; exact ⟨h1, h2, ⟨_, _, rfl⟩, fun _ => ⟨g, l.length, cap, hrv, by omega, rfl⟩⟩⟩
                simp [execOp, ho, hvv, hrv, hv2, Instr.indexAt, asIntOf, run_underlying hu, run_szT hz w, hj.1, hj.2, add_addr]
            · cases hq
          · cases hq
        · rename_i t' v' l hrow
          split at hq
          · rename_i hc
            obtain ⟨rfl, hzl⟩ := hc
            split at hq
            · rename_i hj
              refine ⟨_, hq, fun o ho => QOk.of_run fun B G w ρ hp2 hcp H hΛ hop => ?_⟩
              have hv := hop x (by simp [ho, Op.operands])
              have hv2 := hop i (by simp [ho, Op.operands])
              rw [hex] at hv; rw [hei] at hv2; simp only [AV.is] at hv hv2
              obtain ⟨h1, h2, _, h3⟩ := hv
              have hrow2 := (hcp (by rw [ho]; rfl)).get hrow (by rw [H.len]; exact h1)
              obtain ⟨hver, _, hrep⟩ := H.blk rr _ hrow2
              have hvv := h3 hver
              obtain ⟨b, o', cap, hrv, hs⟩ := crep_elem hrep (i := j.toNat) (by omega)
              refine ⟨.pointer (some ⟨b, o' + j.toNat * z, none⟩), ?_, by simp only [AV.is]; rw [hzl, ← hΛ]; exact hs⟩
              simp [execOp, ho, hvv, hrv, hv2, Instr.indexAt, asIntOf, run_underlying hu, run_szT hz w, hj.1, hj.2, add_addr]
            · cases hq
          · cases hq
        · cases hq
      · cases hq
    · cases hq
  · rename_i n el ik j hu hei
    split at hq
    · rename_i z b off hz hex
      obtain ⟨m, hm, hjm, hq2⟩ := pickN_sound hq; subst hjm
      refine ⟨_, hq2, fun o ho => QOk.of_run fun B G w ρ hp2 hcp H hΛ hop => ?_⟩
      have hv := hop x (by simp [ho, Op.operands])
      have hv2 := hop i (by simp [ho, Op.operands])
      rw [hex] at hv; rw [hei] at hv2; simp only [AV.is] at hv hv2
      refine ⟨.pointer (some ⟨G.at_ b, off + m * z, none⟩), ?_, by simp only [AV.is, and_true]; exact hv.1⟩
      simp [execOp, ho, hv.2, hv2, Instr.indexAt, Instr.sureAddr, asIntOf, run_underlying hu, run_szT hz w, hm, add_addr]
    · cases hq
  · cases hq

theorem fieldAddr_sound {t : TypeId} {x : Operand} {f : Nat} {av : AV} (hq : fieldAddrA P t (e x) f = some av) : ∀ o : Oper, o.op = .fieldAddr t x f → QOk P GW Λ h o e av := by
  intro o ho
  unfold fieldAddrA at hq
  split at hq
  · rename_i fs hu
    cases hf : fs[f]? with
    | none => simp [hf] at hq
    | some q =>
      simp only [hf] at hq
      cases hn : szT P q.type with
      | none => simp [hn] at hq
      | some n =>
        simp only [hn] at hq
        split at hq
        · cases hq
        · rename_i hne
          have run : ∀ (ρ : Operand → Value) (w : World) (b off : Nat), ρ x = .pointer (some ⟨b, off, none⟩) → (execOp ρ o).run P w = .ok (.value (.pointer (some ⟨b, off + q.offset, none⟩))) w := fun ρ w b off hv => by
            simp [execOp, ho, hv, Instr.fieldAt, run_underlying hu, hf, Instr.sureAddr, fieldPlace, run_szT hn w, hne, add_addr]
          split at hq
          · rename_i b off hex
            cases hq
            refine QOk.of_run fun B G w ρ hp2 hcp H hΛ hop => ?_
            have hv := hop x (by simp [ho, Op.operands])
            rw [hex] at hv; simp only [AV.is] at hv
            exact ⟨_, run ρ w _ _ hv.2, by simp only [AV.is, and_true]; exact hv.1⟩
          · rename_i el l i off hex
            cases hq
            refine QOk.of_run fun B G w ρ hp2 hcp H hΛ hop => ?_
            have hv := hop x (by simp [ho, Op.operands])
            rw [hex] at hv; simp only [AV.is] at hv
            obtain ⟨b, base, hv, hc⟩ := hv
            exact ⟨_, run ρ w _ _ hv, by simp only [AV.is]; exact ⟨b, base, by rw [Nat.add_assoc], hc⟩⟩
          · rename_i rr vv m i off hex
            cases hq
            refine QOk.of_run fun B G w ρ hp2 hcp H hΛ hop => ?_
            have hv := hop x (by simp [ho, Op.operands])
            rw [hex] at hv; simp only [AV.is] at hv
            obtain ⟨h1, h2, ⟨b, p, hpa⟩, h3⟩ := hv
            refine ⟨_, run ρ w _ _ hpa, ?_⟩
            simp only [AV.is]
            refine ⟨h1, h2, ⟨_, _, rfl⟩, fun e => ?_⟩
            obtain ⟨g, n', c, a1, a2, a3⟩ := h3 e
            rw [hpa] at a3
            simp only [Value.pointer.injEq, Option.some.injEq, Addr.mk.injEq, and_true] at a3
            obtain ⟨rfl, rfl⟩ := a3
            exact ⟨b, n', c, a1, a2, by rw [Nat.add_assoc]⟩
          · cases hq
  · cases hq

theorem field_sound {t : TypeId} {x : Operand} {f : Nat} {av : AV} (hq : fieldA P t (e x) f = some av) : ∀ o : Oper, o.op = .field t x f → QOk P GW Λ h o e av := by
  intro o ho
  unfold fieldA at hq
  split at hq
  · rename_i fs l hu hex
    cases hf : fs[f]? with
    | none => simp [hf] at hq
    | some q =>
      simp only [hf] at hq
      refine QOk.of_run fun B G w ρ hp2 hcp H hΛ hop => ?_
      have hv := hop x (by simp [ho, Op.operands])
      rw [hex] at hv; simp only [AV.is] at hv
      obtain ⟨cs, hcs, hl⟩ := hv
      obtain ⟨v, hrun, hv⟩ := run_partA hq hl w
      exact ⟨v, by simp [execOp, ho, hcs, Instr.field, run_underlying hu, hf, asAgg, hrun], hv⟩
  · cases hq

theorem evs_isL {G : Gh} {w : World} {ρ : Operand → Value} : ∀ (l : List Operand), (∀ x ∈ l, (e x).is G w (ρ x)) → AV.isL G w (l.map e) (l.map ρ)
  | [], _ => by simp [AV.isL]
  | x :: l, hx => by
    simp only [List.map_cons, AV.isL]
    exact ⟨_, _, rfl, hx x (by simp), evs_isL l fun y hy => hx y (by simp [hy])⟩

theorem build_sound {t : TypeId} {parts : Array (Nat × Operand)} {av : AV} (hq : buildA P t (parts.toList.map fun p => (p.1, e p.2)) = some av) : ∀ o : Oper, o.op = .build t parts → QOk P GW Λ h o e av := by
  intro o ho
  refine QOk.of_run fun B G w ρ hp2 hcp H hΛ hop => ?_
  have hp : AV.isL G w ((parts.toList.map fun p => (p.1, e p.2)).map (·.2)) ((parts.map fun (p : Nat × Operand) => (p.1, ρ p.2)).toList.map (·.2)) := by
    have := evs_isL (e := e) (G := G) (w := w) (ρ := ρ) (parts.toList.map (·.2)) (fun x hx => hop x (by simpa [ho, Op.operands] using hx))
    simpa [List.map_map, Function.comp_def] using this
  obtain ⟨v, hrun, hv⟩ := run_buildA (P := P) hq (vparts := parts.map fun (p : Nat × Operand) => (p.1, ρ p.2)) (by simp [List.map_map, Function.comp_def]) hp w
  refine ⟨v, ?_, hv⟩
  have e1 : execOp ρ o = (do pure (.value (← Instr.build t (parts.map fun (p : Nat × Operand) => (p.1, ρ p.2))))) := by simp only [execOp, ho]
  rw [e1, Sem.run_bind, hrun]
  rfl

theorem index_sound {t : TypeId} {x i : Operand} {k : AV → Option α} (hq : (match P.underlying t, e x, e i with
    | some .string, .str s, .int _ n => if 0 ≤ n ∧ n < (s.size : Int) then k (.int .u8 (byteAt s n)) else none
    | _, _, _ => none) = some r) : ∃ av, k av = some r ∧ ∀ o : Oper, o.op = .index t x i → QOk P GW Λ h o e av := by
  split at hq
  · rename_i s ik n hu hex hei
    split at hq
    · rename_i hb
      refine ⟨_, hq, fun o ho => QOk.of_run fun B G w ρ hp2 hcp H hΛ hop => ?_⟩
      have hv := hop x (by simp [ho, Op.operands])
      have hv2 := hop i (by simp [ho, Op.operands])
      rw [hex] at hv; simp only [AV.is] at hv
      rw [hei] at hv2; simp only [AV.is] at hv2
      refine ⟨.int .u8 (byteAt s n), ?_, by simp [AV.is]⟩
      have hlt : n.toNat < s.size := by omega
      have hg : s[n.toNat]? = some s[n.toNat] := getElem?_pos s n.toNat hlt
      simp only [execOp, ho, hv, hv2, Instr.index, Sem.run_bind, run_underlying hu, asIntOf, Sem.run_pure, Result.andThen_ok, hb.1, if_true, hg]
      have : byteAt s n = ((s[n.toNat]).toNat : Int) := by
        unfold byteAt
        rw [List.getD_eq_getElem?_getD, List.getElem?_eq_getElem (by simpa using hlt)]
        rfl
      rw [this]
    · cases hq
  · cases hq

theorem sliceStr_sound {t : TypeId} {x : Operand} {lo hi : Option Operand} {s : ByteArray} {k : AV → Option α} (hu : P.underlying t = some .string) (hex : e x = .str s)
    (hq : sliceStrA s (match lo with | some l => e l | none => .int .i64 0) (match hi with | some l => e l | none => .int .i64 s.size) k = some r) :
    ∃ av, k av = some r ∧ ∀ o : Oper, o.op = .slice t x lo hi none → QOk P GW Λ h o e av := by
  unfold sliceStrA at hq
  split at hq
  · rename_i i1 l i2 hh hl hhi
    split at hq
    · rename_i h1
      split at hq
      · rename_i h2
        refine ⟨_, hq, fun o ho => QOk.of_run fun B G w ρ hp2 hcp H hΛ hop => ?_⟩
        have hv := hop x (by simp [ho, Op.operands])
        rw [hex] at hv; simp only [AV.is] at hv
        refine ⟨.string (s.extract l.toNat hh.toNat), ?_, by simp [AV.is]⟩
        have e2 : ∀ (c : BoundsCode), (match hi.map ρ with | some v => Instr.sliceBound v s.size c | none => pure s.size).run P w = .ok hh.toNat w := fun c => by
          cases hi with
          | none => simp only at hhi; cases hhi; simp
          | some z =>
            simp only at hhi
            have := hop z (by simp [ho, Op.operands])
            rw [hhi] at this; simp only [AV.is] at this
            simp only [Option.map_some, this]
            exact run_sliceBound (P := P) w i2 hh s.size c h1.1 h1.2
        have e1 : ∀ (c : BoundsCode), (match lo.map ρ with | some v => Instr.sliceBound v hh.toNat c | none => pure 0).run P w = .ok l.toNat w := fun c => by
          cases lo with
          | none => simp only at hl; cases hl; simp
          | some z =>
            simp only at hl
            have := hop z (by simp [ho, Op.operands])
            rw [hl] at this; simp only [AV.is] at this
            simp only [Option.map_some, this]
            exact run_sliceBound (P := P) w i1 l hh.toNat c h2.1 (by omega)
        have eb : (Instr.sliceBounds false s.size s.size (lo.map ρ) (hi.map ρ) none).run P w = .ok (l.toNat, hh.toNat, s.size) w := by
          have e2' := e2 .sliceAlen
          have e1' := e1 .sliceB
          unfold Instr.sliceBounds
          cases hi <;> cases lo <;> simp only [Option.map_some, Option.map_none] at e1' e2' ⊢ <;>
            simp only [Sem.run_bind, Sem.run_pure, Result.andThen_ok, e1', e2', Bool.false_eq_true, if_false, Option.isSome_none] <;>
            (try (simp only [Sem.run_pure, Result.ok.injEq, and_true] at e2')) <;> (try (simp only [Sem.run_pure, Result.ok.injEq, and_true] at e1')) <;>
            simp only [Sem.run_bind, Sem.run_pure, Result.andThen_ok, e1', e2']
        have ex : execOp ρ o = (do pure (.value (← Instr.sliceAt t (ρ x) (lo.map ρ) (hi.map ρ) none))) := by simp only [execOp, ho, Option.map_none]
        rw [ex, hv]
        simp only [Instr.sliceAt, Instr.slice, Sem.run_bind, run_underlying hu, Result.andThen_ok, Option.isSome_none, Bool.false_eq_true, if_false, eb, Sem.run_pure]
      · cases hq
    · cases hq
  · cases hq

theorem extract_sound {x : Operand} {i : Nat} {l : List AV} {v : AV} (hex : e x = .tup l) (hl : l[i]? = some v) : ∀ o : Oper, o.op = .extract x i → QOk P GW Λ h o e v := by
  intro o ho
  refine QOk.of_run fun B G w ρ hp2 hcp H hΛ hop => ?_
  have hv := hop x (by simp [ho, Op.operands])
  rw [hex] at hv; simp only [AV.is] at hv
  obtain ⟨a, ha, hal⟩ := hv
  obtain ⟨u, hu, k⟩ := isL_get hal i v hl
  have hu' : a[i]? = some u := by simpa using hu
  exact ⟨u, by simp [execOp, ho, ha, Instr.extract, hu'], k⟩

theorem crep_sub {lay : Nat → List CK} {imm : Nat → Nat → Prop} {w : World} {t : Nat} {l : List (List D)} {v : Value} (h : CRep lay imm w (.seq t) (.seq l) v) (lo hi : Nat) (h1 : lo ≤ hi) (h2 : hi ≤ l.length) :
    ∃ a c, v = .slice a l.length c ∧ l.length ≤ c ∧ CRep lay imm w (.seq t) (.seq ((l.take hi).drop lo)) (.slice (if c = lo then a else a.map (·.add (lo * (lay t).length))) (hi - lo) (c - lo)) := by
  cases h
  case nil =>
    have e1 : hi = 0 := by simpa using h2
    have e2 : lo = 0 := by omega
    subst e1; subst e2
    exact ⟨none, 0, rfl, Nat.le_refl _, by simpa using CRep.nil t⟩
  case seq b o cap u q1 q2 q3 q4 =>
    refine ⟨_, cap, rfl, q1, ?_⟩
    have hlen : ((l.take hi).drop lo).length = hi - lo := by simp; omega
    have hget : ∀ i, ((l.take hi).drop lo)[i]? = if lo + i < hi then l[lo + i]? else none := fun i => by rw [List.getElem?_drop, List.getElem?_take]
    have hex : ∃ o', (if cap = lo then some (⟨b, o, none⟩ : Addr) else (some (⟨b, o, none⟩ : Addr)).map (·.add (lo * (lay t).length))) = some ⟨b, o', none⟩ ∧ (lo < hi → o' = o + lo * (lay t).length) := by
      by_cases e : cap = lo
      · exact ⟨o, by rw [if_pos e], fun _ => by omega⟩
      · exact ⟨o + lo * (lay t).length, by rw [if_neg e]; simp [add_addr], fun _ => rfl⟩
    obtain ⟨o', e, ho'⟩ := hex
    rw [e, ← hlen]
    refine .seq t _ b o' (cap - lo) (fun i j => u (lo + i) j) (by rw [hlen]; omega) (fun i x hx => ?_) (fun i j hi' hj => ?_) (fun i j x d k hx hd hk => ?_)
    · rw [hget] at hx
      split at hx
      · exact q2 _ _ hx
      · cases hx
    · rw [hlen] at hi'
      obtain ⟨a1, a2⟩ := q3 (lo + i) j (by omega) hj
      rw [show o' + i * (lay t).length + j = o + (lo + i) * (lay t).length + j by rw [ho' (by omega), Nat.add_mul]; omega]
      exact ⟨a1, a2⟩
    · rw [hget] at hx
      split at hx
      · exact q4 _ _ _ _ _ hx hd hk
      · cases hx

theorem sliceSeq_sound {t et t' : TypeId} {x : Operand} {lo hi : Option Operand} {l : List (List D)} {k : AV → Option α} (hu : P.underlying t = some (.slice et)) (hsz : szT P et = some (Λ t').length) (hex : e x = .seq t' l)
    (hq : sliceSeqA t' l (match lo with | some l => e l | none => .int .i64 0) (match hi with | some l => e l | none => .int .i64 l.length) k = some r) :
    ∃ av, k av = some r ∧ ∀ o : Oper, o.op = .slice t x lo hi none → QOk P GW Λ h o e av := by
  unfold sliceSeqA at hq
  split at hq
  · rename_i i1 l1 i2 hh hl hhi
    split at hq
    · rename_i h1
      split at hq
      · rename_i h2
        refine ⟨_, hq, fun o ho => QOk.of_run fun B G w ρ hp2 hcp H hΛ hop => ?_⟩
        have hv := hop x (by simp [ho, Op.operands])
        rw [hex] at hv; simp only [AV.is] at hv
        obtain ⟨a, c, hva, hlc, hsub⟩ := crep_sub hv l1.toNat hh.toNat (by omega) (by omega)
        refine ⟨_, ?_, by simp only [AV.is]; exact hsub⟩
        have e2 : ∀ (cd : BoundsCode), (match hi.map ρ with | some v => Instr.sliceBound v c cd | none => pure l.length).run P w = .ok hh.toNat w := fun cd => by
          cases hi with
          | none => simp only at hhi; cases hhi; simp
          | some z =>
            simp only at hhi
            have := hop z (by simp [ho, Op.operands])
            rw [hhi] at this; simp only [AV.is] at this
            simp only [Option.map_some, this]
            exact run_sliceBound (P := P) w i2 hh c cd h1.1 (by omega)
        have e1 : ∀ (cd : BoundsCode), (match lo.map ρ with | some v => Instr.sliceBound v hh.toNat cd | none => pure 0).run P w = .ok l1.toNat w := fun cd => by
          cases lo with
          | none => simp only at hl; cases hl; simp
          | some z =>
            simp only at hl
            have := hop z (by simp [ho, Op.operands])
            rw [hl] at this; simp only [AV.is] at this
            simp only [Option.map_some, this]
            exact run_sliceBound (P := P) w i1 l1 hh.toNat cd h2.1 (by omega)
        have eb : (Instr.sliceBounds true l.length c (lo.map ρ) (hi.map ρ) none).run P w = .ok (l1.toNat, hh.toNat, c) w := by
          have e2' := e2 .sliceAcap
          have e1' := e1 .sliceB
          unfold Instr.sliceBounds
          cases hi <;> cases lo <;> simp only [Option.map_some, Option.map_none] at e1' e2' ⊢ <;>
            simp only [Sem.run_bind, Sem.run_pure, Result.andThen_ok, e1', e2', if_true, Option.isSome_none, Bool.false_eq_true, if_false] <;>
            (try (simp only [Sem.run_pure, Result.ok.injEq, and_true] at e2')) <;> (try (simp only [Sem.run_pure, Result.ok.injEq, and_true] at e1')) <;>
            simp only [Sem.run_bind, Sem.run_pure, Result.andThen_ok, e1', e2']
        have ex : execOp ρ o = (do pure (.value (← Instr.sliceAt t (ρ x) (lo.map ρ) (hi.map ρ) none))) := by simp only [execOp, ho, Option.map_none]
        rw [ex, hva, hΛ]
        simp only [Instr.sliceAt, Instr.slice, Sem.run_bind, run_underlying hu, Result.andThen_ok, eb, Sem.run_pure, run_szT hsz w]
      · cases hq
    · cases hq
  · cases hq

theorem lenA_is {B : Nat} {G : Gh} {w : World} {h2 : Hp} (H : HRep G B h2 w) (hc : Compat h h2) {a : AV} {n : Nat} (hl : lenA h a = some n) {v : Value} (ha : a.is G w v) : ∃ p c, v = .slice p n c := by
  unfold lenA at hl
  split at hl
  · cases hl; simp only [AV.is] at ha; exact ⟨_, _, ha.2⟩
  · cases hl; simp only [AV.is] at ha; exact ⟨_, _, ha⟩
  · cases hl; simp only [AV.is] at ha; exact crep_slice ha
  · rename_i rr q
    simp only [AV.is] at ha
    obtain ⟨h1, _, _, h3⟩ := ha
    split at hl
    · rename_i e v nb l hrow
      split at hl
      · rename_i e
        subst e
        cases hl
        obtain ⟨hver, _, _, _, xs, hown, _⟩ := H.blk rr _ (hc.get hrow (by rw [H.len]; exact h1))
        rw [h3 hver]
        rcases hown.2 with ⟨hn, hl0⟩ | ⟨g, cap, cur, hrv, _⟩
        · rw [hn, hl0]; exact ⟨_, _, rfl⟩
        · exact ⟨_, _, hrv⟩
      · cases hl
    · rename_i e v l hrow
      split at hl
      · rename_i e
        subst e
        cases hl
        obtain ⟨hver, _, hrep⟩ := H.blk rr _ (hc.get hrow (by rw [H.len]; exact h1))
        rw [h3 hver]
        exact crep_slice hrep
      · cases hl
    · cases hl
  · cases hl

theorem builtin_sound {b : Builtin} {c : Call} {k : AV → Option α} (hc : c.callee = .builtin b) (hq : builtinA P h b c.argTypes (c.args.toList.map e) k = some r) :
    ∃ av, k av = some r ∧ ∀ o : Oper, o.op = .call c → QOk P GW Λ h o e av := by
  have ops : ∀ (o : Oper), o.op = .call c → ∀ x ∈ c.args.toList, x ∈ o.op.operands := fun o ho x hx => by
    simp only [ho, Op.operands, Call.operands, hc]
    simpa using hx
  have run : ∀ (o : Oper), o.op = .call c → ∀ (w : World) (ρ : Operand → Value), ∃ cs, (execOp ρ o).run P w = (builtin b c.argTypes o.type cs (c.args.map ρ)).run P w := fun o ho w ρ => by
    refine ⟨c.args.map fun | .const _ => true | _ => false, ?_⟩
    have e1 : execOp ρ o = (do let d ← resolve ρ c o.type; invoke d.target d.args) := by simp only [execOp, ho]
    rw [e1]
    simp only [resolve, hc]
    rfl
  have one : ∀ {v : AV}, c.args.toList.map e = [v] → ∃ x, c.args.toList = [x] := fun hargs => by
    cases hl : c.args.toList with
    | nil => simp [hl] at hargs
    | cons x t => cases t <;> simp [hl] at hargs ⊢
  unfold builtinA at hq
  split at hq
  · rename_i s hargs
    split at hq
    · rename_i hu
      refine ⟨_, hq, fun o ho => QOk.of_run fun B G w ρ hp2 hcp H hΛ hop => ?_⟩
      obtain ⟨x, hx⟩ := one hargs
      have hex : e x = .str s := by rw [hx] at hargs; simpa using hargs
      have hv := hop x (ops o ho x (by simp [hx]))
      rw [hex] at hv; simp only [AV.is] at hv
      have hca : c.args = #[x] := by apply Array.ext'; simpa using hx
      cases ht : c.argTypes[0]? with
      | none => simp [ht] at hu
      | some t =>
        simp [ht] at hu
        exact ⟨.int .i64 s.size, by obtain ⟨cs, hcs⟩ := run o ho w ρ; rw [hcs]; simp [builtin, Builtin.len_, ht, hca, hv, run_underlying hu, goInt], by simp [AV.is]⟩
    · cases hq
  · rename_i x' hnot hargs
    split at hq
    · rename_i el hu
      split at hq
      · rename_i n' hlen
        refine ⟨_, hq, fun o ho => QOk.of_run fun B G w ρ hp2 hcp H hΛ hop => ?_⟩
        obtain ⟨x, hx⟩ := one hargs
        have hex : e x = x' := by rw [hx] at hargs; simpa using hargs
        have hv := hop x (ops o ho x (by simp [hx]))
        rw [hex] at hv
        obtain ⟨a', c', hsl⟩ := lenA_is H (hcp (by rw [ho]; rfl)) hlen hv
        have hca : c.args = #[x] := by apply Array.ext'; simpa using hx
        cases ht : c.argTypes[0]? with
        | none => simp [ht] at hu
        | some t =>
          simp [ht] at hu
          exact ⟨.int .i64 n', by obtain ⟨cs, hcs⟩ := run o ho w ρ; rw [hcs]; simp [builtin, Builtin.len_, ht, hca, hsl, run_underlying hu, goInt], by simp [AV.is]⟩
      · cases hq
    · cases hq
  · rename_i i x j y hargs
    refine ⟨_, hq, fun o ho => QOk.of_run fun B G w ρ hp2 hcp H hΛ hop => ?_⟩
    obtain ⟨p, q, hx⟩ : ∃ p q, c.args.toList = [p, q] := by
      cases hl : c.args.toList with
      | nil => simp [hl] at hargs
      | cons p t => cases t with
        | nil => simp [hl] at hargs
        | cons q t => cases t <;> simp [hl] at hargs ⊢
    rw [hx] at hargs
    simp only [List.map_cons, List.map_nil, List.cons.injEq, and_true] at hargs
    have hv := hop p (ops o ho p (by simp [hx]))
    have hv2 := hop q (ops o ho q (by simp [hx]))
    rw [hargs.1] at hv; rw [hargs.2] at hv2; simp only [AV.is] at hv hv2
    have hca : c.args = #[p, q] := by apply Array.ext'; simpa using hx
    exact ⟨.int i (if y < x then y else x), by obtain ⟨cs, hcs⟩ := run o ho w ρ; rw [hcs]; simp [builtin, Builtin.min_, hca, hv, hv2, Builtin.min2], by simp [AV.is]⟩
  · rename_i i x j y hargs
    refine ⟨_, hq, fun o ho => QOk.of_run fun B G w ρ hp2 hcp H hΛ hop => ?_⟩
    obtain ⟨p, q, hx⟩ : ∃ p q, c.args.toList = [p, q] := by
      cases hl : c.args.toList with
      | nil => simp [hl] at hargs
      | cons p t => cases t with
        | nil => simp [hl] at hargs
        | cons q t => cases t <;> simp [hl] at hargs ⊢
    rw [hx] at hargs
    simp only [List.map_cons, List.map_nil, List.cons.injEq, and_true] at hargs
    have hv := hop p (ops o ho p (by simp [hx]))
    have hv2 := hop q (ops o ho q (by simp [hx]))
    rw [hargs.1] at hv; rw [hargs.2] at hv2; simp only [AV.is] at hv hv2
    have hca : c.args = #[p, q] := by apply Array.ext'; simpa using hx
    exact ⟨.int i (if y > x then y else x), by obtain ⟨cs, hcs⟩ := run o ho w ρ; rw [hcs]; simp [builtin, Builtin.max_, hca, hv, hv2, Builtin.max2], by simp [AV.is]⟩
  · cases hq

/-! ### data handed over -/
/-- It may be written no more from now on. -/
def Frz (h : Hp) (r : Nat) : Prop := (∃ e v nb l, h[r]? = some (.row e v nb l)) ∨ (∃ e l md, h[r]? = some (.cells e l md) ∧ md ≠ .glob)

theorem gle_imm {G : Gh} {w : World} {imm' : Nat → Nat → Prop} (hi : ∀ b o, G.imm b o → imm' b o) : G.le w { G with imm := imm' } w :=
  ⟨Nat.le_refl _, fun _ _ => rfl, hi, fun _ _ _ => rfl, fun _ _ => Nat.le_refl _, fun _ _ _ => rfl, rfl⟩

theorem CRep.more {G : Gh} {w : World} {S S' : List Nat} (hs : ∀ r ∈ S, r ∈ S') {k : CK} {d : D} {v : Value} (hc : CRep G.lay (immR G S) w k d v) (hcell : True) : CRep G.lay (immR G S') w k d v :=
  hc.mono (immR_mono hs) (fun _ _ _ => rfl)

theorem row_crep {G : Gh} {B : Nat} {w : World} {e : TypeId} {nb : Bool} {l : List (List D)} {v : Value} {r : Nat} (h : RowRep G B w e nb l v (G.ft r)) (S : List Nat) (hr : r ∈ S) : CRep G.lay (immR G S) w (.seq e) (.seq l) v := by
  have h0 := h
  obtain ⟨h1, _, h3, xs, h4, h5⟩ := h
  rcases h4.2 with ⟨hn, hl0⟩ | ⟨g, cap, cur, hrv, _, hcur, hle, hmax, hsz, htake⟩
  · have : l = [] := List.eq_nil_of_length_eq_zero hl0
    subst this; rw [hn]; exact .nil e
  · obtain ⟨_, _, hft, hcells⟩ := h0.cells hrv
    rw [hrv]
    refine .seq e l g 0 cap (fun i j => (w.cell? ⟨g, i * (G.lay e).length + j, none⟩).getD undef) hle h3 (fun i j hi hj => ?_) (fun i j x d k hx hd hk => ?_)
    · obtain ⟨u, k, _, hc, _⟩ := hcells i j hi hj
      rw [Nat.zero_add]
      exact ⟨.inr ⟨r, hr, by rw [hft]; simp⟩, by rw [hc]; rfl⟩
    · have hi : i < l.length := (List.getElem?_eq_some_iff.1 hx).1
      have hj : j < (G.lay e).length := (List.getElem?_eq_some_iff.1 hk).1
      obtain ⟨u, k', hk', hc, hcr⟩ := hcells i j hi hj
      rw [hk] at hk'; cases hk'
      rw [hc, Option.getD_some, ← D_at hx hd]
      exact hcr.mono (fun _ _ q => .inl q) (fun _ _ _ => rfl)

theorem leafD_is {B : Nat} {G : Gh} {w : World} {h2 : Hp} (H : HRep G B h2 w) (hc2 : Compat h h2) {k : CK} {a : AV} {d : D} {S : List Nat} (hd : leafD h k a = some (d, S)) {v : Value} (ha : a.is G w v) : CRep G.lay (immR G S) w k d v ∧ ∀ r ∈ S, Frz h r ∧ r < G.n := by
  unfold leafD at hd
  split at hd
  · split at hd
    · rename_i e; subst e; cases hd; simp only [AV.is] at ha; subst ha; exact ⟨.int _ _, by simp⟩
    · cases hd
  · cases hd; simp only [AV.is] at ha; subst ha; exact ⟨.bool _, by simp⟩
  · cases hd; simp only [AV.is] at ha; subst ha; exact ⟨.str _, by simp⟩
  · split at hd
    · rename_i e; subst e; cases hd; simp only [AV.is] at ha
      exact ⟨ha.mono (fun _ _ q => .inl q) (fun _ _ _ => rfl), by simp⟩
    · cases hd
  · cases hd; simp only [AV.is] at ha; subst ha; exact ⟨.nil _, by simp⟩
  · rename_i t rr q
    simp only [AV.is] at ha
    obtain ⟨h1, _, _, h3⟩ := ha
    split at hd
    · rename_i e v' nb l hrow
      split at hd
      · rename_i hc
        obtain ⟨rfl, rfl⟩ := hc
        cases hd
        obtain ⟨hver, hrep⟩ := H.blk rr _ (hc2.get hrow (by rw [H.len]; exact h1))
        rw [h3 hver]
        exact ⟨row_crep hrep [rr] (by simp), by simp; exact ⟨.inl ⟨_, _, _, _, hrow⟩, h1⟩⟩
      · cases hd
    · rename_i e v' l hrow
      split at hd
      · rename_i hc
        obtain ⟨rfl, rfl⟩ := hc
        cases hd
        obtain ⟨hver, _, hrep⟩ := H.blk rr _ (hc2.get hrow (by rw [H.len]; exact h1))
        rw [h3 hver]
        exact ⟨hrep.mono (fun _ _ q => .inl q) (fun _ _ _ => rfl), by simp⟩
      · cases hd
    · cases hd
  · cases hd

theorem cellsD_is {G : Gh} {w : World} {g : CK → AV → Option (D × List Nat)} (hg : ∀ k a d S v, g k a = some (d, S) → a.is G w v → CRep G.lay (immR G S) w k d v ∧ ∀ r ∈ S, Frz h r ∧ r < G.n) :
    ∀ (ks : List CK) (l : List AV) (ds : List D) (S : List Nat) (vs : List Value), cellsD g ks l = some (ds, S) → AV.isL G w l vs →
      ds.length = ks.length ∧ (∀ r ∈ S, Frz h r ∧ r < G.n) ∧ ∀ (j : Nat) (d : D) (k : CK), ds[j]? = some d → ks[j]? = some k → ∃ u, vs[j]? = some u ∧ CRep G.lay (immR G S) w k d u
  | [], l, ds, S, vs, hd, hl => by simp only [cellsD] at hd; cases hd; simp
  | k :: ks, [], ds, S, vs, hd, hl => by simp [cellsD] at hd
  | k :: ks, a :: l, ds, S, vs, hd, hl => by
    simp only [cellsD] at hd
    split at hd
    · rename_i d1 S1 ds1 S2 e1 e2
      cases hd
      simp only [AV.isL] at hl
      obtain ⟨v, r, rfl, ha, hl⟩ := hl
      obtain ⟨c1, f1⟩ := hg _ _ _ _ _ e1 ha
      obtain ⟨n2, f2, c2⟩ := cellsD_is hg ks l ds1 S2 r e2 hl
      refine ⟨by simp [n2], fun r hr => ?_, fun j d k' hj hk => ?_⟩
      · rcases List.mem_append.1 hr with q | q
        · exact f1 r q
        · exact f2 r q
      · cases j with
        | zero => simp at hj hk; subst hj; subst hk; exact ⟨v, rfl, c1.mono (immR_mono fun r q => List.mem_append.2 (.inl q)) (fun _ _ _ => rfl)⟩
        | succ j =>
          obtain ⟨u, hu, hc⟩ := c2 j d k' (by simpa using hj) (by simpa using hk)
          exact ⟨u, by simpa using hu, hc.mono (immR_mono fun r q => List.mem_append.2 (.inr q)) (fun _ _ _ => rfl)⟩
    · cases hd

theorem rowsD_is {G : Gh} {w : World} {g : CK → AV → Option (D × List Nat)} (hg : ∀ k a d S v, g k a = some (d, S) → a.is G w v → CRep G.lay (immR G S) w k d v ∧ ∀ r ∈ S, Frz h r ∧ r < G.n) (ks : List CK) :
    ∀ (n : Nat) (l : List AV) (xs : List (List D)) (S : List Nat) (vs : List Value), rowsD g ks n l = some (xs, S) → AV.isL G w l vs →
      xs.length = n ∧ (∀ r ∈ S, Frz h r ∧ r < G.n) ∧ (∀ (i : Nat) (x : List D), xs[i]? = some x → x.length = ks.length) ∧
        ∀ (i j : Nat) (x : List D) (d : D) (k : CK), xs[i]? = some x → x[j]? = some d → ks[j]? = some k → ∃ u, vs[i * ks.length + j]? = some u ∧ CRep G.lay (immR G S) w k d u
  | 0, l, xs, S, vs, hd, hl => by simp only [rowsD] at hd; cases hd; simp
  | n + 1, l, xs, S, vs, hd, hl => by
    simp only [rowsD] at hd
    split at hd
    · rename_i d1 S1 ds1 S2 e1 e2
      cases hd
      obtain ⟨n1, f1, c1⟩ := cellsD_is hg ks l d1 S1 vs e1 hl
      obtain ⟨n2, f2, l2, c2⟩ := rowsD_is hg ks n (l.drop ks.length) ds1 S2 (vs.drop ks.length) e2 (isL_drop hl _)
      refine ⟨by simp [n2], fun r hr => ?_, fun i x hx => ?_, fun i j x d k hx hd hk => ?_⟩
      · rcases List.mem_append.1 hr with q | q
        · exact f1 r q
        · exact f2 r q
      · cases i with
        | zero => simp at hx; subst hx; exact n1
        | succ i => exact l2 i x (by simpa using hx)
      · cases i with
        | zero =>
          simp at hx; subst hx
          obtain ⟨u, hu, hc⟩ := c1 j d k hd hk
          exact ⟨u, by simpa using hu, hc.mono (immR_mono fun r q => List.mem_append.2 (.inl q)) (fun _ _ _ => rfl)⟩
        | succ i =>
          obtain ⟨u, hu, hc⟩ := c2 i j x d k (by simpa using hx) hd hk
          rw [List.getElem?_drop] at hu
          exact ⟨u, by rw [show (i + 1) * ks.length + j = ks.length + (i * ks.length + j) by rw [Nat.add_mul]; omega]; exact hu, hc.mono (immR_mono fun r q => List.mem_append.2 (.inr q)) (fun _ _ _ => rfl)⟩
    · cases hd

theorem asD_is {B : Nat} {G : Gh} {w : World} {h2 : Hp} (H : HRep G B h2 w) (hc2 : Compat h h2) (hΛ : G.lay = Λ) : ∀ (f : Nat) (k : CK) (a : AV) (d : D) (S : List Nat) (v : Value), asD Λ h f k a = some (d, S) → a.is G w v → CRep G.lay (immR G S) w k d v ∧ ∀ r ∈ S, Frz h r ∧ r < G.n
  | 0, k, a, d, S, v, hd, ha => leafD_is H hc2 (by simpa only [asD] using hd) ha
  | f + 1, k, a, d, S, v, hd, ha => by
    simp only [asD] at hd
    split at hd
    · rename_i t b o n c
      split at hd
      · rename_i e l md hb
        split at hd
        · rename_i hc
          obtain ⟨rfl, hmd, hnc⟩ := hc
          rw [Option.map_eq_some_iff] at hd
          obtain ⟨⟨xs, S1⟩, hx, hd⟩ := hd
          simp only [Prod.mk.injEq] at hd
          obtain ⟨rfl, rfl⟩ := hd
          simp only [AV.is] at ha
          obtain ⟨hbn, rfl⟩ := ha
          obtain ⟨hft, _, ca, hca, hcl⟩ := H.blk b _ (hc2.get hb (by rw [H.len]; exact hbn))
          obtain ⟨n1, f1, l1, c1⟩ := rowsD_is (h := h) (fun k a d S v => asD_is H hc2 hΛ f k a d S v) (Λ e) n (l.drop o) xs S1 (ca.toList.drop o) hx (isL_drop hcl o)
          refine ⟨?_, fun r hr => ?_⟩
          · rw [← hΛ] at l1 c1
            have hcell : ∀ i j u, (ca.toList.drop o)[i * (G.lay e).length + j]? = some u → w.cell? ⟨G.at_ b, o + i * (G.lay e).length + j, none⟩ = some u := fun i j u hu => by
              rw [List.getElem?_drop] at hu
              simp only [World.cell?, hca]
              rw [Nat.add_assoc]; simpa using hu
            have hlen := n1
            rw [← n1]
            refine .seq e xs (G.at_ b) o c (fun i j => (w.cell? ⟨G.at_ b, o + i * (G.lay e).length + j, none⟩).getD undef) (by omega) l1 (fun i j hi hj => ?_) (fun i j x d k hx hd hk => ?_)
            · have hx := List.getElem?_eq_getElem hi
              have hxl := l1 i _ hx
              have hd := List.getElem?_eq_getElem (l := xs[i]) (i := j) (by omega)
              obtain ⟨u, hu, _⟩ := c1 i j _ _ _ hx hd (List.getElem?_eq_getElem hj)
              refine ⟨.inr ⟨b, by simp, by rw [hft]; simp⟩, ?_⟩
              rw [hcell i j u hu]; rfl
            · obtain ⟨u, hu, hc⟩ := c1 i j x d k hx hd hk
              rw [hcell i j u hu, Option.getD_some]
              exact hc.mono (immR_mono fun r q => by simp [q]) (fun _ _ _ => rfl)
          · rcases List.mem_cons.1 hr with q | q
            · subst q; exact ⟨.inr ⟨e, l, md, hb, hmd⟩, hbn⟩
            · exact f1 r q
        · cases hd
      · cases hd
    · exact leafD_is H hc2 hd ha

theorem argA_is {B : Nat} {G : Gh} {w : World} {h2 : Hp} (H : HRep G B h2 w) (hc2 : Compat h h2) (hΛ : G.lay = Λ) {k : AK} {a x : AV} {S : List Nat} (hd : argA Λ h k a = some (x, S)) {v : Value} (ha : a.is G w v) :
    x.is { G with imm := immR G S } w v ∧ ∀ r ∈ S, Frz h r ∧ r < G.n := by
  unfold argA at hd
  split at hd
  · cases hd
    exact ⟨AV.is_mono (gle_imm fun _ _ q => .inl q) _ _ ha, by simp⟩
  · rw [Option.map_eq_some_iff] at hd
    obtain ⟨⟨d, S1⟩, hx, hd⟩ := hd
    simp only [Prod.mk.injEq] at hd
    obtain ⟨rfl, rfl⟩ := hd
    obtain ⟨hc, hf⟩ := asD_is H hc2 hΛ _ _ _ _ _ _ hx ha
    exact ⟨avOf_is (G := { G with imm := immR G S1 }) hc, hf⟩
  · split at hd
    · rename_i ks l hlen
      rw [Option.map_eq_some_iff] at hd
      obtain ⟨⟨ds, S1⟩, hx, hd⟩ := hd
      simp only [Prod.mk.injEq] at hd
      obtain ⟨rfl, rfl⟩ := hd
      simp only [AV.is] at ha ⊢
      obtain ⟨ca, rfl, hl⟩ := ha
      obtain ⟨n1, f1, c1⟩ := cellsD_is (h := h) (fun k a d S v => asD_is H hc2 hΛ 4 k a d S v) ks l ds S1 ca.toList hx hl
      refine ⟨⟨ca, rfl, avsAt_is (G := { G with imm := immR G S1 }) (by rw [isL_len hl, hlen]) fun j k hk => ?_⟩, f1⟩
      have hj : j < ds.length := by rw [n1]; exact (List.getElem?_eq_some_iff.1 hk).1
      obtain ⟨u, hu, hc⟩ := c1 j ds[j] k (List.getElem?_eq_getElem hj) hk
      refine ⟨u, hu, ?_⟩
      rw [Nat.zero_add, D_at (l := [ds]) (i := 0) rfl (List.getElem?_eq_getElem hj)]
      exact hc
    · cases hd
  · cases hd

theorem argsA_is {B : Nat} {G : Gh} {w : World} {h2 : Hp} (H : HRep G B h2 w) (hc2 : Compat h h2) (hΛ : G.lay = Λ) : ∀ (ks : List AK) (l xs : List AV) (S : List Nat) (vs : List Value), argsA Λ h ks l = some (xs, S) → AV.isL G w l vs →
    AV.isL { G with imm := immR G S } w xs vs ∧ ∀ r ∈ S, Frz h r ∧ r < G.n
  | [], [], xs, S, vs, hd, hl => by simp only [argsA] at hd; cases hd; simpa [AV.isL] using hl
  | [], a :: l, xs, S, vs, hd, hl => by simp [argsA] at hd
  | k :: ks, [], xs, S, vs, hd, hl => by simp [argsA] at hd
  | k :: ks, a :: l, xs, S, vs, hd, hl => by
    simp only [argsA] at hd
    split at hd
    · rename_i x S1 ys S2 e1 e2
      cases hd
      simp only [AV.isL] at hl
      obtain ⟨v, r, rfl, ha, hl⟩ := hl
      obtain ⟨c1, f1⟩ := argA_is H hc2 hΛ e1 ha
      obtain ⟨c2, f2⟩ := argsA_is H hc2 hΛ ks l ys S2 r e2 hl
      simp only [AV.isL]
      have up : ∀ (S' : List Nat), (∀ r ∈ S', r ∈ S1 ++ S2) → Gh.le { G with imm := immR G S' } w { G with imm := immR G (S1 ++ S2) } w := fun S' hs =>
        ⟨Nat.le_refl _, fun _ _ => rfl, immR_mono hs, fun _ _ _ => rfl, fun _ _ => Nat.le_refl _, fun _ _ _ => rfl, rfl⟩
      refine ⟨⟨v, r, rfl, AV.is_mono (up S1 fun r q => List.mem_append.2 (.inl q)) _ _ c1, AV.isL_mono (up S2 fun r q => List.mem_append.2 (.inr q)) _ _ c2⟩, fun r hr => ?_⟩
      rcases List.mem_append.1 hr with q | q
      · exact f1 r q
      · exact f2 r q
    · cases hd

end
end Go.Proofs.Qx

/- The machine's quiet operations, and those that act, do what the model's do. -/
namespace Go.Proofs.Qx
open Go Go.RowKit
set_option linter.unusedVariables false
set_option linter.unusedSimpArgs false

section
variable {α : Type} {P : Program} {GW : World → Prop} {Λ : Nat → List CK} {r : α} {h : Hp} {e : Operand → AV}

theorem loadA_compat {G : Gh} {w : World} {h2 : Hp} (hc : Compat h h2) (hlen : h2.length = G.n) {t : TypeId} {p av : AV} (hl : loadA P Λ h t p = some av) {v : Value} (hp : p.is G w v) : loadA P Λ h2 t p = some av := by
  unfold loadA at hl ⊢
  cases p <;> simp only at hl ⊢ <;> try (first | exact hl | cases hl; done)
  case ptr b o =>
    simp only [AV.is] at hp
    cases hk : h[b]? with
    | none => simp [hk] at hl
    | some c => rw [hc.get hk (by rw [hlen]; exact hp.1)]; rw [hk] at hl; exact hl
  case ep rr q m i o =>
    simp only [AV.is] at hp
    cases hk : h[rr]? with
    | none => simp [hk] at hl
    | some c => rw [hc.get hk (by rw [hlen]; exact hp.1)]; rw [hk] at hl; exact hl

theorem flat1_is {G G' : Gh} {w w' : World} {a : AV} (hf : a.flat1 = true) {v : Value} (ha : a.is G w v) : a.is G' w' v := by
  cases a <;> simp only [AV.flat1] at hf <;> first | cases hf; done | simpa [AV.is] using ha
theorem flat1L_is {G G' : Gh} {w w' : World} : ∀ {l : List AV} {vs : List Value}, l.all AV.flat1 = true → AV.isL G w l vs → AV.isL G' w' l vs
  | [], vs, _, h => by simpa [AV.isL] using h
  | a :: l, vs, hf, h => by
    simp only [List.all_cons, Bool.and_eq_true] at hf
    simp only [AV.isL] at h ⊢
    obtain ⟨v, r, rfl, ha, hl⟩ := h
    exact ⟨v, r, rfl, flat1_is hf.1 ha, flat1L_is hf.2 hl⟩
theorem flat2L_is {G G' : Gh} {w w' : World} : ∀ {l : List AV} {vs : List Value}, (l.all fun a => match a with | .agg m => m.all AV.flat1 | a => a.flat1) = true → AV.isL G w l vs → AV.isL G' w' l vs
  | [], vs, _, h => by simpa [AV.isL] using h
  | a :: l, vs, hf, h => by
    simp only [List.all_cons, Bool.and_eq_true] at hf
    simp only [AV.isL] at h ⊢
    obtain ⟨v, r, rfl, ha, hl⟩ := h
    refine ⟨v, r, rfl, ?_, flat2L_is hf.2 hl⟩
    have h1 := hf.1
    cases a <;> simp only at h1
    case agg m => simp only [AV.is] at ha ⊢; obtain ⟨c, e, q⟩ := ha; exact ⟨c, e, flat1L_is h1 q⟩
    all_goals exact flat1_is h1 ha
theorem flat_is {G G' : Gh} {w w' : World} {a : AV} (hf : a.flat = true) {v : Value} (ha : a.is G w v) : a.is G' w' v := by
  cases a
  case agg l => simp only [AV.flat] at hf; simp only [AV.is] at ha ⊢; obtain ⟨c, e, q⟩ := ha; exact ⟨c, e, flat1L_is hf q⟩
  case tup l => simp only [AV.flat] at hf; simp only [AV.is] at ha ⊢; obtain ⟨c, e, q⟩ := ha; exact ⟨c, e, flat2L_is hf q⟩
  all_goals (simp only [AV.flat] at hf; exact flat1_is hf ha)

theorem immR_lt {B : Nat} {G : Gh} {w : World} {h2 : Hp} (H : HRep G B h2 w) (hc : Compat h h2) {S : List Nat} (hS : ∀ r ∈ S, r < G.n) : ∀ b o, immR G S b o → b < w.heap.size := fun b o q => by
  rcases q with q | ⟨r, hr, hb⟩
  · exact H.imm b o q
  · exact H.lt r (hS r hr) b hb

/-- The call as the model does it. -/
theorem run_call {o : Oper} {c : Call} {x : Operand} {f : Nat} (ho : o.op = .call c) (hc : c.callee = .value x) (hcf : ∀ args w, (callFunc f args).run P w = .ok (.enter f args) w) {G : Gh} {w : World} {ρ : Operand → Value} {first cap : List AV}
    (hex : e x = .fn f first cap) (hop : ∀ x ∈ o.op.operands, (e x).is G w (ρ x)) : ∃ vs : Array Value, (execOp ρ o).run P w = .ok (.enter f vs) w ∧ AV.isL G w (first ++ c.args.toList.map e ++ cap) vs.toList := by
  have ops : ∀ q ∈ c.operands, q ∈ o.op.operands := fun q hq => by simpa [ho, Op.operands] using hq
  have hv := hop x (ops x (by simp [Call.operands, hc]))
  rw [hex] at hv; simp only [AV.is] at hv
  obtain ⟨va, vb, hval, hla, hlb⟩ := hv
  have hargs : AV.isL G w (c.args.toList.map e) (c.args.map ρ).toList := by
    rw [Array.toList_map]
    exact evs_isL c.args.toList fun q hq => hop q (ops q (by simp [Call.operands, hc]; right; simpa using hq))
  refine ⟨va ++ c.args.map ρ ++ vb, ?_, ?_⟩
  · simp only [execOp, ho, resolve, hc, hval, Deferred.ofValue, Sem.run_bind, Sem.run_pure, Result.andThen_ok, invoke, hcf]
  · simp only [Array.toList_append]
    exact isL_append (isL_append hla hargs) hlb

theorem callQ_sound {Γ : List (Nat × CE)} (hΓ : AllOk P GW Λ Γ) {c : Call} {x : Operand} {f : Nat} {first cap : List AV} {τ : Type} {y : Option τ} {out : τ → Res} {sel : (β : Type) → τ → (Res → Option β) → Option β} {ok : ∀ β t k, sel β t k = k (out t)} {z : τ} {v : AV}
    (hc : c.callee = .value x) (hex : e x = .fn f first cap) (hcall : callQ Λ Γ h (first ++ c.args.toList.map e ++ cap) f = some (some (.mk τ y out sel ok))) (hz : y = some z) (hv : out z = .ret v) (hok : okRet Γ f v = true) :
    ∀ o : Oper, o.op = .call c → QOk P GW Λ h o e v := by
  intro o ho B G w a next Q h2 hcp H hΛ hgw hop hk
  unfold callQ at hcall
  split at hcall
  · rename_i ce hce
    obtain ⟨hcf, hcalls⟩ := hΓ f ce hce
    obtain ⟨vs, hrun, hall⟩ := run_call ho hc hcf hex hop
    split at hcall
    · rename_i as S has
      have hcp' := hcp (by rw [ho]; rfl)
      obtain ⟨hargs, hfrz⟩ := argsA_is H hcp' hΛ _ _ _ _ _ has hall
      have himm := immR_lt H hcp' (S := S) fun r hr => (hfrz r hr).2
      unfold Oper.wp
      rw [hrun]
      show Calls P f _ w _
      cases S with
      | nil =>
        have htells : ce.tells as = some (.mk τ y out sel ok) := by
          cases hm : ce.mode <;> rw [hm] at hcall <;> simp only at hcall <;> first | exact Option.some.inj hcall | cases hcall
        refine (hcalls as τ y out sel ok z htells hz { G with imm := immR G [] } w vs hΛ hgw himm hargs).mono ?_
        rintro en w' ⟨imm', ha, hE⟩
        rw [hv] at hE
        obtain ⟨u, rfl, hu⟩ := hE
        have ha' : After G.imm w imm' w' := by
          refine ⟨fun b o q => ha.more b o (.inl q), fun b o hb q => ?_, ha.new, ha.below⟩
          rcases ha.old b o hb q with q | ⟨r, hr, _⟩
          · exact q
          · simp at hr
        obtain ⟨H', hle⟩ := H.after ha'.below ha'.more ha'.old ha'.new
        exact hk imm' u w' H' hle ha' hu
      | cons s S =>
        have hm : ce.mode = .flat := by
          cases hm : ce.mode <;> rw [hm] at hcall <;> simp only at hcall <;> first | rfl | cases hcall
        have htells : ce.tells as = some (.mk τ y out sel ok) := by
          rw [hm] at hcall; exact Option.some.inj hcall
        have hflat : v.flat = true := by
          unfold okRet at hok
          rw [hce] at hok
          simpa only [hm] using hok
        refine (hcalls as τ y out sel ok z htells hz { G with imm := immR G (s :: S) } w vs hΛ hgw himm hargs).mono ?_
        rintro en w' ⟨imm', ha, hE⟩
        rw [hv] at hE
        obtain ⟨u, rfl, hu⟩ := hE
        obtain ⟨H', hle⟩ := H.below ha.below
        exact hk G.imm u w' H' hle ⟨fun _ _ q => q, fun _ _ _ q => q, H'.imm, ha.below⟩ (flat_is hflat hu)
    · cases hcall
  · cases hcall

theorem quiet_sound {Γ : List (Nat × CE)} (hΓ : AllOk P GW Λ Γ) {gl : List (Nat × Nat)} {fr : Fr} {op : Op} {k : AV → Option α} (hq : quietA P Λ Γ gl fr h op k = some r) :
    ∃ av, k av = some r ∧ ∀ o : Oper, o.op = op → QOk P GW Λ h o (ev gl fr) av := by
  unfold quietA at hq
  split at hq
  · rename_i x
    exact ⟨_, hq, fun o ho => QOk.of_run fun B G w ρ hp2 hcp H hΛ hop => ⟨ρ x, by simp [execOp, ho], hop x (by simp [ho, Op.operands])⟩⟩
  · rename_i x
    exact ⟨_, hq, fun o ho => QOk.of_run fun B G w ρ hp2 hcp H hΛ hop => ⟨ρ x, by simp [execOp, ho], hop x (by simp [ho, Op.operands])⟩⟩
  · exact pick_sound hq
  · split at hq
    · rename_i v hb; exact ⟨v, hq, build_sound hb⟩
    · cases hq
  · rename_i t p
    split at hq
    · rename_i v hb
      refine ⟨v, hq, fun o ho => QOk.of_run fun B G w ρ hp2 hcp H hΛ hop => ?_⟩
      have hp := hop p (by simp [ho, Op.operands])
      have hb2 := loadA_compat (G := G) (w := w) (hcp (by rw [ho]; rfl)) H.len hb hp
      obtain ⟨u, hu, k⟩ := run_loadA H hΛ hb2 hp
      exact ⟨u, by simp [execOp, ho, hu], k⟩
    · cases hq
  · rename_i x
    split at hq
    · rename_i b off hex
      refine ⟨_, hq, fun o ho => QOk.of_run fun B G w ρ hp2 hcp H hΛ hop => ?_⟩
      have hv := hop x (by simp [ho, Op.operands])
      rw [hex] at hv; simp only [AV.is] at hv
      exact ⟨ρ x, by simp [execOp, ho, hv.2], by simp only [AV.is]; exact hv⟩
    · rename_i el l i off hex
      refine ⟨_, hq, fun o ho => QOk.of_run fun B G w ρ hp2 hcp H hΛ hop => ?_⟩
      have hv := hop x (by simp [ho, Op.operands])
      rw [hex] at hv
      have hv' := hv
      simp only [AV.is] at hv'
      obtain ⟨b, base, hv', _⟩ := hv'
      exact ⟨ρ x, by simp [execOp, ho, hv'], hv⟩
    · rename_i rr vv m i off hex
      refine ⟨_, hq, fun o ho => QOk.of_run fun B G w ρ hp2 hcp H hΛ hop => ?_⟩
      have hv := hop x (by simp [ho, Op.operands])
      rw [hex] at hv
      have hv' := hv
      simp only [AV.is] at hv'
      obtain ⟨_, _, ⟨b, p, hv'⟩, _⟩ := hv'
      exact ⟨ρ x, by simp [execOp, ho, hv'], hv⟩
    · rename_i f l m hex
      refine ⟨_, hq, fun o ho => QOk.of_run fun B G w ρ hp2 hcp H hΛ hop => ?_⟩
      have hv := hop x (by simp [ho, Op.operands])
      rw [hex] at hv
      have hv' := hv
      simp only [AV.is] at hv'
      obtain ⟨b, p, hv', _⟩ := hv'
      exact ⟨ρ x, by simp [execOp, ho, hv'], hv⟩
    · cases hq
  · exact bin_sound hq
  · exact un_sound hq
  · exact conv_sound hq
  · split at hq
    · rename_i v hb; exact ⟨v, hq, fieldAddr_sound hb⟩
    · cases hq
  · exact indexAddr_sound hq
  · split at hq
    · rename_i v hb; exact ⟨v, hq, field_sound hb⟩
    · cases hq
  · exact index_sound hq
  · split at hq
    · rename_i s hu hex
      exact sliceStr_sound hu hex hq
    · rename_i et t' l hu hex
      split at hq
      · rename_i hsz
        exact sliceSeq_sound hu hsz hex hq
      · cases hq
    · cases hq
  · split at hq
    · rename_i l hex
      split at hq
      · rename_i v hl
        exact ⟨v, hq, extract_sound hex hl⟩
      · cases hq
    · cases hq
  · rename_i t x
    split at hq
    · cases hq
    · rename_i d hu hd
      refine ⟨_, hq, fun o ho => QOk.of_run fun B G w ρ hp2 hcp H hΛ hop => ⟨.iface t (ρ x), ?_, by simp only [AV.is]; exact ⟨_, rfl, hop x (by simp [ho, Op.operands])⟩⟩⟩
      have : (Instr.makeInterface t (ρ x)).run P w = .ok (.iface t (ρ x)) w := by
        simp only [Instr.makeInterface, Sem.run_bind, run_underlying hd, Result.andThen_ok]
        cases d <;> first | rfl | exact absurd rfl (hu _)
      simp [execOp, ho, this]
    · cases hq
  · rename_i f first cap
    refine ⟨_, hq, fun o ho => QOk.of_run fun B G w ρ hp2 hcp H hΛ hop => ⟨.func (.func f) (first.map ρ) (cap.map ρ), by simp [execOp, ho, Instr.makeFunc], ?_⟩⟩
    simp only [AV.is]
    refine ⟨_, _, rfl, ?_, ?_⟩
    · rw [Array.toList_map]; exact evs_isL first.toList fun q hq => hop q (by simp [ho, Op.operands]; left; simpa using hq)
    · rw [Array.toList_map]; exact evs_isL cap.toList fun q hq => hop q (by simp [ho, Op.operands]; right; simpa using hq)
  · rename_i c
    split at hq
    · rename_i b hc
      exact builtin_sound hc hq
    · rename_i x hc
      split at hq
      · rename_i f first cap hex
        split at hq
        · rename_i τ y out sel ok hcall
          cases hz : y with
          | none => simp [hz] at hq
          | some z =>
            rw [hz] at hq
            simp only [Option.bind_some, ok] at hq
            split at hq
            · rename_i v hv
              split at hq
              · rename_i hok
                exact ⟨_, hq, callQ_sound hΓ hc hex hcall hz hv hok⟩
              · cases hq
            · cases hq
        · cases hq
      · cases hq
    · cases hq
  · cases hq




/-! ### blocks that are written no more -/
/-- It may be written no more from now on, or is so already. -/
def FrzD (h : Hp) (r : Nat) : Prop := Frz h r ∨ ∃ e v l, h[r]? = some (.froz e v l)

/-- One that is told as before, but for what is written no more. -/
structure Gh.same (G G' : Gh) : Prop where
  at_ : G'.at_ = G.at_
  n : G'.n = G.n
  rv : G'.rv = G.rv
  ver : G'.ver = G.ver
  lay : G'.lay = G.lay

theorem gle_ft (G : Gh) (w : World) {imm' : Nat → Nat → Prop} (f : Nat → List Nat) (hi : ∀ b o, G.imm b o → imm' b o) : G.le w { G with imm := imm', ft := f } w :=
  ⟨Nat.le_refl _, fun _ _ => rfl, hi, fun _ _ _ => rfl, fun _ _ => Nat.le_refl _, fun _ _ _ => rfl, rfl⟩

theorem freeze1 {B : Nat} {G : Gh} {w : World} (H : HRep G B h w) {r : Nat} (hr : FrzD h r) :
    ∃ G', HRep G' B (frzA h [r]) w ∧ G.same G' ∧ (∀ b o, G'.imm b o ↔ immR G [r] b o) ∧ (∀ i, i ≠ r → G'.ft i = G.ft i) ∧ (G'.ft r = G.ft r ∨ G'.ft r = []) := by
  have hrn : r < G.n := by rw [← H.len]; rcases hr with (⟨_, _, _, _, q⟩ | ⟨_, _, _, q, _⟩) | ⟨_, _, _, q⟩ <;> exact (List.getElem?_eq_some_iff.1 q).1
  have hlt : ∀ {i b}, h[i]? = some b → i < G.n := fun hi => by rw [← H.len]; exact (List.getElem?_eq_some_iff.1 hi).1
  have key : ∀ (b : Blk) (f : List Nat) , (f = G.ft r ∨ f = []) → b.own = false → BRep { G with imm := immR G [r], ft := fun i => if i = r then f else G.ft i } B w r b →
      HRep { G with imm := immR G [r], ft := fun i => if i = r then f else G.ft i } B (h.set r b) w := fun b f hf hown hrep => by
    have hsub : ∀ i, ∀ g ∈ (if i = r then f else G.ft i), g ∈ G.ft i := fun i g hg => by
      split at hg
      · rename_i e; subst e
        rcases hf with rfl | rfl
        · exact hg
        · cases hg
      · exact hg
    refine ⟨by simpa using H.len, fun i c hi => ?_, fun i c hi ho g hg => ?_, fun i j hi hj hij g hg hg' => H.inj i j hi hj hij g (hsub i g hg) (hsub j g hg'), fun i hi g hg => H.lt i hi g (hsub i g hg),
      immR_lt H (Compat.refl h) fun r' hr' => by simp at hr'; subst hr'; exact hrn⟩
    · rw [List.getElem?_set] at hi
      by_cases q : r = i
      · subst q
        rw [if_pos rfl] at hi
        split at hi
        · cases hi; exact hrep
        · cases hi
      · rw [if_neg q] at hi
        have q' : i ≠ r := fun e => q e.symm
        refine (H.blk i c hi).mono (G' := { G with imm := immR G [r], ft := fun i => if i = r then f else G.ft i }) (gle_ft G w _ fun _ _ q => Or.inl q) rfl rfl rfl ?_ fun _ _ => rfl
        simp [q']
    · rw [List.getElem?_set] at hi
      by_cases q : r = i
      · subst q
        rw [if_pos rfl] at hi
        split at hi
        · cases hi; rw [hown] at ho; cases ho
        · cases hi
      · rw [if_neg q] at hi
        have q' : i ≠ r := fun e => q e.symm
        have hg' := hsub i g hg
        obtain ⟨h1, h2⟩ := H.own i c hi ho g hg'
        refine ⟨h1, fun o hi' => ?_⟩
        rcases hi' with hi' | ⟨r', hr', hb⟩
        · exact h2 o hi'
        · simp at hr'; subst hr'
          exact H.inj i r' (hlt hi) hrn q' g hg' hb
  rcases hr with (⟨e, v, nb, l, hb⟩ | ⟨e, l, md, hb, hmd⟩) | ⟨e, v, l, hb⟩
  · obtain ⟨h1, h2⟩ := H.blk r _ hb
    have e1 : frzA h [r] = h.set r (.froz e v l) := by simp [frzA, hb]
    rw [e1]
    exact ⟨_, key (.froz e v l) [] (.inr rfl) rfl ⟨h1, by simp, row_crep h2 [r] (by simp)⟩, ⟨rfl, rfl, rfl, rfl, rfl⟩, fun _ _ => Iff.rfl, fun i hi => if_neg hi, .inr (if_pos rfl)⟩
  · obtain ⟨h1, h2, c, h3, h4⟩ := H.blk r _ hb
    cases md with
    | glob => exact absurd rfl hmd
    | own =>
      have e1 : frzA h [r] = h.set r (.cells e l .froz) := by simp [frzA, hb]
      rw [e1]
      refine ⟨_, key (.cells e l .froz) (G.ft r) (.inl rfl) rfl ⟨(if_pos rfl).trans h1, fun _ o => Or.inr ⟨r, by simp, by rw [h1]; simp⟩, c, h3, ?_⟩, ⟨rfl, rfl, rfl, rfl, rfl⟩, fun _ _ => Iff.rfl, fun i hi => if_neg hi, .inl (if_pos rfl)⟩
      exact AV.isL_mono (gle_ft G w _ fun _ _ q => Or.inl q) _ _ h4
    | froz =>
      have e1 : frzA h [r] = h := by simp [frzA, hb]
      rw [e1]
      refine ⟨G, H, ⟨rfl, rfl, rfl, rfl, rfl⟩, fun b o => ⟨.inl, fun q => ?_⟩, fun _ _ => rfl, .inl rfl⟩
      rcases q with q | ⟨r', hr', hb'⟩
      · exact q
      · simp at hr'; subst hr'
        rw [h1] at hb'; simp at hb'; subst hb'
        exact h2 rfl o
  · obtain ⟨_, h2, _⟩ := H.blk r _ hb
    have e1 : frzA h [r] = h := by simp [frzA, hb]
    rw [e1]
    refine ⟨G, H, ⟨rfl, rfl, rfl, rfl, rfl⟩, fun b o => ⟨.inl, fun q => ?_⟩, fun _ _ => rfl, .inl rfl⟩
    rcases q with q | ⟨r', hr', hb'⟩
    · exact q
    · simp at hr'; subst hr'
      rw [h2] at hb'; cases hb'

theorem frzA_one {r : Nat} (h1 : FrzD h r) : (frzA h [r] = h ∨ ∃ b, frzA h [r] = h.set r b ∧ ((∃ e v l, b = .froz e v l) ∨ ∃ e l, b = .cells e l .froz)) := by
  rcases h1 with (⟨e, v, nb, l, hb⟩ | ⟨e, l, md, hb, hmd⟩) | ⟨e, v, l, hb⟩
  · exact .inr ⟨_, by simp [frzA, hb]; rfl, .inl ⟨_, _, _, rfl⟩⟩
  · cases md with
    | glob => exact absurd rfl hmd
    | own => exact .inr ⟨_, by simp [frzA, hb]; rfl, .inr ⟨_, _, rfl⟩⟩
    | froz => exact .inl (by simp [frzA, hb])
  · exact .inl (by simp [frzA, hb])

theorem FrzD.kept {r r' : Nat} (hr : FrzD h r') (h1 : FrzD h r) : FrzD (frzA h [r]) r' := by
  rcases frzA_one h1 with e | ⟨b, e, hb⟩
  · rw [e]; exact hr
  · rw [e]
    by_cases q : r = r'
    · subst q
      have hlt : r < h.length := by rcases hr with (⟨_, _, _, _, q⟩ | ⟨_, _, _, q, _⟩) | ⟨_, _, _, q⟩ <;> exact (List.getElem?_eq_some_iff.1 q).1
      have e2 : (h.set r b)[r]? = some b := by simp [hlt]
      rcases hb with ⟨e, v, l, rfl⟩ | ⟨e, l, rfl⟩
      · exact .inr ⟨_, _, _, e2⟩
      · exact .inl (.inr ⟨_, _, .froz, e2, by simp⟩)
    · have e2 : (h.set r b)[r']? = h[r']? := by rw [List.getElem?_set, if_neg q]
      unfold FrzD Frz; rw [e2]; exact hr

theorem frzA_cons (h : Hp) (r : Nat) (S : List Nat) : frzA h (r :: S) = frzA (frzA h [r]) S := by
  cases hb : h[r]? with
  | none => simp [frzA, hb]
  | some b =>
    cases b
    case cells e l md => cases md <;> simp [frzA, hb]
    all_goals simp [frzA, hb]

theorem freeze {B : Nat} {w : World} : ∀ (S : List Nat) (h : Hp) (G : Gh), HRep G B h w → (∀ r ∈ S, FrzD h r) →
    ∃ G', HRep G' B (frzA h S) w ∧ G.same G' ∧ (∀ b o, G'.imm b o ↔ immR G S b o) ∧ (∀ i, G'.ft i = G.ft i ∨ G'.ft i = []) ∧ (∀ i, i ∉ S → G'.ft i = G.ft i)
  | [], h, G, H, _ => ⟨G, H, ⟨rfl, rfl, rfl, rfl, rfl⟩, fun b o => ⟨.inl, fun q => by
      rcases q with q | ⟨r, hr, _⟩
      · exact q
      · simp at hr⟩, fun _ => .inl rfl, fun _ _ => rfl⟩
  | r :: S, h, G, H, hS => by
    rw [frzA_cons]
    obtain ⟨G1, H1, s1, i1, f1, f1'⟩ := freeze1 H (hS r (by simp))
    obtain ⟨G2, H2, s2, i2, f2, f2'⟩ := freeze S (frzA h [r]) G1 H1 fun r' hr' => (hS r' (by simp [hr'])).kept (hS r (by simp))
    have ft1 : ∀ i, G1.ft i = G.ft i ∨ G1.ft i = [] := fun i => by
      by_cases q : i = r
      · subst q; exact f1'
      · exact .inl (f1 i q)
    refine ⟨G2, H2, ⟨s2.at_.trans s1.at_, s2.n.trans s1.n, s2.rv.trans s1.rv, s2.ver.trans s1.ver, s2.lay.trans s1.lay⟩, fun b o => ?_, fun i => ?_, fun i hi => ?_⟩
    · rw [i2]
      constructor
      · rintro (q | ⟨r', hr', hb⟩)
        · rcases (i1 b o).1 q with q | ⟨r', hr', hb⟩
          · exact .inl q
          · simp at hr'; subst hr'; exact .inr ⟨r', by simp, hb⟩
        · rcases ft1 r' with e | e
          · exact .inr ⟨r', by simp [hr'], by rw [← e]; exact hb⟩
          · rw [e] at hb; cases hb
      · rintro (q | ⟨r', hr', hb⟩)
        · exact .inl ((i1 b o).2 (.inl q))
        · by_cases q : r' = r
          · subst q; exact .inl ((i1 b o).2 (.inr ⟨r', by simp, hb⟩))
          · rcases List.mem_cons.1 hr' with e | e
            · exact absurd e q
            · exact .inr ⟨r', e, by rw [f1 r' q]; exact hb⟩
    · rcases f2 i with e | e
      · rw [e]; exact ft1 i
      · exact .inr e
    · rw [f2' i (fun q => hi (by simp [q])), f1 i (fun q => hi (by simp [q]))]

end
end Go.Proofs.Qx

/- The machine's operations that act do what the model's do. -/
namespace Go.Proofs.Qx
open Go Go.RowKit
set_option linter.unusedVariables false
set_option linter.unusedSimpArgs false

section
variable {α : Type} {P : Program} {GW : World → Prop} {Λ : Nat → List CK} {r : α} {h : Hp} {e : Operand → AV}

/-- Below B the world is as wB was. -/
structure Bel (B : Nat) (wB w : World) : Prop where
  below : Below B wB w
  base : B ≤ wB.heap.size
theorem Bel.size {B : Nat} {wB w : World} (h : Bel B wB w) : B ≤ w.heap.size := Nat.le_trans h.base h.below.size
theorem Bel.trans {B : Nat} {wB w w' : World} (h : Bel B wB w) (k : Below B w w') : Bel B wB w' := ⟨h.below.trans k, h.base⟩
theorem Bel.alloc {B : Nat} {wB w : World} (h : Bel B wB w) (o : Obj) : Bel B wB (w.alloc o) := ⟨h.below.alloc h.size o, h.base⟩

/-- From what was told to what is told now. -/
structure Mv (B : Nat) (wB : World) (G : Gh) (w : World) (G' : Gh) (w' : World) : Prop where
  le : G.le w G' w'
  below : Bel B wB w'
  old : ∀ b x, b < B → G'.imm b x → G.imm b x

theorem Mv.refl {B : Nat} {wB : World} {G : Gh} {w : World} (hb : Bel B wB w) : Mv B wB G w G w := ⟨.refl _ _, hb, fun _ _ _ q => q⟩
theorem Mv.trans {B : Nat} {wB : World} {G G1 G2 : Gh} {w w1 w2 : World} (h : Mv B wB G w G1 w1) (k : Mv B wB G1 w1 G2 w2) : Mv B wB G w G2 w2 :=
  ⟨h.le.trans k.le, k.below, fun b x hb q => h.old b x hb (k.old b x hb q)⟩

/-- It acts: from that memory to the next. -/
def AOk (P : Program) (Λ : Nat → List CK) (B : Nat) (wB : World) (o : Oper) (e : Operand → AV) (h h' : Hp) (av : AV) : Prop :=
  ∀ (G : Gh) (w : World) (a : Act) (next : Act → World → Prop) (Q : Exit → Act → World → Prop), HRep G B h w → G.lay = Λ → Bel B wB w → (∀ x ∈ o.op.operands, (e x).is G w (a.eval x)) →
    (∀ (G' : Gh) (v : Value) (w' : World), HRep G' B h' w' → Mv B wB G w G' w' → av.is G' w' v → next (a.put o.dst v) w') → o.wp P a w next Q
/-- It panics. -/
def POk (P : Program) (Λ : Nat → List CK) (B : Nat) (wB : World) (o : Oper) (e : Operand → AV) (h h' : Hp) (v : Value) : Prop :=
  ∀ (G : Gh) (w : World) (a : Act) (next : Act → World → Prop) (Q : Exit → Act → World → Prop), HRep G B h w → G.lay = Λ → Bel B wB w → (∀ x ∈ o.op.operands, (e x).is G w (a.eval x)) →
    (∀ (G' : Gh) (w' : World), HRep G' B h' w' → Mv B wB G w G' w' → Q (.panic [{ v, recovered := false }]) a w') → o.wp P a w next Q

theorem AOk.of_run {B : Nat} {wB : World} {o : Oper} {h' : Hp} {av : AV}
    (hr : ∀ (G : Gh) (w : World) (ρ : Operand → Value), HRep G B h w → G.lay = Λ → Bel B wB w → (∀ x ∈ o.op.operands, (e x).is G w (ρ x)) →
      ∃ n v w' G', (execOp ρ o).run P w = .ok n w' ∧ (n = .value v ∨ (n = .skip ∧ v = undef)) ∧ HRep G' B h' w' ∧ Mv B wB G w G' w' ∧ av.is G' w' v) : AOk P Λ B wB o e h h' av := by
  intro G w a next Q H hΛ hb hop hk
  obtain ⟨n, v, w', G', hrun, hn, H', hm, hv⟩ := hr G w a.eval H hΛ hb hop
  unfold Oper.wp
  rw [hrun]
  rcases hn with rfl | ⟨rfl, rfl⟩
  · exact hk G' v w' H' hm hv
  · exact hk G' undef w' H' hm hv

theorem AOk.of_quiet {B : Nat} {wB : World} (stab : ∀ w', Bel B wB w' → GW w') {o : Oper} {av : AV} (hq : QOk P GW Λ h o e av) : AOk P Λ B wB o e h h av := by
  intro G w a next Q H hΛ hb hop hk
  exact hq B G w a next Q h (fun _ => Compat.refl h) H hΛ (stab w hb) hop fun imm' v w' H' hle ha hv =>
    hk _ v w' H' ⟨hle, hb.trans (ha.below.mono hb.size), fun b x hbB q => ha.old b x (Nat.lt_of_lt_of_le hbB hb.size) q⟩ hv

theorem zeroA_run {t : TypeId} {z : List AV} (hz : zeroA P t = some z) (G : Gh) (w w' : World) : ∃ v, (zeroValue t).run P w' = .ok v w' ∧ AV.isL G w z v.cells.toList := by
  unfold zeroA at hz
  cases hi : P.info? t with
  | none => simp [hi] at hz
  | some i =>
    cases hq : i.zero with
    | none => simp [hi, hq] at hz
    | some v =>
      simp [hi, hq] at hz
      subst hz
      exact ⟨v, by simp [zeroValue, typeInfo, hi, hq], ofCs_is G w v.cells.toList⟩

theorem below_setRow {B : Nat} {a w : World} (hb : Bel B a w) {g : Nat} (hg : B ≤ g) (c : Array Value) : Bel B a (w.setRow g c) :=
  hb.trans ⟨rfl, rfl, rfl, by simp [World.setRow], fun k hk => by simp only [World.setRow, Array.getElem?_modify]; rw [if_neg (by omega)]⟩

/-- A block of cells is made. -/
theorem alloc_mv {B : Nat} {wB : World} {G : Gh} {w : World} (H : HRep G B h w) (hb : Bel B wB w) {t : TypeId} {l : List AV} {c : Array Value} (hl : AV.isL G w l c.toList) :
    ∃ G', HRep G' B (h ++ [.cells t l .own]) (w.alloc (.cells c t)) ∧ Mv B wB G w G' (w.alloc (.cells c t)) ∧ h.length < G'.n ∧ G'.at_ h.length = w.heap.size := by
  obtain ⟨H', hle⟩ := H.alloc (t := t) hb.size hl
  refine ⟨_, H', ⟨hle, hb.alloc _, fun _ _ _ q => q⟩, by simp [Gh.push, H.len], by simp [Gh.push, H.len]⟩

/-- Blocks are written no more. -/
theorem freeze_mv {B : Nat} {wB : World} {G : Gh} {w : World} (H : HRep G B h w) (hb : Bel B wB w) {S : List Nat} (hS : ∀ r ∈ S, FrzD h r) :
    ∃ G', HRep G' B (frzA h S) w ∧ Mv B wB G w G' w ∧ G.same G' ∧ (∀ b o, G'.imm b o ↔ immR G S b o) ∧ (∀ i, G'.ft i = G.ft i ∨ G'.ft i = []) ∧ (∀ i, i ∉ S → G'.ft i = G.ft i) := by
  obtain ⟨G', H', s, i1, f1, f2⟩ := freeze S h G H hS
  refine ⟨G', H', ⟨⟨by rw [s.n]; exact Nat.le_refl _, fun i _ => by rw [s.at_], fun b o q => (i1 b o).2 (.inl q), fun _ _ _ => rfl, fun i _ => by rw [s.ver]; exact Nat.le_refl _, fun i _ _ => by rw [s.rv], s.lay⟩, hb, fun b x hbB q => ?_⟩, s, i1, f1, f2⟩
  rcases (i1 b x).1 q with q | ⟨r, hr, hbr⟩
  · exact q
  · rcases hS r hr with (⟨e, v, nb, l, hrow⟩ | ⟨e, l, md, hrow, hmd⟩) | ⟨e, v, l, hrow⟩
    · have := (H.own r _ hrow rfl b hbr).1; omega
    · cases md with
      | glob => exact absurd rfl hmd
      | own => have := (H.own r _ hrow rfl b hbr).1; omega
      | froz =>
        obtain ⟨h1, h2, _⟩ := H.blk r _ hrow
        rw [h1] at hbr; simp at hbr; subst hbr
        exact h2 rfl x
    · obtain ⟨_, h2, _⟩ := H.blk r _ hrow
      rw [h2] at hbr; cases hbr

/-- What is told under what is written no more from now on. -/
theorem isL_same {G G' : Gh} {w : World} (s : G.same G') {S : List Nat} (hi : ∀ b o, immR G S b o → G'.imm b o) {l : List AV} {vs : List Value} (hl : AV.isL { G with imm := immR G S } w l vs) : AV.isL G' w l vs := by
  refine AV.isL_mono (G := { G with imm := immR G S }) ⟨by rw [s.n]; exact Nat.le_refl _, fun i _ => by rw [s.at_], hi, fun _ _ _ => rfl, fun i _ => by rw [s.ver]; exact Nat.le_refl _, fun i _ _ => by rw [s.rv], s.lay⟩ _ _ hl

theorem frzA_get : ∀ (S : List Nat) (h : Hp) (i : Nat), i ∉ S → (frzA h S)[i]? = h[i]?
  | [], h, i, _ => rfl
  | r :: S, h, i, hi => by
    have h1 : i ≠ r := fun e => hi (by simp [e])
    have h2 : i ∉ S := fun e => hi (by simp [e])
    rw [frzA_cons, frzA_get S _ i h2]
    simp only [frzA]
    split
    · rw [List.getElem?_set, if_neg (fun e => h1 e.symm)]
    · rw [List.getElem?_set, if_neg (fun e => h1 e.symm)]
    · rfl
theorem frzA_len : ∀ (S : List Nat) (h : Hp), (frzA h S).length = h.length
  | [], h => rfl
  | r :: S, h => by
    rw [frzA_cons, frzA_len S]
    simp only [frzA]
    split <;> simp

/-! ### stores -/
theorem store_cells {B : Nat} {wB : World} {G : Gh} {w : World} (H : HRep G B h w) (hb : Bel B wB w) {t : TypeId} {b o n : Nat} {el : TypeId} {cs : List AV} (hk : h[b]? = some (.cells el cs .own)) (hn : szT P t = some n) {v : AV}
    (hkn : v.known = true) (hlen : v.cells.length = n) (hfit : o + n ≤ cs.length) {vv : Value} (hv : v.is G w vv) :
    ∃ w', (Instr.storeAt t (.pointer (some ⟨G.at_ b, o, none⟩)) vv).run P w = .ok () w' ∧ HRep G B (h.set b (.cells el (cs.take o ++ v.cells ++ cs.drop (o + n)) .own)) w' ∧ Mv B wB G w G w' := by
  obtain ⟨hft, _, c, hc, hcl⟩ := H.blk b _ hk
  have hB := H.own b _ hk rfl (G.at_ b) (by rw [hft]; simp)
  obtain ⟨hvl, hv1⟩ := cells_is hkn hv
  have l1 := isL_len hcl
  have l2 := isL_len hvl
  have hrun := run_storeCells_at P (G.at_ b) o el vv.cells.toList 0 c w hc (by simp at l1 l2 ⊢; omega) hv1
  simp only [Nat.add_zero] at hrun
  have hl2 : vv.cells.toList.length = n := by omega
  rw [hl2] at hrun
  have hsz : vv.cells.size = n := by simpa using hl2
  obtain ⟨H', hle⟩ := H.store hk (l := cs.take o ++ v.cells ++ cs.drop (o + n)) (c := (c.toList.take o ++ vv.cells.toList ++ c.toList.drop (o + n)).toArray)
    (by simpa using isL_append (isL_append (isL_take hcl o) hvl) (isL_drop hcl (o + n)))
  refine ⟨w.setRow (G.at_ b) (c.toList.take o ++ vv.cells.toList ++ c.toList.drop (o + n)).toArray, ?_, H', ⟨hle, below_setRow hb hB.1 _, fun _ _ _ q => q⟩⟩
  simp only [Instr.storeAt, Instr.sureAddr, storeVar, Sem.run_bind, Sem.run_pure, Result.andThen_ok, run_szT hn w, hsz, ne_eq, not_true_eq_false, if_false]
  exact hrun

theorem crep_one {lay : Nat → List CK} {imm : Nat → Nat → Prop} {w : World} {k : CK} {d : D} {v : Value} (h : CRep lay imm w k d v) : v.oneCell' = true := by cases h <;> rfl

theorem getElem?_lay {xs vs : List Value} {off j : Nat} (h : off + vs.length ≤ xs.length) : (xs.take off ++ vs ++ xs.drop (off + vs.length))[j]? = if off ≤ j ∧ j < off + vs.length then vs[j - off]? else xs[j]? := by
  by_cases h1 : j < off
  · rw [if_neg (by omega), List.append_assoc, List.getElem?_append_left (by simp; omega), List.getElem?_take, if_pos h1]
  · by_cases h2 : j < off + vs.length
    · rw [if_pos ⟨by omega, h2⟩, List.append_assoc, List.getElem?_append_right (by simp; omega), List.getElem?_append_left (by simp; omega)]
      congr 1; simp; omega
    · rw [if_neg (by omega), List.getElem?_append_right (by simp; omega), List.getElem?_drop]
      congr 1; simp; omega

/-- A store into an element of a row. -/
theorem store_row {B : Nat} {wB : World} {G : Gh} {w : World} (H : HRep G B h w) (hb : Bel B wB w) {t : TypeId} {rr q n i o : Nat} {el : TypeId} {nb : Bool} {l : List (List D)} (hk : h[rr]? = some (.row el q nb l)) (hn : szT P t = some n)
    {g nn c : Nat} (hrv : G.rv rr = .slice (some ⟨g, 0, none⟩) nn c) (hi : i < nn) {ds : List D} {vv : Value} (hvl : vv.cells.size = n) (hfit : o + n ≤ (G.lay el).length) (hds : ds.length = n)
    (hrep : ∀ (j : Nat) (d : D) (k : CK), ds[j]? = some d → (G.lay el)[o + j]? = some k → ∃ u, vv.cells.toList[j]? = some u ∧ CRep G.lay G.imm w k d u) :
    ∃ w', (Instr.storeAt t (.pointer (some ⟨g, i * (G.lay el).length + o, none⟩)) vv).run P w = .ok () w' ∧ HRep G B (h.set rr (.row el q nb (l.set i ((l.getD i []).take o ++ ds ++ (l.getD i []).drop (o + n))))) w' ∧ Mv B wB G w G w' := by
  obtain ⟨hver, hrow⟩ := H.blk rr _ hk
  have hrl : rr < G.n := by rw [← H.len]; exact (List.getElem?_eq_some_iff.1 hk).1
  obtain ⟨hnl, _, hft, _⟩ := hrow.cells hrv
  obtain ⟨h1, h2, h3, xs, h4, h5⟩ := hrow
  have hil : i < l.length := by omega
  have hx : l[i]? = some l[i] := List.getElem?_eq_getElem hil
  have hxl := h3 i _ hx
  have hgd : l.getD i [] = l[i] := by simp [List.getD_eq_getElem?_getD, hx]
  rw [hgd]
  rcases h4.2 with ⟨hv, _⟩ | ⟨g', cap, cur, hv, hBg, hcur, hle, hmax, hsz, htake⟩
  · rw [hrv] at hv; cases hv
  · rw [hrv] at hv
    cases hv
    have hown := H.own rr _ hk rfl g (by rw [hft]; simp)
    generalize hm : (G.lay el).length = m at *
    have hoff : i * m + o + n ≤ l.length * m := by
      have : (i + 1) * m ≤ l.length * m := Nat.mul_le_mul_right _ (by omega)
      rw [Nat.add_mul] at this; omega
    have hcapm : l.length * m ≤ c * m := Nat.mul_le_mul_right _ hle
    have hv1 : ∀ u ∈ vv.cells.toList, u.oneCell' = true := fun u hu => by
      obtain ⟨j, hj⟩ := List.mem_iff_getElem?.1 hu
      have hjn : j < n := by have := (List.getElem?_eq_some_iff.1 hj).1; simpa [hvl] using this
      obtain ⟨u', e, hc⟩ := hrep j ds[j] (G.lay el)[o + j] (List.getElem?_eq_getElem (by omega)) (List.getElem?_eq_getElem (by omega))
      rw [hj] at e; cases e; exact crep_one hc
    have hrun := run_storeCells_at P g (i * m + o) el vv.cells.toList 0 cur w hcur (by simp [hvl]; omega) hv1
    simp only [Nat.add_zero] at hrun
    have hl2 : vv.cells.toList.length = n := by simpa using hvl
    rw [hl2] at hrun
    have hother : ∀ k c', k ≠ g → (w.setRow g c').heap[k]? = w.heap[k]? := fun k c' hk => by
      simp only [World.setRow, Array.getElem?_modify]
      rw [if_neg (by omega)]
    have hgle : G.le w G (w.setRow g (cur.toList.take (i * m + o) ++ vv.cells.toList ++ cur.toList.drop (i * m + o + n)).toArray) := ⟨Nat.le_refl _, fun _ _ => rfl, fun _ _ q => q, fun b' o' q => by
      have hne : b' ≠ g := fun e => hown.2 o' (e ▸ q)
      exact World.cell?_of_block (hother b' _ hne), fun _ _ => Nat.le_refl _, fun _ _ _ => rfl, rfl⟩
    refine ⟨w.setRow g (cur.toList.take (i * m + o) ++ vv.cells.toList ++ cur.toList.drop (i * m + o + n)).toArray, ?_, ?_, ⟨hgle, below_setRow hb hown.1 _, fun _ _ _ q => q⟩⟩
    · simp only [Instr.storeAt, Instr.sureAddr, storeVar, Sem.run_bind, Sem.run_pure, Result.andThen_ok, run_szT hn w, hvl, ne_eq, not_true_eq_false, if_false]
      exact hrun
    · refine H.turn hrl _ hgle rfl rfl (fun _ _ => ⟨rfl, rfl, rfl, rfl⟩) (by simp [World.setRow]) (fun j hj q g' hg' => hother g' _ fun e => ?_) (fun g' hg' => ⟨.inl hg', by simp only [World.setRow, Array.size_modify]; exact H.lt rr hrl g' hg'⟩) (fun _ g' hg' => H.own rr _ hk rfl g' hg') ⟨hver, h1, fun e => ?_, fun i' d hd => ?_, ?_⟩
      · subst e
        exact H.inj j rr hj hrl q _ hg' (by rw [hft]; simp)
      · rw [h2 e]
        constructor
        · intro e'; subst e'; simp at hil
        · intro e'
          have := congrArg List.length e'
          simp at this
          exact this
      · rw [List.getElem?_set] at hd
        by_cases q : i = i'
        · subst q
          rw [if_pos rfl, if_pos hil] at hd
          cases hd
          simp [hxl, hds]; omega
        · rw [if_neg q] at hd
          rw [hm]; exact h3 i' d hd
      · have hxsl : xs.length = l.length * m := h4.1
        have hcurl : cur.toList.length = c * m := by simpa using hsz
        refine ⟨xs.take (i * m + o) ++ vv.cells.toList ++ xs.drop (i * m + o + n), ⟨?_, .inr ⟨g, c, _, by rw [List.length_set]; exact hrv, hBg, setRow_heap w g cur _ el _ hcur, ?_, hmax, ?_, ?_⟩⟩, fun i' j x d k hxx hd hkk => ?_⟩
        · rw [hm]; simp [hxsl, hl2]; omega
        · simpa using hle
        · rw [hm]; simp [hcurl, hvl]; omega
        · rw [hm, ← htake]
          simp only [List.length_set]
          apply List.ext_getElem?
          intro p
          rw [List.getElem?_take]
          have e1 := getElem?_lay (xs := cur.toList) (vs := vv.cells.toList) (off := i * m + o) (j := p) (by rw [hl2, hcurl]; omega)
          have e2 := getElem?_lay (xs := cur.toList.take (l.length * m)) (vs := vv.cells.toList) (off := i * m + o) (j := p) (by rw [hl2, List.length_take, hcurl, Nat.min_eq_left hcapm]; exact hoff)
          rw [hl2] at e1 e2
          rw [e2]
          rw [e1]
          by_cases hp : p < l.length * m
          · rw [if_pos hp, List.getElem?_take, if_pos hp]
          · rw [if_neg hp, if_neg (by omega), List.getElem?_take, if_neg hp]
        · rw [hm]
          have hjm : j < m := by rw [← hm]; exact (List.getElem?_eq_some_iff.1 hkk).1
          have hxsl' : xs.length = l.length * m := by rw [hxsl]
          have e2 := getElem?_lay (xs := xs) (vs := vv.cells.toList) (off := i * m + o) (j := i' * m + j) (by rw [hl2, hxsl']; omega)
          rw [hl2] at e2
          rw [e2]
          rw [List.getElem?_set] at hxx
          by_cases hii : i = i'
          · subst hii
            rw [if_pos rfl, if_pos hil] at hxx
            cases hxx
            have e3 : (l[i].take o ++ ds ++ l[i].drop (o + n))[j]? = if o ≤ j ∧ j < o + n then ds[j - o]? else l[i][j]? := by
              by_cases q1 : j < o
              · rw [if_neg (by omega), List.append_assoc, List.getElem?_append_left (by simp; omega), List.getElem?_take, if_pos q1]
              · by_cases q2 : j < o + n
                · rw [if_pos ⟨by omega, q2⟩, List.append_assoc, List.getElem?_append_right (by simp; omega), List.getElem?_append_left (by simp; omega)]
                  congr 1; simp; omega
                · rw [if_neg (by omega), List.getElem?_append_right (by simp; omega), List.getElem?_drop]
                  congr 1; simp; omega
            rw [e3] at hd
            by_cases q : o ≤ j ∧ j < o + n
            · rw [if_pos q] at hd
              rw [if_pos (by omega)]
              obtain ⟨u, hu, hc⟩ := hrep (j - o) d k hd (by rw [show o + (j - o) = j by omega]; exact hkk)
              exact ⟨u, by rw [show i * m + j - (i * m + o) = j - o by omega]; exact hu, hc.mono hgle.imm hgle.cell⟩
            · rw [if_neg q] at hd
              rw [if_neg (by omega)]
              obtain ⟨u, hu, hc⟩ := h5 i j _ d k hx hd hkk
              exact ⟨u, hu, hc.mono hgle.imm hgle.cell⟩
          · rw [if_neg hii] at hxx
            have hout : ¬ (i * m + o ≤ i' * m + j ∧ i' * m + j < i * m + o + n) := by
              rcases Nat.lt_or_ge i' i with q | q
              · have : (i' + 1) * m ≤ i * m := Nat.mul_le_mul_right _ q
                rw [Nat.add_mul] at this; omega
              · have : (i + 1) * m ≤ i' * m := Nat.mul_le_mul_right _ (by omega)
                rw [Nat.add_mul] at this; omega
            rw [if_neg hout]
            obtain ⟨u, hu, hc⟩ := h5 i' j x d k hxx hd hkk
            exact ⟨u, hu, hc.mono hgle.imm hgle.cell⟩


theorem atsRow_eq {l : List (List D)} {i : Nat} {x : List D} (hx : l[i]? = some x) : ∀ (k j : Nat), j + k = x.length → atsRow l i j k = x.drop j
  | 0, j, h => by rw [List.drop_eq_nil_of_le (by omega)]; rfl
  | k + 1, j, h => by
    rw [atsRow, atsRow_eq hx k (j + 1) (by omega), List.drop_eq_getElem_cons (by omega : j < x.length)]
    rw [D_at hx (List.getElem?_eq_getElem (by omega))]

theorem frzD_of {S : List Nat} {G : Gh} (hS : ∀ r ∈ S, Frz h r ∧ r < G.n) : ∀ r ∈ S, FrzD h r := fun r hr => .inl (hS r hr).1

theorem storeA_ok {B : Nat} {wB : World} {G : Gh} {w : World} (H : HRep G B h w) (hΛ : G.lay = Λ) (hb : Bel B wB w) {t : TypeId} {p v : AV} {b : Nat} {c : Blk} {S : List Nat} (hs : storeA P Λ h t p v = some (b, c, S)) {pv vv : Value} (hp : p.is G w pv) (hv : v.is G w vv) :
    ∃ G' w', (Instr.storeAt t pv vv).run P w = .ok () w' ∧ HRep G' B ((frzA h S).set b c) w' ∧ Mv B wB G w G' w' := by
  unfold storeA at hs
  split at hs
  · rename_i b' o
    simp only [AV.is] at hp
    obtain ⟨hbn, rfl⟩ := hp
    split at hs
    · rename_i el cs n hk hn
      split at hs
      · rename_i hc
        simp only [Bool.and_eq_true, beq_iff_eq, decide_eq_true_eq] at hc
        cases hs
        obtain ⟨w', h1, h2, h3⟩ := store_cells H hb hk hn hc.1.1 hc.1.2 hc.2 hv
        exact ⟨G, w', h1, h2, h3⟩
      · cases hs
    · cases hs
  · rename_i rr q m i o
    simp only [AV.is] at hp
    obtain ⟨hrn, _, _, hp⟩ := hp
    split at hs
    · rename_i el ver nb l n hk hn
      split at hs
      · rename_i hc
        obtain ⟨rfl, hm, hkn, hlen, hfit⟩ := hc
        split at hs
        · rename_i ds S' hds
          split at hs
          · cases hs
          · rename_i hns
            cases hs
            have hns' : b ∉ S := by simpa using hns
            obtain ⟨hver, hrow⟩ := H.blk b _ hk
            obtain ⟨g, nn, c, hrv, hin, rfl⟩ := hp hver
            subst hΛ
            obtain ⟨hvl, hv1⟩ := cells_is hkn hv
            obtain ⟨n1, f1, c1⟩ := cellsD_is (h := h) (fun k a d S v => asD_is H (Compat.refl h) rfl 4 k a d S v) _ _ ds S _ hds hvl
            obtain ⟨G1, H1, m1, s1, i1, f2, f3⟩ := freeze_mv H hb (frzD_of f1)
            have hk1 : (frzA h S)[b]? = some (.row el q nb l) := by rw [frzA_get S h b hns']; exact hk
            have e1 : G1.lay = G.lay := s1.lay
            have l2 := isL_len hvl
            have hfit' : o + n ≤ (G.lay el).length := by rw [← hm]; exact hfit
            have hvs : vv.cells.size = n := by rw [← hlen]; simpa using l2
            obtain ⟨w', h1, h2, h3⟩ := store_row H1 m1.below hk1 hn (by rw [s1.rv]; exact hrv) hin (ds := ds) (vv := vv) hvs (by rw [e1]; exact hfit') (by rw [n1]; simp; omega) (fun j d k hj hkk => by
              rw [e1] at hkk ⊢
              have hjn : j < n := by have := (List.getElem?_eq_some_iff.1 hj).1; rw [n1] at this; simp at this; omega
              obtain ⟨u, hu, hcr⟩ := c1 j d k hj (by rw [List.getElem?_take, if_pos hjn, List.getElem?_drop]; exact hkk)
              exact ⟨u, hu, hcr.mono (fun b o q => (i1 b o).2 q) (fun _ _ _ => rfl)⟩)
            rw [e1, ← hm] at h1
            have hil : i < l.length := by
              obtain ⟨hn, _⟩ := hrow.cells hrv
              omega
            have hgd : l.getD i [] = l[i] := by simp [List.getD_eq_getElem?_getD, hil]
            rw [atsRow_eq (List.getElem?_eq_getElem hil) m 0 (by rw [Nat.zero_add, hm]; exact (hrow.2.2.1 i _ (List.getElem?_eq_getElem hil)).symm), List.drop_zero, ← hgd]
            exact ⟨G1, w', h1, h2, m1.trans h3⟩
        · cases hs
      · cases hs
    · cases hs
  · cases hs

/-! ### append -/
theorem append_run (w : World) (base : Nat) (t ty e : TypeId) (i : TypeInfo) (z : Value) (size : Nat) (ht : P.underlying t = some (.slice e)) (hi : P.info? e = some i) (hz : i.zero = some z)
    (hsize : i.size = size) (hzs : z.cells.size = size) (hsz : 0 < size)
    (v : Value) (n : Nat) (xs : List Value) (hown : w.ownsRow base e size v n xs)
    (xv : Value) (m : Nat) (news : List Value) (hl : news.length = m * size) (hx : (m = 0 ∧ ∃ c, xv = .slice none 0 c) ∨ ∃ a c, xv = .slice (some a) m c ∧ ∀ j u, news[j]? = some u → w.cell? (a.add j) = some u) (h1 : ∀ u ∈ news, u.oneCell' = true)
    (h63 : n + m ≤ maxLen) (hbytes : (n + m) * i.bytes ≤ 140737488355328) (hbase : base ≤ w.heap.size) :
    ∃ v' w', (Builtin.append_ #[t, t] ty #[v, xv]).run P w = .ok v' w' ∧ w'.ownsRow base e size v' (n + m) (xs ++ news) ∧ w.grownBy w' v.ownBlock ∧
      (v' = .slice none 0 0 ↔ v = .slice none 0 0 ∧ m = 0) ∧ (v'.ownBlock = v.ownBlock ∨ v'.ownBlock = some w.heap.size) := by
  subst hsize
  have hnil : m = 0 → xv = .slice none 0 0 ∨ (∃ c, xv = .slice none 0 c) ∨ True := fun _ => .inr (.inr trivial)
  rcases hx with ⟨rfl, c, rfl⟩ | ⟨a, c, rfl, hnews⟩
  · have hn : news = [] := List.eq_nil_of_length_eq_zero (by simpa using hl)
    subst hn
    have hle : ∃ ao cap, v = .slice ao n cap ∧ n ≤ cap := by
      rcases hown.2 with ⟨e1, e2⟩ | ⟨g, cap, cur, e1, _, _, e2, _⟩
      · exact ⟨none, 0, by rw [e1, e2], by omega⟩
      · exact ⟨_, cap, e1, e2⟩
    obtain ⟨ao, cap, rfl, hnc⟩ := hle
    refine ⟨.slice ao n cap, w, ?_, by simpa using hown, ⟨rfl, rfl, rfl, Nat.le_refl _, fun _ _ _ => rfl⟩, by simp, .inl rfl⟩
    cases ao <;> simp [Builtin.append_, run_underlying ht, sizeOf, typeInfo, hi, Builtin.lenOf, Builtin.firstCells, hnc, storeCells]
  · have hsmall : n + m ≤ 9223372036854775807 := by simp only [maxLen] at h63; omega
    have hlen : (xs ++ news).length = (n + m) * i.size := by rw [List.length_append, hown.1, hl, Nat.add_mul]
    have grown : ∀ (old : Nat), old < n + m → ∀ (row : Option Nat),
        (w.drew.alloc (.cells (xs.toArray ++ news.toArray ++ Builtin.zeroCells z.cells (grownCap w (n + m) old e - (n + m))) e)).ownsRow base e i.size
          (.slice (some ⟨w.heap.size, 0, none⟩) (n + m) (grownCap w (n + m) old e)) (n + m) (xs ++ news) ∧
        w.grownBy (w.drew.alloc (.cells (xs.toArray ++ news.toArray ++ Builtin.zeroCells z.cells (grownCap w (n + m) old e - (n + m))) e)) row := by
      intro old ho row
      have hge := grownCap_ge w (n + m) old e
      have hcm : grownCap w (n + m) old e ≤ maxLen := grownCap_le_maxLen w (n + m) old e h63
      refine ⟨⟨hlen, .inr ⟨w.heap.size, _, _, rfl, hbase, heap_alloc_new w.drew _, hge, hcm, ?_, ?_⟩⟩, ⟨rfl, rfl, rfl, by simp, fun k hk _ => Below.heap_alloc w.drew _ k hk⟩⟩
      · simp only [Array.size_append, List.size_toArray, size_zeroCells, hzs, hown.1, hl, ← Nat.add_mul]
        congr 1
        omega
      · simp only [Array.toList_append, List.append_assoc]
        rw [← List.append_assoc, ← hlen]
        exact List.take_left
    rcases hown.2 with ⟨rfl, rfl⟩ | ⟨g, cap, cur, rfl, hbg, hg, hnc, hcm, hcs, htake⟩
    · have hx : xs = [] := List.eq_nil_of_length_eq_zero (by simpa using hown.1)
      subst hx
      by_cases hm : m = 0
      · subst hm
        have hn : news = [] := List.eq_nil_of_length_eq_zero (by simpa using hl)
        subst hn
        refine ⟨.slice none 0 0, w, ?_, World.ownsRow_nil w base e i.size, ⟨rfl, rfl, rfl, Nat.le_refl _, fun _ _ _ => rfl⟩, by simp, .inl rfl⟩
        simp [Builtin.append_, run_underlying ht, sizeOf, typeInfo, hi, Builtin.lenOf, Builtin.firstCells, loadCells, loadCellsFrom]
      · have hr := run_append_nil (P := P) w t ty e i z ht hi hz a m c news hl hnews (by omega) (by omega) (by have hb := hbytes; simp only [Nat.zero_add] at hb; omega)
        have hgr := grown 0 (by omega) (Value.ownBlock (.slice none 0 0))
        simp only [Nat.zero_add, List.nil_append, Array.empty_append] at hgr ⊢
        exact ⟨_, _, hr, hgr.1, hgr.2, by simp [hm], .inr rfl⟩
    · by_cases hroom : n + m ≤ cap
      · have hfit : n * i.size + news.length ≤ cur.size := by rw [hl, hcs, ← Nat.add_mul]; exact Nat.mul_le_mul_right _ hroom
        have hr := run_append_room (P := P) w t ty e i ht hi g n cap cur hg a m c news hl hnews h1 hroom hfit
        refine ⟨_, _, hr, ⟨hlen, .inr ⟨g, cap, _, rfl, hbg, setRow_heap w g cur _ e _ hg, hroom, hcm, ?_, ?_⟩⟩, ⟨rfl, rfl, rfl, by simp, fun k _ hk => setRow_other w g k _ (fun e => hk (by simp [Value.ownBlock, e]))⟩, by simp, .inl rfl⟩
        · simp only [List.size_toArray, List.length_append, List.length_take, List.length_drop, Array.length_toList]
          omega
        · rw [htake, ← hlen]
          exact List.take_left
      · have holds : ∀ j u, xs[j]? = some u → w.cell? ((⟨g, 0, none⟩ : Addr).add j) = some u := hown.cells (g := g) rfl
        have hr := run_append_grow (P := P) w t ty e i z ht hi hz ⟨g, 0, none⟩ n cap xs hown.1 holds a m c news hl hnews (by omega) (by omega) (growslice_fits (by omega) hbytes)
        have hgr := grown cap (by omega) (Value.ownBlock (.slice (some ⟨g, 0, none⟩) n cap))
        exact ⟨_, _, hr, hgr.1, hgr.2, by simp, .inr rfl⟩

/-- The cells of a slice's elements, one behind the other. -/
theorem crep_flat {lay : Nat → List CK} {imm : Nat → Nat → Prop} {w : World} {t : Nat} {m : List (List D)} {v : Value} (h : CRep lay imm w (.seq t) (.seq m) v) :
    ∃ news : List Value, news.length = m.length * (lay t).length ∧ ((m.length = 0 ∧ ∃ c, v = .slice none 0 c) ∨ ∃ a c, v = .slice (some a) m.length c ∧ ∀ j u, news[j]? = some u → w.cell? (a.add j) = some u) ∧ (∀ u ∈ news, u.oneCell' = true) ∧
      (∀ (i : Nat) (d : List D), m[i]? = some d → d.length = (lay t).length) ∧
      ∀ (i j : Nat) (x : List D) (d : D) (k : CK), m[i]? = some x → x[j]? = some d → (lay t)[j]? = some k → ∃ u, news[i * (lay t).length + j]? = some u ∧ CRep lay imm w k d u := by
  cases h
  case nil => exact ⟨[], by simp, .inl ⟨rfl, 0, rfl⟩, by simp, by simp, by simp⟩
  case seq b o cap u h1 h2 h3 h4 =>
    generalize hsz : (lay t).length = sz at *
    have hidx : ∀ p, p < m.length * sz → p / sz < m.length ∧ p % sz < sz ∧ (p / sz) * sz + p % sz = p := fun p hp => by
      have hpos : 0 < sz := Nat.pos_of_ne_zero fun q => by rw [q] at hp; simp at hp
      exact ⟨(Nat.div_lt_iff_lt_mul hpos).2 hp, Nat.mod_lt _ hpos, by rw [Nat.mul_comm]; exact Nat.div_add_mod p sz⟩
    have hij : ∀ i j, i < m.length → j < sz → i * sz + j < m.length * sz ∧ (i * sz + j) / sz = i ∧ (i * sz + j) % sz = j := fun i j hi hj => by
      refine ⟨?_, ?_, ?_⟩
      · have : (i + 1) * sz ≤ m.length * sz := Nat.mul_le_mul_right _ hi
        rw [Nat.add_mul] at this; omega
      · rw [Nat.mul_comm, Nat.mul_add_div (by omega), Nat.div_eq_of_lt hj]; rfl
      · rw [Nat.mul_comm, Nat.mul_add_mod, Nat.mod_eq_of_lt hj]
    refine ⟨(List.range (m.length * sz)).map fun p => u (p / sz) (p % sz), by simp, .inr ⟨⟨b, o, none⟩, cap, rfl, fun j v hj => ?_⟩, fun v hv => ?_, h2, fun i j x d k hx hd hk => ?_⟩
    · have hjl : j < m.length * sz := by have := (List.getElem?_eq_some_iff.1 hj).1; simpa using this
      rw [List.getElem?_map, List.getElem?_range hjl] at hj
      simp only [Option.map_some, Option.some.injEq] at hj
      subst hj
      obtain ⟨q1, q2, q3⟩ := hidx j hjl
      have := (h3 (j / sz) (j % sz) q1 q2).2
      rw [add_addr]
      rwa [Nat.add_assoc, q3] at this
    · obtain ⟨p, hp, rfl⟩ := List.mem_map.1 hv
      have hp := List.mem_range.1 hp
      obtain ⟨q1, q2, q3⟩ := hidx p hp
      have hx : m[p / sz]? = some m[p / sz] := List.getElem?_eq_getElem q1
      have hxl := h2 _ _ hx
      exact crep_one (h4 _ _ _ (m[p / sz]'q1)[p % sz] ((lay t)[p % sz]'(by omega)) hx (List.getElem?_eq_getElem (by omega)) (List.getElem?_eq_getElem (by omega)))
    · have hi : i < m.length := (List.getElem?_eq_some_iff.1 hx).1
      have hj : j < sz := by rw [← hsz]; exact (List.getElem?_eq_some_iff.1 hk).1
      obtain ⟨q1, q2, q3⟩ := hij i j hi hj
      exact ⟨u i j, by rw [List.getElem?_map, List.getElem?_range q1]; simp [q2, q3], h4 i j x d k hx hd hk⟩

/-- Something is appended to a row of the call's own. -/
theorem append_row {B : Nat} {wB : World} {G : Gh} {w : World} (H : HRep G B h w) (hb : Bel B wB w) {t ty e : TypeId} {ie : TypeInfo} {z : Value} (ht : P.underlying t = some (.slice e)) (hi : P.info? e = some ie) (hz : ie.zero = some z)
    (hsize : ie.size = (G.lay e).length) (hzs : z.cells.size = ie.size) (hpos : 0 < ie.size) (hby : ie.bytes ≤ 4096) {rr q : Nat} {nb : Bool} {l m : List (List D)} (hk : h[rr]? = some (.row e q nb l)) {xv : Value}
    (hx : CRep G.lay G.imm w (.seq e) (.seq m) xv) (hlen : l.length + m.length ≤ 1073741824) :
    ∃ v' w' G', (Builtin.append_ #[t, t] ty #[G.rv rr, xv]).run P w = .ok v' w' ∧ HRep G' B (h.set rr (.row e (q + 1) nb (l ++ m))) w' ∧ Mv B wB G w G' w' ∧ (AV.rs rr (q + 1)).is G' w' v' := by
  obtain ⟨hver, hrow⟩ := H.blk rr _ hk
  have hrl : rr < G.n := by rw [← H.len]; exact (List.getElem?_eq_some_iff.1 hk).1
  obtain ⟨h1, h2, h3, xs, h4, h5⟩ := hrow
  obtain ⟨news, n1, n2, n3, n4, n5⟩ := crep_flat hx
  obtain ⟨v', w', hrun, hown, hgr, hnil, hblk⟩ := append_run (P := P) w B t ty e ie z (G.lay e).length ht hi hz hsize (by rw [hzs, hsize]) (by omega) (G.rv rr) l.length xs h4 xv m.length news n1 n2 n3
    (by simp only [maxLen]; omega) (by have : (l.length + m.length) * ie.bytes ≤ 1073741824 * 4096 := Nat.mul_le_mul hlen hby; omega) hb.size
  have hownk : ∀ k, (G.rv rr).ownBlock = some k → B ≤ k ∧ ∀ o, ¬ G.imm k o := fun k hkk => H.own rr _ hk rfl k (by rw [h1]; exact ownBlock_mem.2 hkk)
  have hgle : G.le w { G with rv := fun i => if i = rr then v' else G.rv i, ver := fun i => if i = rr then q + 1 else G.ver i, ft := fun i => if i = rr then v'.ownBlock.toList else G.ft i } w' := by
    refine ⟨Nat.le_refl _, fun _ _ => rfl, fun _ _ q => q, fun b o hbo => ?_, fun i _ => ?_, fun i _ e => ?_, rfl⟩
    · refine World.cell?_of_block (hgr.block b (H.imm b o hbo) fun e => ?_)
      exact (hownk b e.symm).2 o hbo
    · by_cases qi : i = rr
      · subst qi; simp only [if_true]; omega
      · simp only [if_neg qi]; exact Nat.le_refl _
    · by_cases qi : i = rr
      · subst qi; simp only [if_true] at e; omega
      · simp only [if_neg qi]
  obtain ⟨v'o, hv'⟩ : ∃ a n c, v' = .slice a n c := by
    rcases hown.2 with ⟨e, _⟩ | ⟨g, cap, cur, e, _⟩
    · exact ⟨_, _, _, e⟩
    · exact ⟨_, _, _, e⟩
  refine ⟨v', w', _, hrun, H.turn hrl _ hgle rfl rfl (fun j hj => ⟨rfl, by simp [hj], by simp [hj], by simp [hj]⟩) hgr.size (fun j hj hjr g hg => hgr.block g (H.lt j hj g hg) fun e => ?_) (fun g hg => ?_) (fun _ g hg => ?_) ⟨by simp, ?_⟩,
    ⟨hgle, hb.trans ⟨hgr.os, hgr.tape, hgr.output, hgr.size, fun k hkB => hgr.block k (Nat.lt_of_lt_of_le hkB hb.size) fun e => by have := (hownk k e.symm).1; omega⟩, fun _ _ _ q => q⟩, ?_⟩
  · exact H.inj j rr hj hrl hjr g hg (by rw [h1]; exact ownBlock_mem.2 e.symm)
  · simp only [if_true] at hg
    have hg' := ownBlock_mem.1 hg
    refine ⟨?_, (hown.lt g hg').2⟩
    rcases hblk with e | e
    · left; rw [h1]; exact ownBlock_mem.2 (e ▸ hg')
    · right; rw [e] at hg'; cases hg'; exact Nat.le_refl _
  · simp only [if_true] at hg
    have hg' := ownBlock_mem.1 hg
    refine ⟨(hown.lt g hg').1, fun o hbo => ?_⟩
    rcases hblk with e | e
    · exact (hownk g (e ▸ hg')).2 o hbo
    · rw [e] at hg'; cases hg'
      have := H.imm _ _ hbo; omega
  · refine ⟨by simp, fun e' => ?_, fun i d hd => ?_, xs ++ news, by simpa using hown, fun i j x d k hxx hd hkk => ?_⟩
    · simp only [if_true]
      rw [hnil, h2 e']
      constructor
      · rintro ⟨a, b⟩; rw [a, List.eq_nil_of_length_eq_zero b]; rfl
      · intro q; have := List.append_eq_nil_iff.1 q; exact ⟨this.1, by rw [this.2]; rfl⟩
    · rw [List.getElem?_append] at hd
      split at hd
      · exact h3 _ _ hd
      · exact n4 _ _ hd
    · have hxl : xs.length = l.length * (G.lay e).length := h4.1
      have hj : j < (G.lay e).length := (List.getElem?_eq_some_iff.1 hkk).1
      rw [List.getElem?_append] at hxx
      split at hxx
      · rename_i hil
        obtain ⟨u, hu, hc⟩ := h5 i j x d k hxx hd hkk
        have : i * (G.lay e).length + j < xs.length := (List.getElem?_eq_some_iff.1 hu).1
        exact ⟨u, by rw [List.getElem?_append_left this]; exact hu, hc.mono hgle.imm hgle.cell⟩
      · rename_i hil
        obtain ⟨u, hu, hc⟩ := n5 (i - l.length) j x d k hxx hd hkk
        have hmul : i * (G.lay e).length = l.length * (G.lay e).length + (i - l.length) * (G.lay e).length := by rw [← Nat.add_mul]; congr 1; omega
        refine ⟨u, ?_, hc.mono hgle.imm hgle.cell⟩
        show (xs ++ news)[i * (G.lay e).length + j]? = some u
        rw [List.getElem?_append_right (by rw [hxl]; omega), hxl, show i * (G.lay e).length + j - l.length * (G.lay e).length = (i - l.length) * (G.lay e).length + j by omega]
        exact hu
  · simp only [AV.is]
    obtain ⟨n, c, e⟩ := hv'
    exact ⟨hrl, by simp, ⟨_, _, _, e⟩, fun _ => by simp⟩

end
end Go.Proofs.Qx
