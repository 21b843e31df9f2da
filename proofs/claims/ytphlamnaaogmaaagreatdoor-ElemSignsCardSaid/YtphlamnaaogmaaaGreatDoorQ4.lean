import Derived.RegionTactic
import Derived.LoopN
import Derived.Below
import Derived.Laws.StructEq
import Derived.Laws.Cells
import Derived.Laws.AppendOwn
import Derived.Lib.AppendStr
import Derived.Lib.UnsafeStr
import Derived.WalkKit
namespace Go.Proofs.Qx
open Go Go.RowKit
set_option linter.unusedVariables false
set_option linter.unusedSimpArgs false

inductive CK where
  | int (k : IntKind)
  | bool
  | str
  | seq (t : Nat)
  deriving Inhabited, DecidableEq
inductive D where
  | int (n : Int)
  | bool (b : Bool)
  | str (s : ByteArray)
  | seq (l : List (List D))
  deriving Inhabited
def D.toInt : D → Int | .int n => n | _ => 0
def D.toBool : D → Bool | .bool b => b | _ => false
def D.toStr : D → ByteArray | .str s => s | _ => .empty
def D.toSeq : D → List (List D) | .seq l => l | _ => []
def D.at (l : List (List D)) (i j : Nat) : D := (l.getD i []).getD j (.int 0)

inductive AV where
  | junk
  | int (k : IntKind) (n : Int)
  | bool (b : Bool)
  | str (s : ByteArray)
  | ptr (b o : Nat)
  | agg (l : List AV)
  | tup (l : List AV)
  | fn (f : Nat) (first cap : List AV)
  | val (v : Value)
  | seq (t : Nat) (l : List (List D))
  | sl (b o n c : Nat)
  | rs (r v : Nat)
  | ep (r v m i o : Nat)
  | sp (t : Nat) (l : List (List D)) (i o : Nat)
  | ifc (t : Nat) (a : AV)
  | own (t : Nat) (l : List (List D))
  | sd (r v : Nat)
  | op (b : Nat)
  deriving Inhabited

structure Gh where
  at_ : Nat → Nat
  n : Nat
  imm : Nat → Nat → Prop
  rv : Nat → Value
  ver : Nat → Nat
  ft : Nat → List Nat
  lay : Nat → List CK

inductive CRep (lay : Nat → List CK) (imm : Nat → Nat → Prop) (w : World) : CK → D → Value → Prop where
  | int (k : IntKind) (n : Int) : CRep lay imm w (.int k) (.int n) (.int k n)
  | bool (b : Bool) : CRep lay imm w .bool (.bool b) (.bool b)
  | str (s : ByteArray) : CRep lay imm w .str (.str s) (.string s)
  | nil (t : Nat) : CRep lay imm w (.seq t) (.seq []) (.slice none 0 0)
  | seq (t : Nat) (l : List (List D)) (b o cap : Nat) (u : Nat → Nat → Value) (hcap : l.length ≤ cap)
      (hel : ∀ (i : Nat) (e : List D), l[i]? = some e → e.length = (lay t).length)
      (hat : ∀ (i j : Nat), i < l.length → j < (lay t).length → imm b (o + i * (lay t).length + j) ∧ w.cell? ⟨b, o + i * (lay t).length + j, none⟩ = some (u i j))
      (hrep : ∀ (i j : Nat) (e : List D) (d : D) (k : CK), l[i]? = some e → e[j]? = some d → (lay t)[j]? = some k → CRep lay imm w k d (u i j)) :
      CRep lay imm w (.seq t) (.seq l) (.slice (some ⟨b, o, none⟩) l.length cap)

theorem CRep.mono {lay : Nat → List CK} {imm imm' : Nat → Nat → Prop} {w w' : World} (hi : ∀ b o, imm b o → imm' b o) (hw : ∀ b o, imm b o → w'.cell? ⟨b, o, none⟩ = w.cell? ⟨b, o, none⟩)
    {k : CK} {d : D} {v : Value} (h : CRep lay imm w k d v) : CRep lay imm' w' k d v := by
  induction h with
  | int k n => exact .int k n
  | bool b => exact .bool b
  | str s => exact .str s
  | nil c => exact .nil c
  | seq c l b o cap u hcap hel hat hrep ih =>
    exact .seq c l b o cap u hcap hel (fun i j h1 h2 => ⟨hi _ _ (hat i j h1 h2).1, by rw [hw _ _ (hat i j h1 h2).1]; exact (hat i j h1 h2).2⟩) ih

def SRep (lay : Nat → List CK) (imm : Nat → Nat → Prop) (w : World) (t : Nat) (l : List (List D)) (i o : Nat) (v : Value) : Prop :=
  ∃ b off, v = .pointer (some ⟨b, off + o, none⟩) ∧ ∀ j k, (lay t)[j]? = some k → imm b (off + j) ∧ ∃ u, w.cell? ⟨b, off + j, none⟩ = some u ∧ CRep lay imm w k (D.at l i j) u

theorem SRep.mono {lay : Nat → List CK} {imm imm' : Nat → Nat → Prop} {w w' : World} (hi : ∀ b o, imm b o → imm' b o) (hw : ∀ b o, imm b o → w'.cell? ⟨b, o, none⟩ = w.cell? ⟨b, o, none⟩)
    {t : Nat} {l : List (List D)} {i o : Nat} {v : Value} (h : SRep lay imm w t l i o v) : SRep lay imm' w' t l i o v := by
  obtain ⟨b, off, rfl, h⟩ := h
  refine ⟨b, off, rfl, fun j k hj => ?_⟩
  obtain ⟨h1, u, h2, h3⟩ := h j k hj
  exact ⟨hi _ _ h1, u, by rw [hw _ _ h1]; exact h2, h3.mono hi hw⟩

mutual
def AV.is (G : Gh) (w : World) : AV → Value → Prop
  | .junk, _ => True
  | .int k n, v => v = .int k n
  | .bool b, v => v = .bool b
  | .str s, v => v = .string s
  | .ptr b o, v => b < G.n ∧ v = .pointer (some ⟨G.at_ b, o, none⟩)
  | .agg l, v => ∃ a : Array Value, v = .agg a ∧ AV.isL G w l a.toList
  | .tup l, v => ∃ a : Array Value, v = .tuple a ∧ AV.isL G w l a.toList
  | .fn f l m, v => ∃ a b : Array Value, v = .func (.func f) a b ∧ AV.isL G w l a.toList ∧ AV.isL G w m b.toList
  | .val x, v => v = x
  | .seq t l, v => CRep G.lay G.imm w (.seq t) (.seq l) v
  | .sl b o n c, v => b < G.n ∧ v = .slice (some ⟨G.at_ b, o, none⟩) n c
  | .rs r q, v => r < G.n ∧ q ≤ G.ver r ∧ (∃ a n c, v = .slice a n c) ∧ (G.ver r = q → v = G.rv r)
  | .ep r q m i o, v => r < G.n ∧ q ≤ G.ver r ∧ (∃ b p, v = .pointer (some ⟨b, p, none⟩)) ∧ (G.ver r = q → ∃ g n c, G.rv r = .slice (some ⟨g, 0, none⟩) n c ∧ i < n ∧ v = .pointer (some ⟨g, i * m + o, none⟩))
  | .sp t l i o, v => SRep G.lay G.imm w t l i o v
  | .ifc t a, v => ∃ u, v = .iface t u ∧ AV.is G w a u
  | .own _ _, _ => True
  | .sd r q, v => r < G.n ∧ q ≤ G.ver r ∧ (∃ p, v = .pointer p) ∧ (G.ver r = q → (G.rv r = .slice none 0 0 ∧ v = .pointer none) ∨ ∃ a n c, G.rv r = .slice (some a) n c ∧ v = .pointer (some a))
  | .op b, v => b < G.n ∧ (v = .pointer none ∨ v = .pointer (some ⟨G.at_ b, 0, none⟩))
def AV.isL (G : Gh) (w : World) : List AV → List Value → Prop
  | [], vs => vs = []
  | a :: l, vs => ∃ v r, vs = v :: r ∧ AV.is G w a v ∧ AV.isL G w l r
end

structure Gh.le (G : Gh) (w : World) (G' : Gh) (w' : World) : Prop where
  n : G.n ≤ G'.n
  at_ : ∀ i, i < G.n → G'.at_ i = G.at_ i
  imm : ∀ b o, G.imm b o → G'.imm b o
  cell : ∀ b o, G.imm b o → w'.cell? ⟨b, o, none⟩ = w.cell? ⟨b, o, none⟩
  ver : ∀ i, i < G.n → G.ver i ≤ G'.ver i
  rv : ∀ i, i < G.n → G'.ver i = G.ver i → G'.rv i = G.rv i
  lay : G'.lay = G.lay

theorem Gh.le.refl (G : Gh) (w : World) : G.le w G w := ⟨Nat.le_refl _, fun _ _ => rfl, fun _ _ h => h, fun _ _ _ => rfl, fun _ _ => Nat.le_refl _, fun _ _ _ => rfl, rfl⟩
theorem Gh.le.trans {A B C : Gh} {a b c : World} (h : A.le a B b) (k : B.le b C c) : A.le a C c :=
  ⟨Nat.le_trans h.n k.n, fun i hi => (k.at_ i (Nat.lt_of_lt_of_le hi h.n)).trans (h.at_ i hi), fun _ _ hi => k.imm _ _ (h.imm _ _ hi),
    fun _ _ hi => (k.cell _ _ (h.imm _ _ hi)).trans (h.cell _ _ hi), fun i hi => Nat.le_trans (h.ver i hi) (k.ver i (Nat.lt_of_lt_of_le hi h.n)),
    fun i hi e => by
      have h1 := h.ver i hi
      have h2 := k.ver i (Nat.lt_of_lt_of_le hi h.n)
      rw [k.rv i (Nat.lt_of_lt_of_le hi h.n) (by omega), h.rv i hi (by omega)], k.lay.trans h.lay⟩

mutual
theorem AV.is_mono {G G' : Gh} {w w' : World} (h : G.le w G' w') : ∀ (a : AV) (v : Value), a.is G w v → a.is G' w' v
  | .junk, _, _ => by simp [AV.is]
  | .int .., _, hv => by simpa [AV.is] using hv
  | .bool .., _, hv => by simpa [AV.is] using hv
  | .str .., _, hv => by simpa [AV.is] using hv
  | .ptr b o, v, hv => by
    simp only [AV.is] at hv ⊢
    exact ⟨Nat.lt_of_lt_of_le hv.1 h.n, by rw [h.at_ b hv.1]; exact hv.2⟩
  | .agg l, v, hv => by
    simp only [AV.is] at hv ⊢
    obtain ⟨a, e, hl⟩ := hv
    exact ⟨a, e, AV.isL_mono h l _ hl⟩
  | .tup l, v, hv => by
    simp only [AV.is] at hv ⊢
    obtain ⟨a, e, hl⟩ := hv
    exact ⟨a, e, AV.isL_mono h l _ hl⟩
  | .fn f l m, v, hv => by
    simp only [AV.is] at hv ⊢
    obtain ⟨a, b, e, hl, hm⟩ := hv
    exact ⟨a, b, e, AV.isL_mono h l _ hl, AV.isL_mono h m _ hm⟩
  | .val _, _, hv => by simpa [AV.is] using hv
  | .seq c l, v, hv => by
    simp only [AV.is, h.lay] at hv ⊢
    exact hv.mono h.imm h.cell
  | .sl b o n c, v, hv => by
    simp only [AV.is] at hv ⊢
    exact ⟨Nat.lt_of_lt_of_le hv.1 h.n, by rw [h.at_ b hv.1]; exact hv.2⟩
  | .rs r q, v, hv => by
    simp only [AV.is] at hv ⊢
    obtain ⟨h1, h2, h0, h3⟩ := hv
    have := h.ver r h1
    exact ⟨Nat.lt_of_lt_of_le h1 h.n, by omega, h0, fun e => by rw [h.rv r h1 (by omega)]; exact h3 (by omega)⟩
  | .ep r q m i o, v, hv => by
    simp only [AV.is] at hv ⊢
    obtain ⟨h1, h2, h0, h3⟩ := hv
    have := h.ver r h1
    exact ⟨Nat.lt_of_lt_of_le h1 h.n, by omega, h0, fun e => by rw [h.rv r h1 (by omega)]; exact h3 (by omega)⟩
  | .sp t l i o, v, hv => by
    simp only [AV.is, h.lay] at hv ⊢
    exact hv.mono h.imm h.cell
  | .ifc t a, v, hv => by
    simp only [AV.is] at hv ⊢
    obtain ⟨u, e, ha⟩ := hv
    exact ⟨u, e, AV.is_mono h a u ha⟩
  | .own .., _, _ => by simp [AV.is]
  | .sd r q, v, hv => by
    simp only [AV.is] at hv ⊢
    obtain ⟨h1, h2, h0, h3⟩ := hv
    have := h.ver r h1
    exact ⟨Nat.lt_of_lt_of_le h1 h.n, by omega, h0, fun e => by rw [h.rv r h1 (by omega)]; exact h3 (by omega)⟩
  | .op b, v, hv => by
    simp only [AV.is] at hv ⊢
    exact ⟨Nat.lt_of_lt_of_le hv.1 h.n, by rw [h.at_ b hv.1]; exact hv.2⟩
theorem AV.isL_mono {G G' : Gh} {w w' : World} (h : G.le w G' w') : ∀ (l : List AV) (vs : List Value), AV.isL G w l vs → AV.isL G' w' l vs
  | [], vs, hv => by simpa [AV.isL] using hv
  | a :: l, vs, hv => by
    simp only [AV.isL] at hv ⊢
    obtain ⟨v, r, e, ha, hl⟩ := hv
    exact ⟨v, r, e, AV.is_mono h a v ha, AV.isL_mono h l r hl⟩
end

section
variable {G : Gh} {w : World}
theorem isL_len : ∀ {l : List AV} {vs : List Value}, AV.isL G w l vs → vs.length = l.length
  | [], vs, h => by simp [AV.isL] at h; simp [h]
  | a :: l, vs, h => by
    simp only [AV.isL] at h
    obtain ⟨v, r, rfl, _, hl⟩ := h
    simp [isL_len hl]

theorem isL_get : ∀ {l : List AV} {vs : List Value}, AV.isL G w l vs → ∀ (i : Nat) (a : AV), l[i]? = some a → ∃ v, vs[i]? = some v ∧ a.is G w v
  | [], vs, h, i, a, hi => by simp at hi
  | b :: l, vs, h, i, a, hi => by
    simp only [AV.isL] at h
    obtain ⟨v, r, rfl, ha, hl⟩ := h
    cases i with
    | zero => simp at hi; subst hi; exact ⟨v, rfl, ha⟩
    | succ i => simpa using isL_get hl i a (by simpa using hi)

theorem isL_of_get : ∀ {l : List AV} {vs : List Value}, vs.length = l.length → (∀ (i : Nat) (a : AV) (v : Value), l[i]? = some a → vs[i]? = some v → a.is G w v) → AV.isL G w l vs
  | [], vs, h, _ => by simp at h; simp [AV.isL, h]
  | a :: l, [], h, _ => by simp at h
  | a :: l, v :: r, h, k => by
    simp only [AV.isL]
    exact ⟨v, r, rfl, k 0 a v rfl rfl, isL_of_get (by simpa using h) (fun i b u hb hu => k (i + 1) b u (by simpa using hb) (by simpa using hu))⟩

theorem isL_append : ∀ {l m : List AV} {vs us : List Value}, AV.isL G w l vs → AV.isL G w m us → AV.isL G w (l ++ m) (vs ++ us)
  | [], m, vs, us, h, k => by simp [AV.isL] at h; simpa [h] using k
  | a :: l, m, vs, us, h, k => by
    simp only [AV.isL] at h
    obtain ⟨v, r, rfl, ha, hl⟩ := h
    simp only [List.cons_append, AV.isL]
    exact ⟨v, r ++ us, rfl, ha, isL_append hl k⟩

theorem isL_take : ∀ {l : List AV} {vs : List Value}, AV.isL G w l vs → ∀ n, AV.isL G w (l.take n) (vs.take n)
  | [], vs, h, n => by simp [AV.isL] at h; simp [h, AV.isL]
  | a :: l, vs, h, n => by
    simp only [AV.isL] at h
    obtain ⟨v, r, rfl, ha, hl⟩ := h
    cases n with
    | zero => simp [AV.isL]
    | succ n => simp only [List.take_succ_cons, AV.isL]; exact ⟨v, _, rfl, ha, isL_take hl n⟩

theorem isL_drop : ∀ {l : List AV} {vs : List Value}, AV.isL G w l vs → ∀ n, AV.isL G w (l.drop n) (vs.drop n)
  | [], vs, h, n => by simp [AV.isL] at h; simp [h, AV.isL]
  | a :: l, vs, h, n => by
    simp only [AV.isL] at h
    obtain ⟨v, r, rfl, ha, hl⟩ := h
    cases n with
    | zero => simp only [List.drop_zero, AV.isL]; exact ⟨v, r, rfl, ha, hl⟩
    | succ n => simpa using isL_drop hl n

end

def ofC : Value → AV
  | .int k n => .int k n
  | .bool b => .bool b
  | .string s => .str s
  | v => .val v
def ofV : Value → AV
  | .agg a => .agg (a.toList.map ofC)
  | .tuple a => .tup (a.toList.map ofC)
  | v => ofC v

theorem ofC_is (G : Gh) (w : World) (v : Value) : (ofC v).is G w v := by cases v <;> simp [ofC, AV.is]
theorem ofCs_is (G : Gh) (w : World) : ∀ (l : List Value), AV.isL G w (l.map ofC) l
  | [] => by simp [AV.isL]
  | v :: l => by simp only [List.map_cons, AV.isL]; exact ⟨v, l, rfl, ofC_is G w v, ofCs_is G w l⟩
theorem ofV_is (G : Gh) (w : World) (v : Value) : (ofV v).is G w v := by
  cases v
  case agg a => simp only [ofV, AV.is]; exact ⟨_, rfl, ofCs_is G w _⟩
  case tuple a => simp only [ofV, AV.is]; exact ⟨_, rfl, ofCs_is G w _⟩
  all_goals (simp only [ofV]; exact ofC_is G w _)

def AV.cells : AV → List AV
  | .agg l => l
  | v => [v]
def AV.one : AV → Bool
  | .int .. | .bool .. | .str .. | .ptr .. | .fn .. | .seq .. | .sl .. | .rs .. | .ep .. | .sp .. | .ifc .. | .sd .. => true
  | .val v => v.oneCell'
  | _ => false
def AV.known : AV → Bool
  | .agg l => l.all AV.one
  | v => v.one

theorem AV.one_is {G : Gh} {w : World} {a : AV} {v : Value} (h : a.one = true) (hv : a.is G w v) : v.oneCell' = true := by
  cases a <;> simp only [AV.one, AV.is] at h hv
  case int => subst hv; rfl
  case bool => subst hv; rfl
  case str => subst hv; rfl
  case ptr => obtain ⟨_, rfl⟩ := hv; rfl
  case sl => obtain ⟨_, rfl⟩ := hv; rfl
  case fn => obtain ⟨_, _, rfl, _⟩ := hv; rfl
  case val => subst hv; exact h
  case seq => cases hv <;> rfl
  case rs => obtain ⟨_, _, ⟨_, _, _, rfl⟩, _⟩ := hv; rfl
  case ep => obtain ⟨_, _, ⟨_, _, rfl⟩, _⟩ := hv; rfl
  case sp => obtain ⟨_, _, rfl, _⟩ := hv; rfl
  case ifc => obtain ⟨_, rfl, _⟩ := hv; rfl
  case sd => obtain ⟨_, _, ⟨_, rfl⟩, _⟩ := hv; rfl
  all_goals simp at h

theorem cells_is {G : Gh} {w : World} {a : AV} {v : Value} (h : a.known = true) (hv : a.is G w v) : AV.isL G w a.cells v.cells.toList ∧ ∀ u ∈ v.cells.toList, u.oneCell' = true := by
  have single : a.one = true → AV.isL G w [a] v.cells.toList ∧ ∀ u ∈ v.cells.toList, u.oneCell' = true := fun h1 => by
    have o := AV.one_is h1 hv
    have e : v.cells.toList = [v] := by cases v <;> first | rfl | simp [Value.oneCell'] at o
    rw [e]
    exact ⟨by simp only [AV.isL]; exact ⟨v, [], rfl, hv, rfl⟩, fun u hu => by simp at hu; subst hu; exact o⟩
  cases a
  case agg l =>
    simp only [AV.is] at hv
    obtain ⟨b, rfl, hl⟩ := hv
    refine ⟨hl, fun u hu => ?_⟩
    simp only [AV.known, List.all_eq_true] at h
    obtain ⟨i, hi⟩ := List.mem_iff_getElem?.1 hu
    have hlt : i < l.length := by
      have := isL_len hl
      rcases Nat.lt_or_ge i b.toList.length with q | q
      · simpa [← this] using q
      · rw [show (Value.agg b).cells.toList = b.toList from rfl, List.getElem?_eq_none q] at hi; cases hi
    obtain ⟨u', e, k⟩ := isL_get hl i l[i] (List.getElem?_eq_getElem hlt)
    rw [show (Value.agg b).cells.toList = b.toList from rfl] at hi
    rw [hi] at e; cases e
    exact AV.one_is (h _ (List.getElem_mem hlt)) k
  all_goals exact single h


inductive Md where
  | glob
  | own
  | froz
  deriving Inhabited, DecidableEq
inductive Blk where
  | cells (elem : TypeId) (l : List AV) (md : Md)
  | row (e : TypeId) (v : Nat) (nb : Bool) (l : List (List D))
  | froz (e : TypeId) (v : Nat) (l : List (List D))
  | iter (s : ByteArray) (pos : Nat)
  | bytes (e v : Nat) (s : ByteArray) (fz : Bool)
  | gone
  | trow (e : TypeId) (v : Nat) (l : List (List D))
  | bld (e be : TypeId) (s : ByteArray) (fz : Bool)
  deriving Inhabited
def Blk.own : Blk → Bool
  | .cells _ _ .own => true
  | .row .. => true
  | .iter .. => true
  | .bytes .. => true
  | .bld .. => true
  | _ => false
def Blk.kept : Blk → Bool
  | .trow .. => true
  | b => b.own

def RowRep (G : Gh) (B : Nat) (w : World) (e : TypeId) (nb : Bool) (l : List (List D)) (v : Value) (ft : List Nat) : Prop :=
  ft = v.ownBlock.toList ∧ (nb = true → (v = .slice none 0 0 ↔ l = [])) ∧ (∀ (i : Nat) (d : List D), l[i]? = some d → d.length = (G.lay e).length) ∧
  ∃ xs : List Value, w.ownsRow B e (G.lay e).length v l.length xs ∧
    ∀ (i j : Nat) (x : List D) (d : D) (k : CK), l[i]? = some x → x[j]? = some d → (G.lay e)[j]? = some k → ∃ u, xs[i * (G.lay e).length + j]? = some u ∧ CRep G.lay G.imm w k d u

def TRep (G : Gh) (B : Nat) (w : World) (e : TypeId) (l : List (List D)) (v : Value) (ft : List Nat) : Prop :=
  (∀ (i : Nat) (d : List D), l[i]? = some d → d.length = (G.lay e).length) ∧ (∀ g ∈ v.ownBlock.toList, ∀ o, ¬ G.imm g o) ∧ (∀ g ∈ ft, B ≤ g) ∧ ft.Nodup ∧
  ∃ (xs us : List Value), w.ownsRow B e (G.lay e).length v l.length xs ∧
    (∀ (i j : Nat) (x : List D) (d : D) (k : CK), l[i]? = some x → x[j]? = some d → (G.lay e)[j]? = some k → ∃ u, xs[i * (G.lay e).length + j]? = some u ∧ CRep G.lay G.imm w k d u) ∧
    us.length = l.length ∧ ft = v.ownBlock.toList ++ us.flatMap (fun u => u.ownBlock.toList) ∧
    ∀ (i : Nat) (x : List D), l[i]? = some x → ∃ (u : Value) (ys : List Value) (t : Nat), (G.lay e).getLast? = some (.seq t) ∧ us[i]? = some u ∧ xs[i * (G.lay e).length + ((G.lay e).length - 1)]? = some u ∧ w.ownsRow B t (G.lay t).length u (x.getD ((G.lay e).length - 1) (.int 0)).toSeq.length ys ∧
      ∀ g o, u.ownBlock = some g → G.imm g o → o < (x.getD ((G.lay e).length - 1) (.int 0)).toSeq.length * (G.lay t).length

def BytesRep (B : Nat) (w : World) (e : TypeId) (s : ByteArray) (fz : Bool) (v : Value) : Prop :=
  (s.size = 0 ∧ v = .slice none 0 0) ∨ (0 < s.size ∧ ∃ g cap cur fr, v = .slice (some ⟨g, 0, none⟩) s.size cap ∧ B ≤ g ∧ w.heap[g]? = some (.cells cur e fr) ∧ (fz = false → fr = (0, 0)) ∧ s.size ≤ cap ∧ cap ≤ maxLen ∧ cur.size = cap ∧ cur.toList.take s.size = Lib.strCells s)

def BRep (G : Gh) (B : Nat) (w : World) (i : Nat) : Blk → Prop
  | .cells e l md => G.ft i = [G.at_ i] ∧ (md = .froz → ∀ o, G.imm (G.at_ i) o) ∧ ∃ c : Array Value, w.heap[G.at_ i]? = some (.cells c e (0, 0)) ∧ AV.isL G w l c.toList
  | .row e v nb l => G.ver i = v ∧ RowRep G B w e nb l (G.rv i) (G.ft i)
  | .froz e v l => G.ver i = v ∧ G.ft i = [] ∧ CRep G.lay G.imm w (.seq e) (.seq l) (G.rv i)
  | .iter s p => G.ft i = [G.at_ i] ∧ w.heap[G.at_ i]? = some (.stringIter s p)
  | .bytes e v s fz => G.ver i = v ∧ G.ft i = (G.rv i).ownBlock.toList ∧ BytesRep B w e s fz (G.rv i)
  | .gone => True
  | .trow e v l => G.ver i = v ∧ TRep G B w e l (G.rv i) (G.ft i)
  | .bld e be s fz => ∃ p buf : Value, G.ft i = G.at_ i :: buf.ownBlock.toList ∧ w.heap[G.at_ i]? = some (.cells #[p, buf] e (0, 0)) ∧ (p = .pointer none ∨ p = .pointer (some ⟨G.at_ i, 0, none⟩)) ∧ buf.ownBlock ≠ some (G.at_ i) ∧ BytesRep B w be s fz buf

structure HRep (G : Gh) (B : Nat) (h : List Blk) (w : World) : Prop where
  len : h.length = G.n
  blk : ∀ i b, h[i]? = some b → BRep G B w i b
  own : ∀ i b, h[i]? = some b → b.own = true → ∀ g ∈ G.ft i, B ≤ g ∧ ∀ o, ¬ G.imm g o
  inj : ∀ i j, i < G.n → j < G.n → i ≠ j → ∀ g ∈ G.ft i, g ∉ G.ft j
  lt : ∀ i, i < G.n → ∀ g ∈ G.ft i, g < w.heap.size
  imm : ∀ b o, G.imm b o → b < w.heap.size

theorem ownsRow_of_block {w w' : World} {B : Nat} {e : TypeId} {m : Nat} {v : Value} {n : Nat} {xs : List Value} (h : w.ownsRow B e m v n xs) (hb : ∀ g, v.ownBlock = some g → w'.heap[g]? = w.heap[g]?) : w'.ownsRow B e m v n xs := by
  refine ⟨h.1, ?_⟩
  rcases h.2 with h2 | ⟨g, cap, cur, rfl, h1, h2, h3⟩
  · exact .inl h2
  · exact .inr ⟨g, cap, cur, rfl, h1, by rw [hb g rfl]; exact h2, h3⟩

theorem ownBlock_mem {v : Value} {g : Nat} : g ∈ v.ownBlock.toList ↔ v.ownBlock = some g := by cases v.ownBlock <;> simp [eq_comm]

theorem RowRep.mono {G G' : Gh} {B : Nat} {w w' : World} (hle : G.le w G' w') {e : TypeId} {nb : Bool} {l : List (List D)} {v : Value} {ft : List Nat} (hb : ∀ g ∈ ft, w'.heap[g]? = w.heap[g]?)
    (h : RowRep G B w e nb l v ft) : RowRep G' B w' e nb l v ft := by
  obtain ⟨h1, h2, h3, xs, h4, h5⟩ := h
  subst h1
  refine ⟨rfl, h2, by rw [hle.lay]; exact h3, xs, by rw [hle.lay]; exact ownsRow_of_block h4 fun g hg => hb g (ownBlock_mem.2 hg), fun i j x d k q1 q2 q3 => ?_⟩
  rw [hle.lay] at q3 ⊢
  obtain ⟨u, hu, hc⟩ := h5 i j x d k q1 q2 q3
  exact ⟨u, hu, hc.mono hle.imm hle.cell⟩

theorem TRep.row {G : Gh} {B : Nat} {w : World} {e : TypeId} {l : List (List D)} {v : Value} {ft : List Nat} (h : TRep G B w e l v ft) : RowRep G B w e false l v v.ownBlock.toList := by
  obtain ⟨h1, _, _, _, xs, _, h5, h6, _⟩ := h
  exact ⟨rfl, (fun e => by cases e), h1, xs, h5, h6⟩

theorem TRep.mono {G G' : Gh} {B : Nat} {w w' : World} (hle : G.le w G' w') {e : TypeId} {l : List (List D)} {v : Value} {ft : List Nat} (hb : ∀ g ∈ ft, w'.heap[g]? = w.heap[g]?) (hi : ∀ g ∈ ft, ∀ o, G'.imm g o → G.imm g o)
    (h : TRep G B w e l v ft) : TRep G' B w' e l v ft := by
  obtain ⟨h1, h2, h3, h4, xs, us, h5, h6, h7, h8, h10⟩ := h
  have hv : ∀ g ∈ v.ownBlock.toList, g ∈ ft := fun g hg => by rw [h8]; exact List.mem_append_left _ hg
  refine ⟨by rw [hle.lay]; exact h1, fun g hg o q => h2 g hg o (hi g (hv g hg) o q), h3, h4, xs, us, by rw [hle.lay]; exact ownsRow_of_block h5 fun g hg => hb g (hv g (ownBlock_mem.2 hg)), fun i j x d k q1 q2 q3 => ?_, h7, h8, fun i x hx => ?_⟩
  · rw [hle.lay] at q3 ⊢
    obtain ⟨u, hu, hc⟩ := h6 i j x d k q1 q2 q3
    exact ⟨u, hu, hc.mono hle.imm hle.cell⟩
  · obtain ⟨u, ys, t, h9, a1, a2, a3, a4⟩ := h10 i x hx
    have hu : ∀ g, u.ownBlock = some g → g ∈ ft := fun g hg => by
      rw [h8]; exact List.mem_append_right _ (List.mem_flatMap.2 ⟨u, List.mem_of_getElem? a1, ownBlock_mem.2 hg⟩)
    rw [hle.lay]
    exact ⟨u, ys, t, h9, a1, a2, ownsRow_of_block a3 fun g hg => hb g (hu g hg), fun g o hg q => a4 g o hg (hi g (hu g hg) o q)⟩

theorem BRep.mono {G G' : Gh} {B : Nat} {w w' : World} (hle : G.le w G' w') {i : Nat} (ha : G'.at_ i = G.at_ i) (hv : G'.ver i = G.ver i) (hr : G'.rv i = G.rv i) (hf : G'.ft i = G.ft i)
    (hb : ∀ g ∈ G.ft i, w'.heap[g]? = w.heap[g]?) {b : Blk} (hi : b.kept = true → ∀ g ∈ G.ft i, ∀ o, G'.imm g o → G.imm g o) (h : BRep G B w i b) : BRep G' B w' i b := by
  cases b
  case cells e l md =>
    obtain ⟨h1, h0, c, h2, h3⟩ := h
    exact ⟨by rw [hf, ha]; exact h1, fun e o => by rw [ha]; exact hle.imm _ _ (h0 e o), c, by rw [ha, hb _ (by rw [h1]; simp)]; exact h2, AV.isL_mono hle _ _ h3⟩
  case row e v nb l =>
    obtain ⟨h1, h2⟩ := h
    exact ⟨by rw [hv]; exact h1, by rw [hr, hf]; exact h2.mono hle hb⟩
  case froz e v l =>
    obtain ⟨h1, h2, h3⟩ := h
    exact ⟨by rw [hv]; exact h1, by rw [hf]; exact h2, by rw [hr, hle.lay]; exact h3.mono hle.imm hle.cell⟩
  case iter s p =>
    obtain ⟨h1, h2⟩ := h
    exact ⟨by rw [hf, ha]; exact h1, by rw [ha, hb _ (by rw [h1]; simp)]; exact h2⟩
  case bytes e v s fz =>
    obtain ⟨h1, h2, h3⟩ := h
    refine ⟨by rw [hv]; exact h1, by rw [hf, hr]; exact h2, ?_⟩
    rw [hr]
    rcases h3 with h3 | ⟨h0, g, cap, cur, fr, e1, e2, e3, e4⟩
    · exact .inl h3
    · exact .inr ⟨h0, g, cap, cur, fr, e1, e2, by rw [hb g (by rw [h2, e1]; simp [Value.ownBlock])]; exact e3, e4⟩
  case gone => trivial
  case trow e v l =>
    obtain ⟨h1, h2⟩ := h
    exact ⟨by rw [hv]; exact h1, by rw [hr, hf]; exact h2.mono hle hb (hi rfl)⟩
  case bld e be s fz =>
    obtain ⟨p, buf, h1, h2, h3, h4, h5⟩ := h
    refine ⟨p, buf, by rw [hf, ha]; exact h1, by rw [ha, hb _ (by rw [h1]; simp)]; exact h2, by rw [ha]; exact h3, by rw [ha]; exact h4, ?_⟩
    rcases h5 with h5 | ⟨h0, g, cap, cur, fr, e1, e2, e3, e4⟩
    · exact .inl h5
    · exact .inr ⟨h0, g, cap, cur, fr, e1, e2, by rw [hb g (by rw [h1, e1]; simp [Value.ownBlock])]; exact e3, e4⟩

theorem Blk.kept_own {b : Blk} (h : b.own = true) : b.kept = true := by cases b <;> first | exact h | rfl

theorem HRep.keep {G G' : Gh} {B : Nat} {h : List Blk} {w w' : World} (H : HRep G B h w) (hle : G.le w G' w') (hn : G'.n = G.n) (ha : G'.at_ = G.at_) (hv : G'.ver = G.ver) (hr : G'.rv = G.rv) (hf : G'.ft = G.ft)
    (hsz : w.heap.size ≤ w'.heap.size) (hb : ∀ i, i < G.n → ∀ g ∈ G.ft i, w'.heap[g]? = w.heap[g]?) (hold : ∀ i b, h[i]? = some b → b.kept = true → ∀ g ∈ G.ft i, ∀ o, G'.imm g o → G.imm g o)
    (hnew : ∀ b o, G'.imm b o → b < w'.heap.size) : HRep G' B h w' := by
  have hlt : ∀ {i b}, h[i]? = some b → i < G.n := fun hi => by rw [← H.len]; exact (List.getElem?_eq_some_iff.1 hi).1
  refine ⟨by rw [hn]; exact H.len, fun i b hi => (H.blk i b hi).mono hle (by rw [ha]) (by rw [hv]) (by rw [hr]) (by rw [hf]) (hb i (hlt hi)) (hold i b hi), fun i b hi ho g hg => ?_, ?_, ?_, hnew⟩
  · rw [hf] at hg
    exact ⟨(H.own i b hi ho g hg).1, fun o q => (H.own i b hi ho g hg).2 o (hold i b hi (Blk.kept_own ho) g hg o q)⟩
  · rw [hn, hf]; exact H.inj
  · rw [hn, hf]; exact fun i hi g hg => Nat.lt_of_lt_of_le (H.lt i hi g hg) hsz

theorem HRep.after {G : Gh} {imm' : Nat → Nat → Prop} {B : Nat} {h : List Blk} {w w' : World} (H : HRep G B h w) (hb : Below w.heap.size w w')
    (hi : ∀ b o, G.imm b o → imm' b o) (hold : ∀ b o, b < w.heap.size → imm' b o → G.imm b o) (hnew : ∀ b o, imm' b o → b < w'.heap.size) : HRep { G with imm := imm' } B h w' ∧ G.le w { G with imm := imm' } w' := by
  have hle : G.le w { G with imm := imm' } w' := ⟨Nat.le_refl _, fun _ _ => rfl, hi, fun b o q => hb.cell (p := ⟨b, o, none⟩) (H.imm b o q), fun _ _ => Nat.le_refl _, fun _ _ _ => rfl, rfl⟩
  exact ⟨H.keep hle rfl rfl rfl rfl rfl hb.size (fun i hi g hg => hb.block g (H.lt i hi g hg)) (fun i b hib _ g hg o q => hold g o (H.lt i (by rw [← H.len]; exact (List.getElem?_eq_some_iff.1 hib).1) g hg) q) hnew, hle⟩

theorem HRep.below {G : Gh} {B : Nat} {h : List Blk} {w w' : World} (H : HRep G B h w) (hb : Below w.heap.size w w') : HRep G B h w' ∧ G.le w G w' :=
  H.after (imm' := G.imm) hb (fun _ _ q => q) (fun _ _ _ q => q) (fun b o q => Nat.lt_of_lt_of_le (H.imm b o q) hb.size)

def Gh.push (G : Gh) (a : Nat) (r : Value) (f : List Nat) : Gh :=
  { G with at_ := fun i => if i = G.n then a else G.at_ i, rv := fun i => if i = G.n then r else G.rv i, ver := fun i => if i = G.n then 0 else G.ver i, ft := fun i => if i = G.n then f else G.ft i, n := G.n + 1 }

theorem Gh.le_push {G : Gh} {w w' : World} (hc : ∀ b o, G.imm b o → w'.cell? ⟨b, o, none⟩ = w.cell? ⟨b, o, none⟩) (a : Nat) (r : Value) (f : List Nat) : G.le w (G.push a r f) w' :=
  ⟨Nat.le_succ _, fun i hi => by simp [Gh.push, Nat.ne_of_lt hi], fun _ _ q => q, hc, fun i hi => by simp [Gh.push, Nat.ne_of_lt hi], fun i hi _ => by simp [Gh.push, Nat.ne_of_lt hi], rfl⟩

theorem HRep.push {G : Gh} {B : Nat} {h : List Blk} {w w' : World} (H : HRep G B h w) (hsz : w.heap.size ≤ w'.heap.size) (hb : ∀ k, k < w.heap.size → w'.heap[k]? = w.heap[k]?)
    (a : Nat) (r : Value) (f : List Nat) (b : Blk) (hf : ∀ g ∈ f, w.heap.size ≤ g ∧ g < w'.heap.size) (hB : B ≤ w.heap.size) (hrep : BRep (G.push a r f) B w' G.n b) :
    HRep (G.push a r f) B (h ++ [b]) w' ∧ G.le w (G.push a r f) w' := by
  have hle : G.le w (G.push a r f) w' := Gh.le_push (fun b o q => World.cell?_of_block (hb b (H.imm b o q))) a r f
  have e1 : ∀ i, i < G.n → (G.push a r f).at_ i = G.at_ i ∧ (G.push a r f).rv i = G.rv i ∧ (G.push a r f).ver i = G.ver i ∧ (G.push a r f).ft i = G.ft i := fun i hi => by simp [Gh.push, Nat.ne_of_lt hi]
  have e2 : (G.push a r f).ft G.n = f := by simp [Gh.push]
  have hcase : ∀ {i b'}, (h ++ [b])[i]? = some b' → (i < G.n ∧ h[i]? = some b') ∨ (i = G.n ∧ b' = b) := fun {i b'} hi => by
    rw [List.getElem?_append] at hi
    by_cases q : i < h.length
    · rw [if_pos q] at hi; exact .inl ⟨by rw [← H.len]; exact q, hi⟩
    · rw [if_neg q] at hi
      rcases Nat.lt_or_ge (i - h.length) 1 with z | z
      · have : i - h.length = 0 := by omega
        rw [this] at hi; simp at hi
        exact .inr ⟨by rw [← H.len]; omega, hi.symm⟩
      · rw [List.getElem?_eq_none (by simpa using z)] at hi; cases hi
  refine ⟨⟨by simp [Gh.push, H.len], fun i b' hi => ?_, fun i b' hi ho g hg => ?_, fun i j hi hj hij g hg => ?_, fun i hi g hg => ?_, fun b o q => Nat.lt_of_lt_of_le (H.imm b o q) hsz⟩, hle⟩
  · rcases hcase hi with ⟨q, hi⟩ | ⟨rfl, rfl⟩
    · obtain ⟨a1, a2, a3, a4⟩ := e1 i q
      exact (H.blk i b' hi).mono hle a1 a3 a2 a4 (fun g hg => hb g (H.lt i q g hg)) fun _ _ _ _ q => q
    · exact hrep
  · rcases hcase hi with ⟨q, hi⟩ | ⟨rfl, rfl⟩
    · rw [(e1 i q).2.2.2] at hg; exact H.own i b' hi ho g hg
    · rw [e2] at hg
      exact ⟨Nat.le_trans hB (hf g hg).1, fun o q => by have := H.imm _ _ q; have := (hf g hg).1; omega⟩
  · have hi' : i < G.n + 1 := hi
    have hj' : j < G.n + 1 := hj
    by_cases qi : i = G.n
    · have qj : j < G.n := by omega
      rw [qi, e2] at hg
      rw [(e1 j qj).2.2.2]
      intro hgj
      have := H.lt j qj g hgj
      have := (hf g hg).1; omega
    · have qi' : i < G.n := by omega
      rw [(e1 i qi').2.2.2] at hg
      by_cases qj : j = G.n
      · rw [qj, e2]
        intro hgj
        have := H.lt i qi' g hg
        have := (hf g hgj).1; omega
      · rw [(e1 j (by omega)).2.2.2]; exact H.inj i j qi' (by omega) hij g hg
  · have hi' : i < G.n + 1 := hi
    by_cases qi : i = G.n
    · rw [qi, e2] at hg; exact (hf g hg).2
    · rw [(e1 i (by omega)).2.2.2] at hg; exact Nat.lt_of_lt_of_le (H.lt i (by omega) g hg) hsz

theorem HRep.alloc {G : Gh} {B : Nat} {h : List Blk} {w : World} (H : HRep G B h w) (hB : B ≤ w.heap.size) {t : TypeId} {l : List AV} {c : Array Value} (hl : AV.isL G w l c.toList) :
    HRep (G.push w.heap.size undef [w.heap.size]) B (h ++ [.cells t l .own]) (w.alloc (.cells c t)) ∧ G.le w (G.push w.heap.size undef [w.heap.size]) (w.alloc (.cells c t)) := by
  have hb : ∀ k, k < w.heap.size → (w.alloc (.cells c t)).heap[k]? = w.heap[k]? := fun k hk => Below.heap_alloc _ _ _ hk
  refine H.push (by simp) hb _ _ _ _ (fun g hg => by simp at hg; subst hg; simp) hB ⟨by simp [Gh.push], (fun e => by cases e), c, ?_, ?_⟩
  · have : (G.push w.heap.size undef [w.heap.size]).at_ G.n = w.heap.size := by simp [Gh.push]
    rw [this]
    show (w.heap.push _)[w.heap.size]? = _
    simp
  · exact AV.isL_mono (Gh.le_push (fun b o q => World.cell?_of_block (hb b (H.imm b o q))) _ _ _) _ _ hl

theorem HRep.turn {G G' : Gh} {B : Nat} {h : List Blk} {w w' : World} (H : HRep G B h w) {i : Nat} (hi : i < G.n) (b : Blk) (hle : G.le w G' w') (hn : G'.n = G.n) (himm : G'.imm = G.imm)
    (hsame : ∀ j, j ≠ i → G'.at_ j = G.at_ j ∧ G'.ver j = G.ver j ∧ G'.rv j = G.rv j ∧ G'.ft j = G.ft j) (hsz : w.heap.size ≤ w'.heap.size)
    (hb : ∀ j, j < G.n → j ≠ i → ∀ g ∈ G.ft j, w'.heap[g]? = w.heap[g]?) (hft : ∀ g ∈ G'.ft i, (g ∈ G.ft i ∨ w.heap.size ≤ g) ∧ g < w'.heap.size)
    (hown : b.own = true → ∀ g ∈ G'.ft i, B ≤ g ∧ ∀ o, ¬ G.imm g o) (hrep : BRep G' B w' i b) : HRep G' B (h.set i b) w' := by
  have hlt : ∀ {j c}, h[j]? = some c → j < G.n := fun hj => by rw [← H.len]; exact (List.getElem?_eq_some_iff.1 hj).1
  have hget : ∀ {j c}, (h.set i b)[j]? = some c → (j = i ∧ c = b) ∨ (j ≠ i ∧ h[j]? = some c) := fun {j c} hj => by
    rw [List.getElem?_set] at hj
    by_cases q : i = j
    · rw [if_pos q] at hj
      split at hj
      · cases hj; exact .inl ⟨q.symm, rfl⟩
      · cases hj
    · rw [if_neg q] at hj; exact .inr ⟨fun e => q e.symm, hj⟩
  refine ⟨by rw [hn]; simpa using H.len, fun j c hj => ?_, fun j c hj ho g hg => ?_, fun j k hj hk hjk g hg => ?_, fun j hj g hg => ?_, fun x o q => ?_⟩
  · rcases hget hj with ⟨rfl, rfl⟩ | ⟨q, hj⟩
    · exact hrep
    · obtain ⟨a1, a2, a3, a4⟩ := hsame j q
      exact (H.blk j c hj).mono hle a1 a2 a3 a4 (hb j (hlt hj) q) fun _ _ _ _ q => himm ▸ q
  · rcases hget hj with ⟨rfl, rfl⟩ | ⟨q, hj⟩
    · rw [himm]; exact hown ho g hg
    · rw [(hsame j q).2.2.2] at hg; rw [himm]; exact H.own j c hj ho g hg
  · rw [hn] at hj hk
    by_cases qj : j = i
    · have qk : k ≠ i := fun e => hjk (by rw [qj, e])
      rw [(hsame k qk).2.2.2]
      intro hgk
      rw [qj] at hg
      rcases (hft g hg).1 with q | q
      · exact H.inj i k hi hk (fun e => qk e.symm) g q hgk
      · have := H.lt k hk g hgk; omega
    · rw [(hsame j qj).2.2.2] at hg
      by_cases qk : k = i
      · rw [qk]
        intro hgk
        rcases (hft g hgk).1 with q | q
        · exact H.inj j i hj hi qj g hg q
        · have := H.lt j hj g hg; omega
      · rw [(hsame k qk).2.2.2]; exact H.inj j k hj hk hjk g hg
  · rw [hn] at hj
    by_cases qj : j = i
    · rw [qj] at hg; exact (hft g hg).2
    · rw [(hsame j qj).2.2.2] at hg; exact Nat.lt_of_lt_of_le (H.lt j hj g hg) hsz
  · rw [himm] at q; exact Nat.lt_of_lt_of_le (H.imm x o q) hsz

theorem HRep.store {G : Gh} {B : Nat} {h : List Blk} {w : World} (H : HRep G B h w) {i : Nat} {t : TypeId} {l0 : List AV} (hi : h[i]? = some (.cells t l0 .own)) {l : List AV} {c : Array Value}
    (hl : AV.isL G w l c.toList) : HRep G B (h.set i (.cells t l .own)) (w.setRow (G.at_ i) c) ∧ G.le w G (w.setRow (G.at_ i) c) := by
  have hlt : i < G.n := by rw [← H.len]; exact (List.getElem?_eq_some_iff.1 hi).1
  obtain ⟨hft, _, c0, e0, k0⟩ := H.blk i _ hi
  have o0 := H.own i _ hi rfl (G.at_ i) (by rw [hft]; simp)
  have hrow := setRow_heap w (G.at_ i) c0 c t (0, 0) e0
  have hother : ∀ k, k ≠ G.at_ i → (w.setRow (G.at_ i) c).heap[k]? = w.heap[k]? := fun k hk => by
    simp only [World.setRow, Array.getElem?_modify]
    rw [if_neg (by omega)]
  have hle : G.le w G (w.setRow (G.at_ i) c) := ⟨Nat.le_refl _, fun _ _ => rfl, fun _ _ q => q, fun b' o' q => by
    have hne : b' ≠ G.at_ i := fun e => o0.2 o' (e ▸ q)
    exact World.cell?_of_block (hother b' hne), fun _ _ => Nat.le_refl _, fun _ _ _ => rfl, rfl⟩
  have hsz : (w.setRow (G.at_ i) c).heap.size = w.heap.size := by simp [World.setRow]
  refine ⟨H.turn hlt (.cells t l .own) hle rfl rfl (fun _ _ => ⟨rfl, rfl, rfl, rfl⟩) (by omega) (fun j hj q g hg => hother g fun e => ?_) (fun g hg => ⟨.inl hg, by rw [hsz]; exact H.lt i hlt g hg⟩)
    (fun _ g hg => H.own i _ hi rfl g hg) ⟨hft, (fun e => by cases e), c, hrow, AV.isL_mono hle _ _ hl⟩, hle⟩
  subst e
  exact H.inj j i hj hlt q _ hg (by rw [hft]; simp)

def immR (G : Gh) (S : List Nat) (b o : Nat) : Prop := G.imm b o ∨ ∃ r ∈ S, b ∈ G.ft r

theorem immR_mono {G : Gh} {S S' : List Nat} (h : ∀ r ∈ S, r ∈ S') : ∀ b o, immR G S b o → immR G S' b o := fun b o q => by
  rcases q with q | ⟨r, hr, hb⟩
  · exact .inl q
  · exact .inr ⟨r, h r hr, hb⟩

end Go.Proofs.Qx

namespace Go.Proofs.Qx
open Go Go.RowKit
set_option linter.unusedVariables false

abbrev Fr := List AV
abbrev Hp := List Blk
inductive Res where
  | ret (v : AV)
  | pan (v : Value)
inductive Out : Type 1 where
  | mk (τ : Type) (x : Option τ) (out : τ → Res) (sel : (β : Type) → τ → (Res → Option β) → Option β) (ok : ∀ β t k, sel β t k = k (out t))
abbrev Tells := List AV → Option Out
inductive AK where
  | raw
  | one (k : CK)
  | agg (ks : List CK)
inductive CM where
  | flat
  | froz
  | own
  deriving DecidableEq
structure CE : Type 1 where
  ks : List AK
  mode : CM
  tells : Tells
inductive LOut : Type 1 where
  | mk (τ : Type) (x : Option τ) (out : τ → Exit × Fr × Hp) (sel : (β : Type) → τ → (Exit → Fr → Hp → Option β) → Option β) (ok : ∀ β t k, sel β t k = k (out t).1 (out t).2.1 (out t).2.2)
abbrev LSum := Fr → Hp → Option LOut
inductive HOut : Type 1 where
  | mk (τ : Type) (x : Option τ) (out : τ → Res × Hp) (sel : (β : Type) → τ → (Res → Hp → Option β) → Option β) (ok : ∀ β t k, sel β t k = k (out t).1 (out t).2)
abbrev MSum := List AV → Hp → Option HOut
structure Cfg : Type 1 where
  J : List (Nat × List Nat)
  LS : List (Nat × Nat × LSum)
  rounds : Nat
  hand : Option (List AV → Hp → Option (Res × Hp))
  mem : Option MSum

def forceL {α β : Type} : List α → (List α → Option β) → Option β
  | [], k => k []
  | a :: l, k => forceL l fun l => k (a :: l)
def head1 {β : Type} (a : AV) (k : AV → Option β) : Option β :=
  match a with
  | .junk => k .junk
  | .int i n => k (.int i n)
  | .bool b => k (.bool b)
  | .str s => k (.str s)
  | .ptr b o => k (.ptr b o)
  | .agg l => k (.agg l)
  | .tup l => k (.tup l)
  | .fn f l m => k (.fn f l m)
  | .val v => k (.val v)
  | .seq c l => k (.seq c l)
  | .sl b o n c => k (.sl b o n c)
  | .rs r v => k (.rs r v)
  | .ep r v m i o => k (.ep r v m i o)
  | .sp t l i o => k (.sp t l i o)
  | .ifc t a => k (.ifc t a)
  | .own t l => k (.own t l)
  | .sd r v => k (.sd r v)
  | .op b => k (.op b)
def forceC {β : Type} : List AV → (List AV → Option β) → Option β
  | [], k => k []
  | a :: l, k => head1 a fun a => forceC l fun l => k (a :: l)
def headK {β : Type} (a : AV) (k : AV → Option β) : Option β :=
  match a with
  | .junk => k .junk
  | .int i n => k (.int i n)
  | .bool b => k (.bool b)
  | .str s => k (.str s)
  | .ptr b o => k (.ptr b o)
  | .agg l => forceC l fun l => k (.agg l)
  | .tup l => forceC l fun l => k (.tup l)
  | .fn f l m => forceC l fun l => forceC m fun m => k (.fn f l m)
  | .val v => k (.val v)
  | .seq c l => k (.seq c l)
  | .sl b o n c => k (.sl b o n c)
  | .rs r v => k (.rs r v)
  | .ep r v m i o => k (.ep r v m i o)
  | .sp t l i o => k (.sp t l i o)
  | .ifc t a => head1 a fun a => k (.ifc t a)
  | .own t l => k (.own t l)
  | .sd r v => k (.sd r v)
  | .op b => k (.op b)
def forceB {β : Type} (b : Blk) (k : Blk → Option β) : Option β :=
  match b with
  | .cells e l md => forceC l fun l => (match md with
    | .glob => k (.cells e l .glob)
    | .own => k (.cells e l .own)
    | .froz => k (.cells e l .froz))
  | .row e v nb l => (match nb with
    | true => k (.row e v true l)
    | false => k (.row e v false l))
  | .froz e v l => k (.froz e v l)
  | .iter s p => k (.iter s p)
  | .bytes e v s fz => (match fz with
    | true => k (.bytes e v s true)
    | false => k (.bytes e v s false))
  | .gone => k .gone
  | .trow e v l => k (.trow e v l)
  | .bld e be s fz => (match fz with
    | true => k (.bld e be s true)
    | false => k (.bld e be s false))
def forceH {β : Type} : Hp → (Hp → Option β) → Option β
  | [], k => k []
  | b :: l, k => forceB b fun b => forceH l fun l => k (b :: l)

def avOf : CK → D → AV
  | .int k, d => .int k d.toInt
  | .bool, d => .bool d.toBool
  | .str, d => .str d.toStr
  | .seq t, d => .seq t d.toSeq
def avsAt (l : List (List D)) (i : Nat) : List CK → Nat → List AV
  | [], _ => []
  | k :: ks, o => avOf k (D.at l i o) :: avsAt l i ks (o + 1)

def atsRow (l : List (List D)) (i : Nat) : Nat → Nat → List D
  | _, 0 => []
  | j, k + 1 => D.at l i j :: atsRow l i (j + 1) k

def leafD (h : Hp) : CK → AV → Option (D × List Nat)
  | .int k, .int k' n => if k = k' then some (.int n, []) else none
  | .bool, .bool b => some (.bool b, [])
  | .str, .str s => some (.str s, [])
  | .seq t, .seq t' l => if t = t' then some (.seq l, []) else none
  | .seq _, .val (.slice none 0 0) => some (.seq [], [])
  | .seq t, .rs r q => match h[r]? with
    | some (.row e v _ l) => if q = v ∧ e = t then some (.seq l, [r]) else none
    | some (.froz e v l) => if q = v ∧ e = t then some (.seq l, []) else none
    | _ => none
  | _, _ => none
def cellsD (g : CK → AV → Option (D × List Nat)) : List CK → List AV → Option (List D × List Nat)
  | [], _ => some ([], [])
  | k :: ks, a :: l => match g k a, cellsD g ks l with
    | some (d, S), some (ds, S') => some (d :: ds, S ++ S')
    | _, _ => none
  | _ :: _, [] => none
def rowsD (g : CK → AV → Option (D × List Nat)) (ks : List CK) : Nat → List AV → Option (List (List D) × List Nat)
  | 0, _ => some ([], [])
  | n + 1, l => match cellsD g ks l, rowsD g ks n (l.drop ks.length) with
    | some (d, S), some (ds, S') => some (d :: ds, S ++ S')
    | _, _ => none
def asD (Λ : Nat → List CK) (h : Hp) : Nat → CK → AV → Option (D × List Nat)
  | 0, k, a => leafD h k a
  | f + 1, k, a => match k, a with
    | .seq t, .sl b o n c => match h[b]? with
      | some (.cells e l md) => if e = t ∧ md ≠ .glob ∧ n ≤ c then (rowsD (asD Λ h f) (Λ t) n (l.drop o)).map fun (x, S) => (.seq x, b :: S) else none
      | _ => none
    | k, a => leafD h k a
def frzA : Hp → List Nat → Hp
  | h, [] => h
  | h, r :: S => match h[r]? with
    | some (.row e v _ l) => frzA (h.set r (.froz e v l)) S
    | some (.cells e l .own) => frzA (h.set r (.cells e l .froz)) S
    | _ => frzA h S

def argA (Λ : Nat → List CK) (h : Hp) : AK → AV → Option (AV × List Nat)
  | .raw, a => some (a, [])
  | .one k, a => (asD Λ h 4 k a).map fun (d, S) => (avOf k d, S)
  | .agg ks, .agg l => if l.length = ks.length then (cellsD (asD Λ h 4) ks l).map fun (ds, S) => (.agg (avsAt [ds] 0 ks 0), S) else none
  | _, _ => none
def argsA (Λ : Nat → List CK) (h : Hp) : List AK → List AV → Option (List AV × List Nat)
  | [], [] => some ([], [])
  | k :: ks, a :: l => match argA Λ h k a, argsA Λ h ks l with
    | some (x, S), some (xs, S') => some (x :: xs, S ++ S')
    | _, _ => none
  | _, _ => none

def AV.flat1 : AV → Bool
  | .int .. | .bool .. | .str .. => true
  | _ => false
def AV.flat : AV → Bool
  | .agg l => l.all AV.flat1
  | .tup l => l.all fun a => match a with | .agg m => m.all AV.flat1 | a => a.flat1
  | a => a.flat1

section
variable {α : Type} (P : Program) (Λ : Nat → List CK) (Γ : List (Nat × CE)) (gl : List (Nat × Nat))

def ev (fr : Fr) : Operand → AV
  | .tmp t => fr.getD t .junk
  | .const v => ofV v
  | .global g => match gl.lookup g with | some i => .ptr i 0 | none => .val (.pointer (some ⟨g, 0, none⟩))
  | .func f => .fn f [] []

def putA (fr : Fr) (dst : Option Tmp) (v : AV) : Fr := match dst with | some d => fr.set d v | none => fr

def isAggT (t : TypeId) : Option Bool :=
  match P.underlying t with
  | some (.struct _) => some true
  | some (.array _ _) => some true
  | some _ => some false
  | none => none

def szT (t : TypeId) : Option Nat := (P.info? t).map (·.size)

def partA (t : TypeId) (cs : List AV) (off : Nat) : Option AV :=
  match isAggT P t, szT P t with
  | some true, some n => if off + n ≤ cs.length then some (.agg ((cs.drop off).take n)) else none
  | some false, _ => cs[off]?
  | _, _ => none

def loadA (h : Hp) (t : TypeId) : AV → Option AV
  | .ptr b o => match h[b]? with
    | some (.cells _ cs _) => partA P t cs o
    | _ => none
  | .sp e l i o => partA P t (avsAt l i (Λ e) 0) o
  | .ep r q m i o => match h[r]? with
    | some (.row e v _ l) => if q = v ∧ m = (Λ e).length then partA P t (avsAt l i (Λ e) 0) o else none
    | some (.trow e v l) => if q = v ∧ m = (Λ e).length then partA P t (avsAt l i (Λ e) 0) o else none
    | _ => none
  | _ => none

def zeroA (t : TypeId) : Option (List AV) :=
  match P.info? t with
  | some i => match i.zero with
    | some z => some (z.cells.toList.map ofC)
    | none => none
  | none => none

def fillA (place : Nat → Option (Nat × Nat)) (cells : List AV) : List (Nat × AV) → Option (List AV)
  | [] => some cells
  | (i, v) :: rest => match place i with
    | none => none
    | some (off, size) => if v.known && (v.cells.length == size) && decide (off + size ≤ cells.length) then fillA place (cells.take off ++ v.cells ++ cells.drop (off + size)) rest else none

def buildA (t : TypeId) (parts : List (Nat × AV)) : Option AV :=
  match P.info? t, P.underlying t with
  | some it, some (.array _ e) =>
    match it.zero, P.info? e with
    | some z, some ie => (fillA (fun i => some (i * ie.size, ie.size)) (z.cells.toList.map ofC) parts).map .agg
    | _, _ => none
  | some it, some (.struct fields) =>
    match it.zero, fields.toList.mapM (fun f => (P.info? f.type).map fun i => (f.offset, i.size)) with
    | some z, some places => (fillA (places[·]?) (z.cells.toList.map ofC) parts).map .agg
    | _, _ => none
  | _, _ => none

def eqCell (t : TypeId) : AV → AV → Option Bool
  | .int k a, .int k' b => match P.underlying t with
    | some (.int _) => if k = k' then some (a == b) else none
    | _ => none
  | .bool a, .bool b => match P.underlying t with
    | some .bool => some (a == b)
    | _ => none
  | .str a, .str b => match P.underlying t with
    | some .string => some (a.toList == b.toList)
    | _ => none
  | _, _ => none

def eqFieldsA (xs ys : List AV) : List Field → Option Bool
  | [] => some true
  | f :: fs => if f.name == "_" then none else
    match isAggT P f.type, xs[f.offset]?, ys[f.offset]? with
    | some false, some a, some b => match eqCell P f.type a b, eqFieldsA xs ys fs with
      | some p, some q => some (p && q)
      | _, _ => none
    | _, _, _ => none

def eqA (h : Hp) (t : TypeId) : AV → AV → Option Bool
  | .agg xs, .agg ys => match P.underlying t with
    | some (.struct fs) => if P.stoodInHeld t || P.eqGuardType P.depth t then none else eqFieldsA P xs ys fs.toList
    | _ => none
  | .int k a, .int k' b => if k = k' then some (a == b) else none
  | .bool a, .bool b => match P.underlying t with
    | some .bool => some (a == b)
    | _ => none
  | .str a, .str b => some (a.toList == b.toList)
  | _, _ => none

def intA (op : BinOp) (i : IntKind) (a : Int) (j : IntKind) (b : Int) (k : AV → Option α) : Option α :=
  match op with
  | .shl => if 0 ≤ b then k (.int i (i.wrap (a * 2 ^ (min b.toNat i.bits)))) else none
  | .shr => if 0 ≤ b then k (.int i (a.fdiv (2 ^ (min b.toNat i.bits)))) else none
  | .add => if i = j then k (.int i (i.wrap (a + b))) else none
  | .sub => if i = j then k (.int i (i.wrap (a - b))) else none
  | .mul => if i = j then k (.int i (i.wrap (a * b))) else none
  | .quo => if i = j then (if b = 0 then none else k (.int i (i.wrap (a.tdiv b)))) else none
  | .rem => if i = j then (if b = 0 then none else k (.int i (a.tmod b))) else none
  | .lss => if i = j then k (.bool (decide (a < b))) else none
  | .leq => if i = j then k (.bool (decide (a ≤ b))) else none
  | .gtr => if i = j then k (.bool (decide (a > b))) else none
  | .geq => if i = j then k (.bool (decide (a ≥ b))) else none
  | _ => none

def strA (op : BinOp) (a b : ByteArray) (k : AV → Option α) : Option α :=
  match op with
  | .add => if ((a.size + b.size : Nat) : Int) > IntKind.i64.max then none else k (.str (a ++ b))
  | .lss => k (.bool (Op.bytesLess a.toList b.toList))
  | .leq => k (.bool (Op.bytesLess a.toList b.toList || a.toList == b.toList))
  | .gtr => k (.bool (!(Op.bytesLess a.toList b.toList || a.toList == b.toList)))
  | .geq => k (.bool (!Op.bytesLess a.toList b.toList))
  | _ => none

def binA (h : Hp) (op : BinOp) (t : TypeId) (x y : AV) (k : AV → Option α) : Option α :=
  match op with
  | .eql => match eqA P h t x y with | some b => k (.bool b) | none => none
  | .neq => match eqA P h t x y with | some b => k (.bool (!b)) | none => none
  | op => match x, y with
    | .int i a, .int j b => intA op i a j b k
    | .str a, .str b => strA op a b k
    | _, _ => none

def nilIfA (op : BinOp) (t : TypeId) (x : AV) (k : AV → Option α) : Option α :=
  match P.underlying t, op, x with
  | some (.interface _), .eql, .val .nilIface => k (.bool true)
  | some (.interface _), .eql, .ifc _ _ => k (.bool false)
  | some (.interface _), .neq, .val .nilIface => k (.bool false)
  | some (.interface _), .neq, .ifc _ _ => k (.bool true)
  | _, _, _ => none

def unA (op : UnOp) (x : AV) (k : AV → Option α) : Option α :=
  match op, x with
  | .neg, .int i n => k (.int i (i.wrap (0 - n)))
  | .not, .bool b => k (.bool (!b))
  | _, _ => none

def pickA (c a b : AV) (k : AV → Option α) : Option α :=
  match c with
  | .bool c => match c with
    | true => k a
    | false => k b
  | _ => none

def byteAt (s : ByteArray) (i : Int) : Int := ((s.data.toList.getD i.toNat 0).toNat : Int)

def bytesA : List AV → Option (List Int)
  | [] => some []
  | .int .u8 n :: l => (bytesA l).map (n :: ·)
  | _ :: _ => none
def bytesOf (l : List Int) : ByteArray := ⟨(l.map fun n => UInt8.ofNat n.toNat).toArray⟩

def convA (h : Hp) (src dst : TypeId) (x : AV) (k : AV → Option α) : Option α :=
  match P.underlying src, P.underlying dst, x with
  | some (.slice e), some .string, .sl b o n _ => match P.underlying e, h[b]? with
    | some (.int .u8), some (.cells _ c _) => if o + n ≤ c.length then (match bytesA ((c.drop o).take n) with | some l => k (.str (bytesOf l)) | none => none) else none
    | _, _ => none
  | some (.int _), some (.int j), .int i n => k (.int j (j.wrap n))
  | some .string, some .string, .str s => k (.str s)
  | some (.int _), some .string, .int _ n => k (.str (Utf8.encode n))
  | _, _, _ => none

def fieldAddrA (t : TypeId) (x : AV) (f : Nat) : Option AV :=
  match P.underlying t with
  | some (.struct fs) => match fs[f]? with
    | some q => match szT P q.type with
      | some n => if n = 0 then none else (match x with
        | .ptr b o => some (.ptr b (o + q.offset))
        | .sp e l i o => some (.sp e l i (o + q.offset))
        | .ep r v m i o => some (.ep r v m i (o + q.offset))
        | _ => none)
      | none => none
    | none => none
  | _ => none

def fieldA (t : TypeId) (x : AV) (f : Nat) : Option AV :=
  match P.underlying t, x with
  | some (.struct fs), .agg l => match fs[f]? with
    | some q => partA P q.type l q.offset
    | none => none
  | _, _ => none

def sliceStrA (s : ByteArray) (lo hi : AV) (k : AV → Option α) : Option α :=
  match lo, hi with
  | .int _ l, .int _ h => if 0 ≤ h ∧ h ≤ (s.size : Int) then (if 0 ≤ l ∧ l ≤ h then k (.str (s.extract l.toNat h.toNat)) else none) else none
  | _, _ => none

def sliceSeqA (t : Nat) (s : List (List D)) (lo hi : AV) (k : AV → Option α) : Option α :=
  match lo, hi with
  | .int _ l, .int _ h => if 0 ≤ h ∧ h ≤ (s.length : Int) then (if 0 ≤ l ∧ l ≤ h then k (.seq t ((s.take h.toNat).drop l.toNat)) else none) else none
  | _, _ => none

def lenA (h : Hp) : AV → Option Nat
  | .sl _ _ n _ => some n
  | .val (.slice _ n _) => some n
  | .seq _ l => some l.length
  | .rs r q => match h[r]? with
    | some (.row _ v _ l) => if q = v then some l.length else none
    | some (.froz _ v l) => if q = v then some l.length else none
    | some (.bytes _ v s _) => if q = v then some s.size else none
    | some (.trow _ v l) => if q = v then some l.length else none
    | _ => none
  | _ => none

def builtinA (h : Hp) (b : Builtin) (argTypes : Array TypeId) (args : List AV) (k : AV → Option α) : Option α :=
  match b, args with
  | .len, [.str s] => match (argTypes[0]?).bind P.underlying with
    | some .string => k (.int .i64 s.size)
    | _ => none
  | .len, [x] => match (argTypes[0]?).bind P.underlying with
    | some (.slice _) => match lenA h x with
      | some n => k (.int .i64 n)
      | none => none
    | _ => none
  | .min, [.int i x, .int j y] => k (.int i (if y < x then y else x))
  | .max, [.int i x, .int j y] => k (.int i (if y > x then y else x))
  | .unsafeSliceData, [.val (.slice none 0 0)] => k (.val (.pointer none))
  | .unsafeSliceData, [.rs r q] => match h[r]? with
    | some (.bytes _ v _ _) => if q = v then k (.sd r q) else none
    | _ => none
  | _, _ => none

def pickN (j : Int) (k : Nat → Option α) : Nat → Option α
  | 0 => none
  | n + 1 => if j = (n : Int) then k n else pickN j k n

def indexAddrA (h : Hp) (t : TypeId) (x i : AV) (k : AV → Option α) : Option α :=
  match P.underlying t, i with
  | some (.slice e), .int _ j => match szT P e with
    | some z => (match x with
      | .sl b o n _ => pickN j (fun m => k (.ptr b (o + m * z))) n
      | .seq t l => if z = (Λ t).length then (if 0 ≤ j ∧ j < (l.length : Int) then k (.sp t l j.toNat 0) else none) else none
      | .rs r q => match h[r]? with
        | some (.row t v _ l) => if q = v ∧ z = (Λ t).length then (if 0 ≤ j ∧ j < (l.length : Int) then k (.ep r v z j.toNat 0) else none) else none
        | some (.froz t v l) => if q = v ∧ z = (Λ t).length then (if 0 ≤ j ∧ j < (l.length : Int) then k (.sp t l j.toNat 0) else none) else none
        | some (.trow t v l) => if q = v ∧ z = (Λ t).length then (if 0 ≤ j ∧ j < (l.length : Int) then k (.ep r v z j.toNat 0) else none) else none
        | _ => none
      | _ => none)
    | none => none
  | some (.array n e), .int _ j => match szT P e, x with
    | some z, .ptr b o => pickN j (fun m => k (.ptr b (o + m * z))) n
    | _, _ => none
  | _, _ => none

def callQ (h : Hp) (args : List AV) (f : Nat) : Option (Option Out) :=
  match Γ.lookup f with
  | some ce => match argsA Λ h ce.ks args with
    | some (as, S) => (match S with
      | [] => (match ce.mode with | .own => none | _ => some (ce.tells as))
      | _ :: _ => (match ce.mode with | .flat => some (ce.tells as) | _ => none))
    | none => none
  | none => none
def okRet (Γ : List (Nat × CE)) (f : Nat) (v : AV) : Bool :=
  match Γ.lookup f with
  | some ce => (match ce.mode with | .flat => v.flat | _ => true)
  | none => false

def quietA (fr : Fr) (h : Hp) (op : Op) (k : AV → Option α) : Option α :=
  match op with
  | .move x => k (ev gl fr x)
  | .assign x => k (ev gl fr x)
  | .pick c a b => pickA (ev gl fr c) (ev gl fr a) (ev gl fr b) k
  | .build t parts => match buildA P t (parts.toList.map fun p => (p.1, ev gl fr p.2)) with | some v => k v | none => none
  | .load t p => match loadA P Λ h t (ev gl fr p) with | some v => k v | none => none
  | .nilCheck x => match ev gl fr x with
    | .ptr b o => k (.ptr b o)
    | .sp t l i o => k (.sp t l i o)
    | .ep r v m i o => k (.ep r v m i o)
    | .fn f a c => k (.fn f a c)
    | _ => none
  | .binOp o t x (.const .nilIface) _ => nilIfA P o t (ev gl fr x) k
  | .binOp o t x y _ => binA P h o t (ev gl fr x) (ev gl fr y) k
  | .unOp o _ x => unA o (ev gl fr x) k
  | .convert s d x => convA P h s d (ev gl fr x) k
  | .fieldAddr t x f => match fieldAddrA P t (ev gl fr x) f with | some v => k v | none => none
  | .indexAddr t x i => indexAddrA P Λ h t (ev gl fr x) (ev gl fr i) k
  | .field t x f => match fieldA P t (ev gl fr x) f with | some v => k v | none => none
  | .index t x i => match P.underlying t, ev gl fr x, ev gl fr i with
    | some .string, .str s, .int _ n => if 0 ≤ n ∧ n < (s.size : Int) then k (.int .u8 (byteAt s n)) else none
    | _, _, _ => none
  | .slice t x lo hi mx => match P.underlying t, ev gl fr x, mx with
    | some .string, .str s, none => sliceStrA s (match lo with | some l => ev gl fr l | none => .int .i64 0) (match hi with | some l => ev gl fr l | none => .int .i64 s.size) k
    | some (.slice e), .seq t' l, none => if szT P e = some (Λ t').length then sliceSeqA t' l (match lo with | some l => ev gl fr l | none => .int .i64 0) (match hi with | some l => ev gl fr l | none => .int .i64 l.length) k else none
    | _, _, _ => none
  | .extract x i => match ev gl fr x with
    | .tup l => match l[i]? with | some v => k v | none => none
    | _ => none
  | .makeInterface t x => match P.underlying t with
    | some (.interface _) => none
    | some _ => k (.ifc t (ev gl fr x))
    | none => none
  | .typeAssert x _ t true => match P.underlying t, ev gl fr x with
    | some (.interface _), _ => none
    | some _, .ifc u a => if u = t then k (.tup [a, .bool true]) else none
    | _, _ => none
  | .makeFunc (.func f) first cap => k (.fn f (first.toList.map (ev gl fr)) (cap.toList.map (ev gl fr)))
  | .call c => match c.callee with
    | .builtin b => builtinA P h b c.argTypes (c.args.toList.map (ev gl fr)) k
    | .value x => match ev gl fr x with
      | .fn f first cap => match callQ Λ Γ h (first ++ c.args.toList.map (ev gl fr) ++ cap) f with
        | some (some (.mk _ x _ sel _)) => x.bind fun r => sel α r fun res => match res with
          | .ret v => if okRet Γ f v then k v else none
          | .pan _ => none
        | _ => none
      | _ => none
    | _ => none
  | _ => none

def rowA (t : TypeId) (len : Nat) (parts : List (Nat × AV)) : Option (TypeId × List AV) :=
  match P.underlying t with
  | some (.slice e) => match P.info? e with
    | some ie => match ie.zero with
      | some z => if ie.size = z.cells.size ∧ 0 < ie.size ∧ len * ie.size ≤ 16777216 then
          (fillA (fun i => some (i * ie.size, ie.size)) (List.replicate len (z.cells.toList.map ofC)).flatten parts).map fun l => (e, l)
        else none
      | none => none
    | none => none
  | _ => none

def lastSeq (ks : List CK) : Bool := match ks.getLast? with
  | some (.seq _) => true
  | _ => false
theorem lastSeq_is {ks : List CK} (h : lastSeq ks = true) : ∃ t, ks.getLast? = some (.seq t) := by
  unfold lastSeq at h
  split at h
  · rename_i t e; exact ⟨t, e⟩
  · cases h
def isNilC : Option AV → Bool
  | some (.val (.slice none 0 0)) => true
  | _ => false
def storeA (h : Hp) (t : TypeId) (p v : AV) : Option (Nat × Blk × List Nat) :=
  match p with
  | .ptr b o => match h[b]?, szT P t with
    | some (.cells e cs .own), some n => if v.known && (v.cells.length == n) && decide (o + n ≤ cs.length) then some (b, .cells e (cs.take o ++ v.cells ++ cs.drop (o + n)) .own, []) else none
    | _, _ => none
  | .ep r q m i o => match h[r]?, szT P t with
    | some (.row e ver nb l), some n => if q = ver ∧ m = (Λ e).length ∧ v.known = true ∧ v.cells.length = n ∧ o + n ≤ m then
        match cellsD (asD Λ h 4) (((Λ e).drop o).take n) v.cells with
        | some (ds, S) => if S.contains r then none else some (r, .row e ver nb (l.set i ((atsRow l i 0 m).take o ++ ds ++ (atsRow l i 0 m).drop (o + n))), S)
        | none => none
      else none
    | some (.trow e ver l), some n => if q = ver ∧ m = (Λ e).length ∧ v.known = true ∧ v.cells.length = n ∧ o + n < m then
        match cellsD (asD Λ h 4) (((Λ e).drop o).take n) v.cells with
        | some (ds, []) => some (r, .trow e ver (l.set i ((atsRow l i 0 m).take o ++ ds ++ (atsRow l i 0 m).drop (o + n))), [])
        | _ => none
      else if q = ver ∧ m = (Λ e).length ∧ v.known = true ∧ v.cells.length = n ∧ o = 0 ∧ n = m ∧ lastSeq (Λ e) = true ∧ isNilC (v.cells[m - 1]?) = true then
        match cellsD (asD Λ h 4) (Λ e) v.cells with
        | some (ds, S) => if S.contains r then none else some (r, .trow e ver (l.set i ds), S)
        | none => none
      else none
    | _, _ => none
  | _ => none

def srcA (h : Hp) (t : Nat) (x : AV) : Option (List (List D) × List Nat) :=
  match asD Λ h 4 (.seq t) x with
  | some (.seq l, S) => some (l, S)
  | _ => none

def baseA (h : Hp) (e : TypeId) : AV → Option (Hp × Nat × Nat × Bool × List (List D))
  | .val (.slice none 0 0) => some (h ++ [.row e 0 true []], h.length, 0, true, [])
  | .rs r q => match h[r]? with
    | some (.row t v nb l) => if q = v ∧ t = e then some (h, r, v, nb, l) else none
    | _ => none
  | _ => none

def appendA (fr : Fr) (h : Hp) (c : Call) (dst : Option Tmp) (k : Fr → Hp → Option α) : Option α :=
  match c.args.toList with
  | [s, x] =>
    match (c.argTypes[0]?).bind P.underlying with
    | some (.slice e) =>
      match P.info? e with
      | some ie =>
        if c.argTypes[1]? = c.argTypes[0]? ∧ ie.size = (Λ e).length ∧ 0 < ie.size ∧ ie.zero.any (fun z => z.cells.size == ie.size) = true ∧ 0 < ie.bytes ∧ ie.bytes ≤ 4096 then
          match srcA Λ h e (ev gl fr x), baseA h e (ev gl fr s) with
          | some (m, S), some (h', r, v, nb, l) =>
            if S.contains r then none else
            if l.length + m.length ≤ 1073741824 then
              forceH ((frzA h' S).set r (.row e (v + 1) nb (l ++ m))) fun h => forceL (putA fr dst (.rs r (v + 1))) fun fr => k fr h
            else none
          | _, _ => none
        else none
      | none => none
    | _ => none
  | _ => none

def lastNil (h : Hp) (z : Nat) : AV → Bool
  | .sl b o 1 _ => match h[b]? with
    | some (.cells _ cs _) => (match cs[o + (z - 1)]? with
      | some (.val (.slice none 0 0)) => true
      | _ => false)
    | _ => false
  | _ => false
def appendT (fr : Fr) (h : Hp) (c : Call) (dst : Option Tmp) (k : Fr → Hp → Option α) : Option (Option α) :=
  match c.args.toList with
  | [s, x] => match ev gl fr s with
    | .rs r q => match h[r]? with
      | some (.trow e v l) => match (c.argTypes[0]?).bind P.underlying with
        | some (.slice e') => match P.info? e' with
          | some ie =>
            if e = e' ∧ q = v ∧ c.argTypes[1]? = c.argTypes[0]? ∧ ie.size = (Λ e').length ∧ 0 < ie.size ∧ ie.zero.any (fun z => z.cells.size == ie.size) = true ∧ ie.bytes ≤ 4096 ∧ lastNil h ie.size (ev gl fr x) = true ∧ lastSeq (Λ e') = true then
              match srcA Λ h e' (ev gl fr x) with
              | some (m, S) => some (if m.length = 1 ∧ S.contains r = false then (if l.length ≤ 1073741823 then forceH ((frzA h S).set r (.trow e (v + 1) (l ++ m))) fun h' => forceL (putA fr dst (.rs r (v + 1))) fun fr => k fr h' else none) else none)
              | none => none
            else none
          | none => none
        | _ => none
      | _ => none
    | _ => none
  | _ => none

def byteT (ie : TypeInfo) : Bool := ie.size == 1 && ie.bytes == 1 && (match ie.zero with
  | some (.int .u8 0) => true
  | _ => false)
def appStrA (fr : Fr) (h : Hp) (c : Call) (dst : Option Tmp) (k : Fr → Hp → Option α) : Option (Option α) :=
  match c.args.toList with
  | [s, x] => match ev gl fr x with
    | .str t => match (c.argTypes[0]?).bind P.underlying, (c.argTypes[1]?).bind P.underlying with
      | some (.slice e), some .string => match P.info? e with
        | some ie => match byteT ie with
          | true => match ev gl fr s with
            | .val (.slice none 0 0) => some (if t.size ≤ 140737488355328 then forceH (h ++ [.bytes e 0 t false]) fun h' => forceL (putA fr dst (.rs h.length 0)) fun fr => k fr h' else none)
            | .rs r q => match h[r]? with
              | some (.bytes e' v b false) => some (if q = v ∧ e' = e ∧ b.size + t.size ≤ 140737488355328 then forceH (h.set r (.bytes e (v + 1) (b ++ t) false)) fun h' => forceL (putA fr dst (.rs r (v + 1))) fun fr => k fr h' else none)
              | _ => none
            | _ => none
          | false => none
        | none => none
      | _, _ => none
    | _ => none
  | _ => none
def ustrA (fr : Fr) (h : Hp) (c : Call) (dst : Option Tmp) (k : Fr → Hp → Option α) : Option α :=
  match c.args.toList with
  | [p, n] => match c.argTypes.toList with
   | [t0, _] => match P.underlying t0 with
    | some (.pointer pe) => match ev gl fr p, ev gl fr n with
      | .sd r q, .int .i64 m => match h[r]? with
        | some (.bytes e v b fz) => match P.info? e with
          | some ie => if q = v ∧ e = pe ∧ ie.size = 1 ∧ m = (b.size : Int) ∧ b.size ≤ 140737488355328 then forceH (h.set r (.bytes e v b true)) fun h' => forceL (putA fr dst (.str b)) fun fr => k fr h' else none
          | none => none
        | _ => none
      | .val (.pointer none), .int .i64 0 => forceL (putA fr dst (.str ⟨#[]⟩)) fun fr => k fr h
      | _, _ => none
    | _ => none
   | _ => none
  | _ => none

def doA (inl : Nat → List AV → Hp → (Res → Hp → Option α) → Option α) (fr : Fr) (h : Hp) (o : Oper) (k : Fr → Hp → Option α) (kp : Value → Fr → Hp → Option α) : Option α :=
  match o.op with
  | .alloc t => match zeroA P t with
    | some z => forceC z fun z => forceL (putA fr o.dst (.ptr h.length 0)) fun fr => forceL (h ++ [.cells t z .own]) fun h => k fr h
    | none => none
  | .box t x => if (ev gl fr x).known then forceC (ev gl fr x).cells fun z => forceL (putA fr o.dst (.ptr h.length 0)) fun fr => forceL (h ++ [.cells t z .own]) fun h => k fr h else none
  | .buildSlice t len parts => match rowA P t len (parts.toList.map fun p => (p.1, ev gl fr p.2)) with
    | some (e, l) => forceC l fun l => forceL (putA fr o.dst (.sl h.length 0 len len)) fun fr => forceL (h ++ [.cells e l .own]) fun h => k fr h
    | none => none
  | .store t p x => match storeA P Λ h t (ev gl fr p) (ev gl fr x) with
    | some (b, c, S) => forceB c fun c => forceH ((frzA h S).set b c) fun h => forceL (putA fr o.dst .junk) fun fr => k fr h
    | none => none
  | .call c => match c.callee with
    | .builtin .append => (match appStrA P gl fr h c o.dst k with
      | some x => x
      | none => (match appendT P Λ gl fr h c o.dst k with
        | some x => x
        | none => appendA P Λ gl fr h c o.dst k))
    | .builtin .unsafeString => ustrA P gl fr h c o.dst k
    | .builtin b => quietA P Λ Γ gl fr h (.call c) (fun v => headK v fun v => forceL (putA fr o.dst v) fun fr => k fr h)
    | .value x => match ev gl fr x with
      | .fn f first cap => match Γ.lookup f with
        | none => inl f (first ++ c.args.toList.map (ev gl fr) ++ cap) h fun e h' => if h.length ≤ h'.length then (match e with
          | .ret v => headK v fun v => forceL (putA fr o.dst v) fun fr => k fr h'
          | .pan v => kp v fr h') else none
        | some ce => match argsA Λ h ce.ks (first ++ c.args.toList.map (ev gl fr) ++ cap) with
          | some (as, S) => match ce.tells as with
            | some (.mk _ x _ sel _) => x.bind fun r => sel α r fun res => match res with
              | .pan v => kp v fr h
              | .ret v => (match ce.mode with
                | .flat => if v.flat then headK v fun v => forceL (putA fr o.dst v) fun fr => k fr h else none
                | .froz => forceH (frzA h S) fun h => headK v fun v => forceL (putA fr o.dst v) fun fr => k fr h
                | .own => none)
            | none => none
          | none => none
      | _ => none
    | _ => none
  | .panic x => match ev gl fr x with
    | .ifc t (.agg []) => kp (.iface t (.agg #[])) fr h
    | _ => none
  | .range t x => match P.underlying t, ev gl fr x with
    | some .string, .str s => forceL (putA fr o.dst (.ptr h.length 0)) fun fr => forceH (h ++ [.iter s 0]) fun h => k fr h
    | _, _ => none
  | .next it true => match ev gl fr it with
    | .ptr b 0 => match h[b]? with
      | some (.iter s pos) => if pos < s.size then
          forceL (putA fr o.dst (.tup [.bool true, .int .i64 pos, .int .i32 (Utf8.decode s pos).1])) fun fr => forceH (h.set b (.iter s (pos + (Utf8.decode s pos).2))) fun h => k fr h
        else forceL (putA fr o.dst (.tup [.bool false])) fun fr => k fr h
      | _ => none
    | _ => none
  | .slice t x none (some hi) none => match ev gl fr x, ev gl fr hi with
    | .rs r q, .int _ m => (match P.underlying t, h[r]? with
      | some (.slice e), some (.row e' v _ l) => if q = v ∧ e = e' ∧ szT P e = some (Λ e).length ∧ 0 ≤ m ∧ m ≤ (l.length : Int) then forceH (h.set r (.row e' (v + 1) false (l.take m.toNat))) fun h => forceL (putA fr o.dst (.rs r (v + 1))) fun fr => k fr h else none
      | some (.slice e), some (.trow e' v l) => if q = v ∧ e = e' ∧ szT P e = some (Λ e).length ∧ 0 ≤ m ∧ m ≤ (l.length : Int) then forceH (h.set r (.trow e' (v + 1) (l.take m.toNat))) fun h => forceL (putA fr o.dst (.rs r (v + 1))) fun fr => k fr h else none
      | _, _ => none)
    | _, _ => quietA P Λ Γ gl fr h (.slice t x none (some hi) none) (fun v => headK v fun v => forceL (putA fr o.dst v) fun fr => k fr h)
  | op => quietA P Λ Γ gl fr h op (fun v => headK v fun v => forceL (putA fr o.dst v) fun fr => k fr h)

def guardA (ops : List Oper) (fr : Fr) (o : Oper) (yes no : Fr → Option α) : Option α :=
  match o.guard with
  | none => yes fr
  | some (j, want) => match (ops[j]?).bind (·.dst) with
    | none => none
    | some t => match fr.getD t .junk with
      | .bool b => match b with
        | true => forceL (fr.set t (.bool true)) fun fr => match want with | true => yes fr | false => no fr
        | false => forceL (fr.set t (.bool false)) fun fr => match want with | true => no fr | false => yes fr
      | .tup _ => no fr
      | _ => none

def kindA (fr : Fr) (h : Hp) (op : Op) : Nat :=
  match op with
  | .alloc _ => 1
  | .box _ _ => 1
  | .buildSlice _ _ _ => 1
  | .store _ _ _ => 2
  | .range _ _ => 1
  | .next _ _ => 2
  | .panic _ => 2
  | .call c => match c.callee with
    | .builtin .append => 2
    | .builtin .unsafeString => 2
    | .builtin _ => 0
    | .value x => match ev gl fr x with
      | .fn f first cap => match Γ.lookup f with
        | none => 2
        | some ce => match argsA Λ h ce.ks (first ++ c.args.toList.map (ev gl fr) ++ cap) with
          | some (_, S) => (match S with
            | [] => (match ce.mode with | .own => 2 | _ => 0)
            | _ :: _ => (match ce.mode with | .flat => 0 | _ => 2))
          | none => 0
      | _ => 0
    | _ => 0
  | .slice _ x none (some _) none => match ev gl fr x with
    | .rs _ _ => 2
    | _ => 0
  | _ => 0
def readsM : Op → Bool
  | .load _ _ => true
  | .convert _ _ _ => true
  | .indexAddr _ _ _ => true
  | .call _ => true
  | _ => false

def opsA (inl : Nat → List AV → Hp → (Res → Hp → Option α) → Option α) (ops : List Oper) : List Oper → Fr → Hp → (Exit → Fr → Hp → Option α) → Option α
  | [], fr, h, k => k .normal fr h
  | o :: rest, fr, h, k => guardA ops fr o
      (fun fr => doA P Λ Γ gl inl fr h o (fun fr h => opsA inl ops rest fr h k) (fun v fr h => k (.panic [{ v, recovered := false }]) fr h))
      (fun fr => forceL (putA fr o.dst (.tup [])) fun fr => opsA inl ops rest fr h k)

def looks (ops : List Oper) (o : Oper) : List Tmp :=
  (o.op.operands.toList.filterMap fun | .tmp t => some t | _ => none) ++
  (match o.guard with
   | some (j, _) => ((ops[j]?).bind (·.dst)).toList
   | none => [])

def reachB (ops : List Oper) : Nat → Nat → Nat → Bool
  | 0, i, j => (ops[i]?).any fun o => o.after.toList.any fun e => Region.binds .any e && e.on == j
  | n + 1, i, j => (ops[i]?).any fun o => o.after.toList.any fun e => Region.binds .any e && (e.on == j || reachB ops n e.on j)

def orderly (ops : List Oper) (ks : List Nat) : Bool :=
  ops.zipIdx.all fun (o, i) =>
    (o.after.toList.all fun e => !Region.binds .any e || decide (e.on < i)) &&
    (ops.zipIdx.all fun (p, j) => !(ks.getD i 0 != 0 && ks.getD j 0 != 0 || readsM o.op && ks.getD j 0 == 2 || ks.getD i 0 == 2 && readsM p.op) || decide (i ≤ j) || reachB ops 5 i j) &&
    (ops.zipIdx.all fun (p, j) => match p.dst with
      | none => true
      | some t => (i == j || o.dst != some t) && (!(looks ops o).contains t || (decide (j < i) && reachB ops 5 i j) || (decide (i < j) && reachB ops 5 j i)))

def opsQ (inl : Nat → List AV → Hp → (Res → Hp → Option α) → Option α) (ops : List Oper) : List Oper → List Nat → Fr → Hp → (Fr → Hp → Option α) → Option α
  | [], ks, fr, h, k => if orderly ops ks then k fr h else none
  | o :: rest, ks, fr, h, k => guardA ops fr o
      (fun fr => match kindA Λ Γ gl fr h o.op with
        | 0 => quietA P Λ Γ gl fr h o.op (fun v => headK v fun v => forceL (putA fr o.dst v) fun fr => opsQ inl ops rest (ks ++ [0]) fr h k)
        | 1 => doA P Λ Γ gl inl fr h o (fun fr h => opsQ inl ops rest (ks ++ [1]) fr h k) (fun _ _ _ => none)
        | _ => doA P Λ Γ gl inl fr h o (fun fr h => opsQ inl ops rest (ks ++ [2]) fr h k) (fun _ _ _ => none))
      (fun fr => forceL (putA fr o.dst (.tup [])) fun fr => opsQ inl ops rest (ks ++ [0]) fr h k)

def drops (fr : Fr) : List Nat → Fr
  | [] => fr
  | t :: l => drops (fr.set t .junk) l
def dropsR (J : List (Nat × List Nat)) (id : Nat) (fr : Fr) : Fr := match J.lookup id with | some l => drops fr l | none => fr

def fixB (J : List (Nat × List Nat)) (fr : Fr) (c : Operand) (b : Bool) : Fr := match c with
  | .tmp i => match J.lookup (1000000 + i) with
    | some l => drops fr l
    | none => fr.set i (.bool b)
  | _ => fr

def loopKey : Code → Nat
  | .region id _ _ => id
  | .seq a b => match loopKey a with | 0 => loopKey b | n => n
  | .cond _ a b => match loopKey a with | 0 => loopKey b | n => n
  | .block _ c => loopKey c
  | .loop c => loopKey c
  | _ => 0

def loopA (step : Fr → Hp → (Exit → Fr → Hp → Option α) → Option α) : Nat → Fr → Hp → (Exit → Fr → Hp → Option α) → Option α
  | 0, _, _, _ => none
  | n + 1, fr, h, k => step fr h fun e fr' h' => match e with
    | .normal => loopA step n fr' h' k
    | e => k e fr' h'

def execA (inl : Nat → List AV → Hp → (Res → Hp → Option α) → Option α) (C : Cfg) (n0 : Nat) : Code → Fr → Hp → (Exit → Fr → Hp → Option α) → Option α
  | .skip, fr, h, k => k .normal fr h
  | .region id ops draw, fr, h, k =>
    match draw with
    | false => opsA P Λ Γ gl inl ops.toList ops.toList fr h (fun e fr h => match e with
      | .normal => forceL (dropsR C.J id fr) fun fr => k .normal fr h
      | e => k e fr h)
    | true => opsQ P Λ Γ gl inl ops.toList ops.toList [] fr h (fun fr h => forceL (dropsR C.J id fr) fun fr => k .normal fr h)
  | .seq a b, fr, h, k => execA inl C n0 a fr h fun e fr h => match e with
    | .normal => execA inl C n0 b fr h k
    | e => k e fr h
  | .cond c a b, fr, h, k => match ev gl fr c with
    | .bool t => match t with
      | true => forceL (fixB C.J fr c true) fun fr => execA inl C n0 a fr h k
      | false => forceL (fixB C.J fr c false) fun fr => execA inl C n0 b fr h k
    | _ => none
  | .block id c, fr, h, k => execA inl C n0 c fr h fun e fr h => match e with
    | .exit i => if i = id then k .normal fr h else k (.exit i) fr h
    | e => k e fr h
  | .loop c, fr, h, k => match C.LS.lookup (loopKey c) with
    | some (n, s) => if n0 ≤ n then (match s fr h with
      | some (.mk _ x _ sel _) => x.bind fun t => sel α t fun e fr h => forceL fr fun fr => forceH h fun h => k e fr h
      | none => none) else none
    | none => loopA (fun fr h k => execA inl C n0 c fr h k) C.rounds fr h k
  | .exit i, fr, h, k => k (.exit i) fr h
  | .label _, fr, h, k => k .normal fr h
  | .ret, fr, h, k => k .ret fr h
  | _, _, _, _ => none

def resA (fr : Fr) (h : Hp) : List ResultVar → Option (List AV)
  | [] => some []
  | .tmp t :: rs => (resA fr h rs).map (fr.getD t .junk :: ·)
  | .cell p t :: rs => match loadA P Λ h t (fr.getD p .junk), resA fr h rs with
    | some v, some l => some (v :: l)
    | _, _ => none

def oneA : List AV → AV
  | [v] => v
  | l => .tup l

def bodyA (inl : Nat → List AV → Hp → (Res → Hp → Option α) → Option α) (C : Cfg) (fn : Func) (args : List AV) (h : Hp) (k : Res → Hp → Option α) : Option α :=
  match fn.body with
  | some c => forceL (args ++ List.replicate (fn.ntmps - args.length) .junk) fun fr => execA P Λ Γ gl inl C h.length c fr h fun e fr h => match e with
    | .normal => match resA P Λ fr h fn.results.toList with
      | some l => k (.ret (oneA l)) h
      | none => none
    | .ret => match resA P Λ fr h fn.results.toList with
      | some l => k (.ret (oneA l)) h
      | none => none
    | .panic [e] => (match e with
      | { v := v, recovered := false, goexit := false } => k (.pan v) h
      | _ => none)
    | _ => none
  | none => none

theorem both_ex : ∃ f : (β : Type) → Option β → Option β → Option β, (∀ β x, f β x x = x) ∧ ∀ β x y r, f β x y = some r → x = some r ∧ y = some r := by
  classical
  refine ⟨fun β x y => if x = y then x else none, fun β x => if_pos rfl, fun β x y r h => ?_⟩
  dsimp only at h
  split at h
  · rename_i e; exact ⟨h, e ▸ h⟩
  · cases h
noncomputable def both : (β : Type) → Option β → Option β → Option β := Classical.choose both_ex
theorem both_same {β : Type} (x : Option β) : both β x x = x := (Classical.choose_spec both_ex).1 β x
theorem both_spec {β : Type} {x y : Option β} {r : β} (h : both β x y = some r) : x = some r ∧ y = some r := (Classical.choose_spec both_ex).2 β x y r h

def coinA : List Oper → Option (Tmp × Tmp)
  | [o0, o1, o2, o3] => match o0.op, o0.dst, o1.op, o2.op, o3.op, o3.dst with
    | .alloc T, some t, .store T1 (.tmp t1) (.const (.bool true)), .store T2 (.tmp t2) (.const (.bool false)), .load T3 (.tmp t3), some d =>
      if (T = T1 ∧ T = T2 ∧ T = T3 ∧ t1 = t ∧ t2 = t ∧ t3 = t ∧ d ≠ t ∧ o1.dst = none ∧ o2.dst = none) ∧ (o0.guard.isNone && o1.guard.isNone && o2.guard.isNone && o3.guard.isNone) = true ∧
        (match P.underlying T with | some .bool => true | _ => false) = true ∧ (match P.info? T with | some i => i.size == 1 && (match i.zero with | some (.bool false) => true | _ => false) | none => false) = true ∧
        (o0.after.toList.all fun e => !Region.binds .any e) = true ∧
        (o1.after.toList.any fun e => e.on == 0 && Region.binds .any e) = true ∧ (o1.after.toList.all fun e => !Region.binds .any e || e.on == 0) = true ∧
        (o2.after.toList.any fun e => e.on == 0 && Region.binds .any e) = true ∧ (o2.after.toList.all fun e => !Region.binds .any e || e.on == 0) = true ∧
        (o3.after.toList.any fun e => e.on == 1 && Region.binds .any e) = true ∧ (o3.after.toList.any fun e => e.on == 2 && Region.binds .any e) = true ∧
        (o3.after.toList.all fun e => !Region.binds .any e || decide (e.on < 3)) = true then some (t, d) else none
    | _, _, _, _, _, _ => none
  | _ => none

noncomputable def bothM (f : Nat → Option α) : List Nat → Option α
  | [] => none
  | [i] => f i
  | i :: is => both α (f i) (bothM f is)
noncomputable def opsX (inl : Nat → List AV → Hp → (Res → Hp → Option α) → Option α) (ops : Array Oper) : Nat → Array Bool → Fr → Hp → (Fr → Hp → Option α) → Option α
  | 0, listed, fr, h, k => match Region.ready .any ops listed with
    | [] => k fr h
    | _ => none
  | n + 1, listed, fr, h, k => match Region.ready .any ops listed with
    | [] => k fr h
    | i :: is => bothM (fun i => match ops[i]? with
      | none => none
      | some o => guardA ops.toList fr o
        (fun fr => doA P Λ Γ gl inl fr h o (fun fr h => opsX inl ops n (listed.setIfInBounds i true) fr h k) (fun _ _ _ => none))
        (fun fr => forceL (putA fr o.dst (.tup [])) fun fr => opsX inl ops n (listed.setIfInBounds i true) fr h k)) (i :: is)
def lateB (ops : List Oper) (m : Nat) : Bool := ops.zipIdx.all fun (o, j) => decide (j < m) || (List.range m).all fun i => o.after.toList.any fun e => Region.binds .any e && e.on == i
noncomputable def opsH (inl : Nat → List AV → Hp → (Res → Hp → Option α) → Option α) (ops : Array Oper) (m : Nat) (fr : Fr) (h : Hp) (k : Fr → Hp → Option α) : Option α :=
  match decide (m ≤ ops.size) && lateB ops.toList m with
  | true => opsQ P Λ Γ gl inl (ops.toList.take m) (ops.toList.take m) [] fr h fun fr h => opsX P Λ Γ gl inl ops (ops.size - m) ((List.replicate m true ++ List.replicate (ops.size - m) false).toArray) fr h k
  | false => none
def coinReg : Code → Option (Tmp × Tmp)
  | .region _ ops true => coinA P ops.toList
  | _ => none
def isCondOf (d : Tmp) : Code → Bool
  | .cond (.tmp d') _ _ => d == d'
  | _ => false
noncomputable def execC (inl : Nat → List AV → Hp → (Res → Hp → Option α) → Option α) (C : Cfg) (n0 : Nat) : Code → Option Tmp → Fr → Hp → (Exit → Fr → Hp → Option α) → Option α
  | .seq a b, fl, fr, h, k => match fl with
    | some _ => none
    | none =>
      match (match coinReg P a with
        | some (t, d) => if t < fr.length ∧ d < fr.length ∧ isCondOf d b = true then some (t, d) else none
        | none => none) with
      | some (t, d) => forceL ((fr.set t .junk).set d .junk) fun fr => execC inl C n0 b (some d) fr (h ++ [.gone]) k
      | none => execC inl C n0 a none fr h fun e fr h => match e with
        | .normal => execC inl C n0 b none fr h k
        | e => k e fr h
  | .cond c a b, fl, fr, h, k => match fl with
    | some d => (match c with
      | .tmp d' => if d = d' then both α (execC inl C n0 a none fr h k) (execC inl C n0 b none fr h k) else none
      | _ => none)
    | none => match ev gl fr c with
      | .bool t => match t with
        | true => forceL (fixB C.J fr c true) fun fr => execC inl C n0 a none fr h k
        | false => forceL (fixB C.J fr c false) fun fr => execC inl C n0 b none fr h k
      | _ => none
  | .block id c, fl, fr, h, k => match fl with
    | some _ => none
    | none => execC inl C n0 c none fr h fun e fr h => match e with
      | .exit i => if i = id then k .normal fr h else k (.exit i) fr h
      | e => k e fr h
  | .region id ops draw, fl, fr, h, k => match fl with
    | some _ => none
    | none => match draw && (C.J.lookup (2000000 + id)).isSome with
      | true => (match C.J.lookup (2000000 + id) with
        | some (m :: _) => opsH P Λ Γ gl inl ops m fr h fun fr h => forceL (dropsR C.J id fr) fun fr => k .normal fr h
        | _ => opsX P Λ Γ gl inl ops ops.size (Array.replicate ops.size false) fr h fun fr h => forceL (dropsR C.J id fr) fun fr => k .normal fr h)
      | false => execA P Λ Γ gl inl C n0 (.region id ops draw) fr h k
  | c, fl, fr, h, k => match fl with
    | some _ => none
    | none => execA P Λ Γ gl inl C n0 c fr h k

noncomputable def bodyC (inl : Nat → List AV → Hp → (Res → Hp → Option α) → Option α) (C : Cfg) (fn : Func) (args : List AV) (h : Hp) (k : Res → Hp → Option α) : Option α :=
  match fn.body with
  | some c => forceL (args ++ List.replicate (fn.ntmps - args.length) .junk) fun fr => execC P Λ Γ gl inl C h.length c none fr h fun e fr h => match e with
    | .normal => match resA P Λ fr h fn.results.toList with
      | some l => k (.ret (oneA l)) h
      | none => none
    | .ret => match resA P Λ fr h fn.results.toList with
      | some l => k (.ret (oneA l)) h
      | none => none
    | .panic [e] => (match e with
      | { v := v, recovered := false, goexit := false } => k (.pan v) h
      | _ => none)
    | _ => none
  | none => none

def inlA (IN : List (Nat × Func × Cfg)) : Nat → Nat → List AV → Hp → (Res → Hp → Option α) → Option α
  | 0, _, _, _, _ => none
  | d + 1, f, args, h, k => match IN.lookup f with
    | some (fn, C) => (match C.mem with
      | some S => (match S args h with
        | some (.mk _ x _ sel _) => x.bind fun t => sel α t fun r h' => forceH h' fun h' => k r h'
        | none => none)
      | none => (match C.hand with
        | none => bodyA P Λ Γ [] (inlA IN d) C fn args h k
        | some S => (match S args h with
          | some (r, h') => forceH h' fun h' => k r h'
          | none => none)))
    | none => none

def finA (ks : List AK) (r : Res) (h : Hp) (k : Res → Option α) : Option α :=
  match r with
  | .pan v => k (.pan v)
  | .ret v => match ks with
    | [q] => (match argA Λ h q v with
      | some (v, _) => k (.ret v)
      | none => none)
    | ks => match v with
      | .tup l => (match argsA Λ h ks l with
        | some (l, _) => k (.ret (.tup l))
        | none => none)
      | _ => none
noncomputable def runA (IN : List (Nat × Func × Cfg)) (d : Nat) (C : Cfg) (fn : Func) (args : List AV) (h : Hp) (ks : List AK) (k : Res → Option α) : Option α :=
  bodyC P Λ Γ gl (inlA P Λ Γ IN d) C fn args h fun r h => finA Λ ks r h k

inductive Tp where
  | junk
  | int (k : IntKind)
  | bool
  | str
  | seq (t : Nat)
  | ptr (b o : Nat)
  | sl (b o n c : Nat)
  | rs (j v : Nat)
  | fn (f : Nat) (first cap : List Tp)
  | nil
  | nilp
  | op (b : Nat)
  | agg (l : List Tp)
  deriving Inhabited
inductive TB where
  | cells (e : TypeId) (l : List Tp) (md : Md)
  | row (e : TypeId) (nb : Bool) (v : Nat)
  | froz (e : TypeId) (v : Nat)
  | iter
  | bytes (e : TypeId) (fz : Bool) (v : Nat)
  | gone
  | trow (e : TypeId) (v : Nat)
  | bld (e be : TypeId) (fz : Bool)
  deriving Inhabited
structure TS where
  fr : List Tp
  h : List TB
  keep : Nat
  at_ : List (Nat × Option Nat)

mutual
def extT (tv : List Nat) (ρ : List (Option Nat)) (h : Hp) : Tp → AV → Option (List D)
  | .junk, _ => some []
  | .int k, .int k' n => if k = k' then some [.int n] else none
  | .bool, .bool b => some [.bool b]
  | .str, .str s => some [.str s]
  | .seq t, .seq t' l => if t = t' then some [.seq l] else none
  | .seq _, .val (.slice none 0 0) => some [.seq []]
  | .ptr b o, .ptr b' o' => if ρ[b]? = some (some b') ∧ o = o' then some [] else none
  | .sl b o n c, .sl b' o' n' c' => if ρ[b]? = some (some b') ∧ o = o' ∧ n = n' ∧ c = c' then some [] else none
  | .rs j v, .rs r q => if ρ[j]? = some (some r) ∧ v ≤ tv.getD j 0 then (match h[r]? with
    | some (.row _ v _ _) => if q = v then some [] else none
    | some (.froz _ v _) => if q = v then some [] else none
    | some (.bytes _ v _ _) => if q = v then some [] else none
    | some (.trow _ v _) => if q = v then some [] else none
    | _ => none) else none
  | .rs j v, .val (.slice none 0 0) => if ρ[j]? = some none ∧ v ≤ tv.getD j 0 then some [] else none
  | .fn f l m, .fn f' l' m' => if f = f' then (match extTs tv ρ h l l', extTs tv ρ h m m' with
    | some x, some y => some (x ++ y)
    | _, _ => none) else none
  | .nil, .val (.slice none 0 0) => some []
  | .nilp, .val (.pointer none) => some []
  | .op b, .val (.pointer none) => if b < ρ.length then some [] else none
  | .op b, .ptr b' o => if ρ[b]? = some (some b') ∧ o = 0 then some [] else none
  | .op b, .op b' => if ρ[b]? = some (some b') then some [] else none
  | .agg l, .agg l' => extTs tv ρ h l l'
  | _, _ => none
def extTs (tv : List Nat) (ρ : List (Option Nat)) (h : Hp) : List Tp → List AV → Option (List D)
  | [], [] => some []
  | t :: ts, a :: l => match extT tv ρ h t a, extTs tv ρ h ts l with
    | some x, some y => some (x ++ y)
    | _, _ => none
  | _, _ => none
end
mutual
def bldT : Tp → List D → AV × List D
  | .junk, d => (.junk, d)
  | .int k, d => match d with
    | .int n :: r => (.int k n, r)
    | _ => (.junk, d)
  | .bool, d => match d with
    | .bool b :: r => (.bool b, r)
    | _ => (.junk, d)
  | .str, d => match d with
    | .str s :: r => (.str s, r)
    | _ => (.junk, d)
  | .seq t, d => match d with
    | .seq l :: r => (.seq t l, r)
    | _ => (.junk, d)
  | .ptr b o, d => (.ptr b o, d)
  | .sl b o n c, d => (.sl b o n c, d)
  | .rs j v, d => (.rs j v, d)
  | .fn f l m, d => let x := bldTs l d; let y := bldTs m x.2; (.fn f x.1 y.1, y.2)
  | .nil, d => (.val (.slice none 0 0), d)
  | .nilp, d => (.val (.pointer none), d)
  | .op b, d => (.op b, d)
  | .agg l, d => let x := bldTs l d; (.agg x.1, x.2)
def bldTs : List Tp → List D → List AV × List D
  | [], d => ([], d)
  | t :: ts, d => let x := bldT t d; let y := bldTs ts x.2; (x.1 :: y.1, y.2)
end

def extB (tv : List Nat) (keep : Bool) (ρ : List (Option Nat)) (h : Hp) : TB → Option Nat → Option (List D)
  | .gone, _ => some []
  | .cells e l md, some b => match h[b]? with
    | some (.cells e' l' md') => if e = e' ∧ md = md' then extTs tv ρ h l l' else none
    | _ => none
  | .row e nb v, some b => match h[b]? with
    | some (.row e' v' nb' l) => if e = e' ∧ (nb = true → nb' = true) ∧ (keep = true → v' ≤ v) then some [.seq l] else none
    | _ => none
  | .row _ _ _, none => some [.seq []]
  | .froz e v, some b => match h[b]? with
    | some (.froz e' v' l) => if e = e' ∧ (keep = true → v' ≤ v) then some [.seq l] else none
    | _ => none
  | .iter, some b => match h[b]? with
    | some (.iter s p) => some [.str s, .int p]
    | _ => none
  | .bytes e fz v, some b => match h[b]? with
    | some (.bytes e' v' s fz') => if e = e' ∧ fz = fz' ∧ (keep = true → v' ≤ v) then some [.str s] else none
    | _ => none
  | .bytes _ _ _, none => some [.str ⟨#[]⟩]
  | .trow e v, some b => match h[b]? with
    | some (.trow e' v' l) => if e = e' ∧ (keep = true → v' ≤ v) then some [.seq l] else none
    | _ => none
  | .trow _ _, none => some [.seq []]
  | .bld e be fz, some b => match h[b]? with
    | some (.bld e' be' s fz') => if e = e' ∧ be = be' ∧ fz = fz' then some [.str s] else none
    | _ => none
  | _, _ => none
def extBs (tv : List Nat) (ρ : List (Option Nat)) (h : Hp) : Nat → List TB → List (Option Nat) → Option (List D)
  | _, [], [] => some []
  | n, t :: ts, b :: bs => match extB tv (n != 0) ρ h t b, extBs tv ρ h (n - 1) ts bs with
    | some x, some y => some (x ++ y)
    | _, _ => none
  | _, _, _ => none
def bldB : TB → List D → Blk × List D
  | .gone, d => (.gone, d)
  | .cells e l md, d => let x := bldTs l d; (.cells e x.1 md, x.2)
  | .row e nb v, d => match d with
    | .seq l :: r => (.row e v nb l, r)
    | _ => (.gone, d)
  | .froz e v, d => match d with
    | .seq l :: r => (.froz e v l, r)
    | _ => (.gone, d)
  | .iter, d => match d with
    | .str s :: .int p :: r => (.iter s p.toNat, r)
    | _ => (.gone, d)
  | .bytes e fz v, d => match d with
    | .str s :: r => (.bytes e v s fz, r)
    | _ => (.gone, d)
  | .trow e v, d => match d with
    | .seq l :: r => (.trow e v l, r)
    | _ => (.gone, d)
  | .bld e be fz, d => match d with
    | .str s :: r => (.bld e be s fz, r)
    | _ => (.gone, d)
def bldBs : List TB → List D → Hp × List D
  | [], d => ([], d)
  | t :: ts, d => let x := bldB t d; let y := bldBs ts x.2; (x.1 :: y.1, y.2)

def placeT (T : TS) (fr : Fr) (h : Hp) : List (Option Nat) :=
  (List.range T.keep).map some ++ T.at_.map fun p =>
    let v := match p.2 with
      | none => fr.getD p.1 .junk
      | some c => match fr.getD p.1 .junk with
        | .ptr b o => match h[b]? with
          | some (.cells _ l _) => l.getD (o + c) .junk
          | _ => .junk
        | _ => .junk
    match v with
    | .rs r _ => some r
    | .ptr b _ => some b
    | .sl b _ _ _ => some b
    | _ => none
def TB.ver : TB → Nat
  | .row _ _ v => v
  | .froz _ v => v
  | .bytes _ _ v => v
  | .trow _ v => v
  | _ => 0
def noDup : List (Option Nat) → Bool
  | [] => true
  | none :: l => noDup l
  | some a :: l => !(l.contains (some a)) && noDup l
def extS (T : TS) (fr : Fr) (h : Hp) : Option (List D) :=
  let ρ := placeT T fr h
  if noDup ρ ∧ T.keep ≤ h.length then
    match extTs (T.h.map TB.ver) ρ h T.fr fr, extBs (T.h.map TB.ver) ρ h T.keep T.h ρ with
    | some x, some y => some (x ++ y)
    | _, _ => none
  else none
def bldS (T : TS) (d : List D) : Fr × Hp := let x := bldTs T.fr d; let y := bldBs T.h x.2; (x.1, y.1)

def panIs (t : Nat) : Value → Bool
  | .iface u (.agg a) => t == u && a.size == 0
  | _ => false
theorem panIs_eq {t : Nat} {v : Value} (h : panIs t v = true) : v = .iface t (.agg #[]) := by
  unfold panIs at h
  split at h
  · simp only [Bool.and_eq_true, beq_iff_eq, Array.size_eq_zero_iff] at h
    obtain ⟨rfl, rfl⟩ := h
    rfl
  · cases h

def panSame : List PanicEntry → List PanicEntry → Bool
  | [⟨.iface t (.agg a), r, g⟩], [⟨.iface u (.agg b), r', g'⟩] => t == u && a.size == 0 && b.size == 0 && !r && !r' && !g && !g'
  | _, _ => false
theorem panSame_eq {a b : List PanicEntry} (h : panSame a b = true) : a = b := by
  unfold panSame at h
  split at h
  · simp only [Bool.and_eq_true, beq_iff_eq, Bool.not_eq_true', Array.size_eq_zero_iff] at h
    obtain ⟨⟨⟨⟨⟨⟨rfl, rfl⟩, rfl⟩, rfl⟩, rfl⟩, rfl⟩, rfl⟩ := h
    rfl
  · cases h

def endA {τ : Type} (X : List (Exit × TS)) (eτ : τ → Nat × List D) (t : τ) : Exit × Fr × Hp :=
  match X[(eτ t).1]? with
  | some (e, T) => (e, bldS T (eτ t).2)
  | none => (.goto 0, [], [])
def exitsA (e : Exit) (fr : Fr) (h : Hp) : Nat → List (Exit × TS) → Option (Nat × List D)
  | _, [] => none
  | i, (x, T) :: l =>
    let here := match x, e with
      | .exit a, .exit b => a == b
      | .ret, .ret => true
      | .panic a, .panic b => panSame a b
      | _, _ => false
    match here with
    | true => match extS T fr h with
      | some d => some (i, d)
      | none => exitsA e fr h (i + 1) l
    | false => exitsA e fr h (i + 1) l

def Blk.vers : Blk → Option Nat
  | .row _ v _ _ => some v
  | .froz _ v _ => some v
  | .bytes _ v _ _ => some v
  | .trow _ v _ => some v
  | _ => none
mutual
def AV.ren (ρ : List Nat) (q : List (Option Nat)) : AV → AV
  | .junk => .junk
  | .int k n => .int k n
  | .bool b => .bool b
  | .str s => .str s
  | .ptr b o => .ptr (ρ.getD b 0) o
  | .agg l => .agg (AV.renL ρ q l)
  | .tup l => .tup (AV.renL ρ q l)
  | .fn f l m => .fn f (AV.renL ρ q l) (AV.renL ρ q m)
  | .val v => .val v
  | .seq t l => .seq t l
  | .sl b o n c => .sl (ρ.getD b 0) o n c
  | .rs r v => (match q[r]? with
    | some (some w) => .rs (ρ.getD r 0) (w + v)
    | _ => .junk)
  | .op b => .op (ρ.getD b 0)
  | _ => .junk
def AV.renL (ρ : List Nat) (q : List (Option Nat)) : List AV → List AV
  | [] => []
  | a :: l => AV.ren ρ q a :: AV.renL ρ q l
end
def Blk.ren (ρ : List Nat) (q : List (Option Nat)) (w : Option Nat) : Blk → Option Blk
  | .cells e l md => some (.cells e (AV.renL ρ q l) md)
  | .row e v nb l => w.map fun w => .row e (w + v) nb l
  | .froz e v l => w.map fun w => .froz e (w + v) l
  | .iter s p => some (.iter s p)
  | .bytes e v s fz => w.map fun w => .bytes e (w + v) s fz
  | .gone => some .gone
  | .trow e v l => w.map fun w => .trow e (w + v) l
  | .bld e be s fz => some (.bld e be s fz)
def backA (ρ : List Nat) (q : List (Option Nat)) : List Nat → List Blk → Hp → Option Hp
  | [], [], h => some h
  | r :: rs, b :: bs, h => match h[r]? with
    | some b0 => match Blk.ren ρ q b0.vers b with
      | some b => backA ρ q rs bs (h.set r b)
      | none => none
    | none => none
  | _, _, _ => none
def allSome : List (Option Nat) → Option (List Nat)
  | [] => some []
  | some a :: l => (allSome l).map (a :: ·)
  | none :: _ => none
def contM {τ : Type} (X : List (Exit × TS)) (dτ : Nat → List D → Option τ) : Res → Hp → Option τ := fun r h =>
  match r with
  | .ret v => (exitsA .ret [v] h 0 X).bind fun p => dτ p.1 p.2
  | .pan v => (exitsA (.panic [⟨v, false, false⟩]) [] h 0 X).bind fun p => dτ p.1 p.2
def endM (ρ : List Nat) (q : List (Option Nat)) (h : Hp) (e : Exit) (s : Fr × Hp) : Res × Hp :=
  match e with
  | .ret => (.ret (s.1.headD .junk), (backA ρ q ρ s.2 h).getD [])
  | .panic [⟨v, _, _⟩] => (.pan v, (backA ρ q ρ s.2 h).getD [])
  | _ => (.ret .junk, [])
def kindsM : List TB → List TB → Bool
  | [], [] => true
  | s :: ss, t :: ts => (match s, t with
    | .cells .., .cells .. => true
    | .row .., .row .. => true
    | .bytes .., .bytes .. => true
    | .trow .., .trow .. => true
    | .bld .., .bld .. => true
    | _, _ => false) && kindsM ss ts
  | _, _ => false
def okM (T : List TB) (x : Exit × TS) : Bool :=
  x.2.keep == T.length && x.2.at_.isEmpty && kindsM T x.2.h && (match x.1 with
    | .ret => (match x.2.fr with
      | [.junk] => true
      | [.int _] => true
      | [.bool] => true
      | [.str] => true
      | _ => false)
    | .panic [⟨_, false, false⟩] => x.2.fr.isEmpty
    | _ => false)
def fitM (h : Hp) : List Nat → List TB → Bool
  | [], [] => true
  | r :: rs, t :: ts => (match h[r]?, t with
    | some (.cells ..), .cells .. => true
    | some (.row ..), .row .. => true
    | some (.bytes ..), .bytes .. => true
    | some (.trow ..), .trow .. => true
    | some (.bld ..), .bld .. => true
    | _, _ => false) && fitM h rs ts
  | _, _ => false
def memA {σ τ : Type} (T : TS) (X : List (Exit × TS)) (dσ : List D → Option σ) (eτ : τ → Nat × List D)
    (sel : List Nat → List (Option Nat) → Hp → (β : Type) → τ → (Res → Hp → Option β) → Option β)
    (ok : ∀ ρ q h β t k, sel ρ q h β t k = k (endM ρ q h (endA X eτ t).1 (endA X eτ t).2).1 (endM ρ q h (endA X eτ t).1 (endA X eτ t).2).2) (L : σ → Option τ) : MSum := fun args h =>
  match extS T args h with
  | some d => match dσ d with
    | some x => match allSome (placeT T args h) with
      | some ρ => match fitM h ρ T.h with
        | true => some (.mk τ (L x) (fun t => endM ρ (ρ.map fun r => (h[r]?).bind Blk.vers) h (endA X eτ t).1 (endA X eτ t).2) (sel ρ (ρ.map fun r => (h[r]?).bind Blk.vers) h) (ok ρ (ρ.map fun r => (h[r]?).bind Blk.vers) h))
        | false => none
      | none => none
    | none => none
  | none => none
end
end Go.Proofs.Qx

namespace Go.Proofs.Qx
open Go Go.RowKit
set_option linter.unusedVariables false
set_option linter.unusedSimpArgs false

theorem forceL_eq {α β : Type} : ∀ (l : List α) (k : List α → Option β), forceL l k = k l
  | [], k => rfl
  | a :: l, k => by simp only [forceL]; exact forceL_eq l _
theorem head1_eq {β : Type} (a : AV) (k : AV → Option β) : head1 a k = k a := by cases a <;> rfl
theorem forceC_eq {β : Type} : ∀ (l : List AV) (k : List AV → Option β), forceC l k = k l
  | [], k => rfl
  | a :: l, k => by simp only [forceC, head1_eq]; exact forceC_eq l _
theorem headK_eq {β : Type} (a : AV) (k : AV → Option β) : headK a k = k a := by
  cases a <;> simp only [headK, forceC_eq, head1_eq]
theorem forceB_eq {β : Type} (b : Blk) (k : Blk → Option β) : forceB b k = k b := by
  cases b
  case cells e l md => cases md <;> simp only [forceB, forceC_eq]
  case row e v nb l => cases nb <;> rfl
  case bytes e v s fz => cases fz <;> rfl
  case bld e be s fz => cases fz <;> rfl
  all_goals rfl
theorem forceH_eq {β : Type} : ∀ (l : Hp) (k : Hp → Option β), forceH l k = k l
  | [], k => rfl
  | a :: l, k => by simp only [forceH, forceB_eq]; exact forceH_eq l _

section
variable {P : Program} {G : Gh} {w : World}

theorem run_isAggT {t : TypeId} {b : Bool} (h : isAggT P t = some b) (w : World) : (isAgg t).run P w = .ok b w := by
  unfold isAggT at h
  unfold isAgg
  cases hu : P.underlying t with
  | none => simp [hu] at h
  | some d =>
    rw [hu] at h
    rw [Sem.run_bind, run_underlying hu w, Result.andThen_ok]
    cases d <;> simp at h <;> subst h <;> rfl

theorem run_szT {t : TypeId} {n : Nat} (h : szT P t = some n) (w : World) : (sizeOf t).run P w = .ok n w := by
  unfold szT at h
  cases hq : P.info? t with
  | none => simp [hq] at h
  | some i => simp [hq] at h; subst h; simp [sizeOf, typeInfo, hq]

theorem run_partA {t : TypeId} {l : List AV} {off : Nat} {av : AV} (h : partA P t l off = some av) {cs : Array Value} (hl : AV.isL G w l cs.toList) (w' : World) :
    ∃ v, (part t cs off).run P w' = .ok v w' ∧ av.is G w v := by
  unfold partA at h
  cases ha : isAggT P t with
  | none => simp [ha] at h
  | some b =>
    cases b with
    | true =>
      cases hn : szT P t with
      | none => simp [ha, hn] at h
      | some n =>
        simp only [ha, hn] at h
        split at h
        · cases h
          refine ⟨.agg (cs.extract off (off + n)), by simp [part, run_isAggT ha w', run_szT hn w'], ?_⟩
          simp only [AV.is]
          refine ⟨_, rfl, ?_⟩
          rw [Array.toList_extract]
          have := isL_take (isL_drop hl off) n
          simpa [List.extract_eq_take_drop] using this
        · cases h
    | false =>
      simp only [ha] at h
      obtain ⟨v, hv, k⟩ := isL_get hl off av h
      refine ⟨v, ?_, k⟩
      have hv' : cs[off]? = some v := by simpa using hv
      simp [part, run_isAggT ha w', hv']

theorem add_addr (b o n : Nat) : (⟨b, o, none⟩ : Addr).add n = ⟨b, o + n, none⟩ := by unfold Addr.add; split <;> simp_all

theorem avOf_is {k : CK} {d : D} {v : Value} (h : CRep G.lay G.imm w k d v) : (avOf k d).is G w v := by
  cases h
  case int => simp only [avOf, AV.is, D.toInt]
  case bool => simp only [avOf, AV.is, D.toBool]
  case str => simp only [avOf, AV.is, D.toStr]
  case nil => simp only [avOf, AV.is, D.toSeq]; exact .nil _
  case seq t l b o cap u h1 h2 h3 h4 => simp only [avOf, AV.is, D.toSeq]; exact .seq t l b o cap u h1 h2 h3 h4

theorem avsAt_is {l : List (List D)} {i : Nat} : ∀ {ks : List CK} {o : Nat} {us : List Value}, us.length = ks.length → (∀ (j : Nat) (k : CK), ks[j]? = some k → ∃ u, us[j]? = some u ∧ CRep G.lay G.imm w k (D.at l i (o + j)) u) →
    AV.isL G w (avsAt l i ks o) us
  | [], o, us, h, _ => by simp at h; simp [avsAt, AV.isL, h]
  | k :: ks, o, [], h, _ => by simp at h
  | k :: ks, o, u :: us, h, hk => by
    simp only [avsAt, AV.isL]
    refine ⟨u, us, rfl, ?_, avsAt_is (by simpa using h) fun j k' hj => ?_⟩
    · obtain ⟨u', e, hc⟩ := hk 0 k rfl
      cases e; exact avOf_is hc
    · obtain ⟨u', e, hc⟩ := hk (j + 1) k' (by simpa using hj)
      exact ⟨u', by simpa using e, by rw [show o + 1 + j = o + (j + 1) by omega]; exact hc⟩

theorem run_loadAt_cells {t : TypeId} {l : List AV} {o : Nat} {av : AV} (h : partA P t l o = some av) {us : List Value} (hl : AV.isL G w l us) {b off : Nat} (hc : ∀ j u, us[j]? = some u → w.cell? ⟨b, off + j, none⟩ = some u) :
    ∃ u, (Instr.loadAt t (.pointer (some ⟨b, off + o, none⟩))).run P w = .ok u w ∧ av.is G w u := by
  unfold partA at h
  cases ha : isAggT P t with
  | none => simp [ha] at h
  | some q =>
    cases q with
    | true =>
      cases hn : szT P t with
      | none => simp [ha, hn] at h
      | some n =>
        simp only [ha, hn] at h
        split at h
        · rename_i hle
          cases h
          have hlen := isL_len hl
          have hcs := run_loadCells_list (P := P) w ⟨b, off + o, none⟩ ((us.drop o).take n) (fun j u hj => by
            rw [add_addr, Nat.add_assoc]
            rw [List.getElem?_take] at hj
            split at hj
            · rw [List.getElem?_drop] at hj; exact hc _ _ hj
            · cases hj)
          have hll : ((us.drop o).take n).length = n := by simp; omega
          rw [hll] at hcs
          refine ⟨.agg ((us.drop o).take n).toArray, by simp [Instr.loadAt, Instr.sureAddr, loadVar, run_isAggT ha w, run_szT hn w, hcs], ?_⟩
          simp only [AV.is]
          exact ⟨_, rfl, by simpa using isL_take (isL_drop hl o) n⟩
        · cases h
    | false =>
      simp only [ha] at h
      obtain ⟨u, hu, k'⟩ := isL_get hl o av h
      refine ⟨u, ?_, k'⟩
      simp [Instr.loadAt, Instr.sureAddr, loadVar, run_isAggT ha w, hc o u hu]

theorem RowRep.cells {B : Nat} {e : TypeId} {nb : Bool} {l : List (List D)} {v : Value} {ft : List Nat} (h : RowRep G B w e nb l v ft) {g n c : Nat} (hv : v = .slice (some ⟨g, 0, none⟩) n c) :
    n = l.length ∧ n ≤ c ∧ ft = [g] ∧ ∀ i j, i < l.length → j < (G.lay e).length → ∃ u k, (G.lay e)[j]? = some k ∧ w.cell? ⟨g, i * (G.lay e).length + j, none⟩ = some u ∧ CRep G.lay G.imm w k (D.at l i j) u := by
  obtain ⟨h1, _, h3, xs, h4, h5⟩ := h
  subst hv
  have hn : n = l.length := by
    rcases h4.2 with ⟨e, _⟩ | ⟨g', cap, cur, e, _⟩
    · cases e
    · cases e; rfl
  refine ⟨hn, ?_, h1, fun i j hi hj => ?_⟩
  · rcases h4.2 with ⟨e, _⟩ | ⟨g', cap, cur, e, _, _, q, _⟩
    · cases e
    · cases e; omega
  have hx : l[i]? = some l[i] := List.getElem?_eq_getElem hi
  have hxl := h3 i _ hx
  have hj' : j < l[i].length := by omega
  obtain ⟨u, hu, hc⟩ := h5 i j l[i] l[i][j] (G.lay e)[j] hx (List.getElem?_eq_getElem hj') (List.getElem?_eq_getElem hj)
  have hcell := h4.cells (g := g) rfl (i * (G.lay e).length + j) u hu
  rw [add_addr, Nat.zero_add] at hcell
  refine ⟨u, _, List.getElem?_eq_getElem hj, hcell, ?_⟩
  have : D.at l i j = l[i][j] := by
    unfold D.at
    simp [List.getD_eq_getElem?_getD, hx, hj']
  rw [this]; exact hc

theorem run_loadA {B : Nat} {h : Hp} (H : HRep G B h w) {Λ : Nat → List CK} (hΛ : G.lay = Λ) {t : TypeId} {p av : AV} (hl : loadA P Λ h t p = some av) {v : Value} (hp : p.is G w v) :
    ∃ u, (Instr.loadAt t v).run P w = .ok u w ∧ av.is G w u := by
  unfold loadA at hl
  cases p <;> simp only at hl <;> try (cases hl; done)
  case ptr b o =>
    simp only [AV.is] at hp
    obtain ⟨hb, rfl⟩ := hp
    split at hl
    · rename_i e cs md hk
      obtain ⟨_, _, c, hc, hcl⟩ := H.blk b _ hk
      have hcell : ∀ j u, c.toList[j]? = some u → w.cell? ⟨G.at_ b, 0 + j, none⟩ = some u := fun j u hj => by rw [Nat.zero_add]; simp [World.cell?, hc]; simpa using hj
      have := run_loadAt_cells hl hcl hcell
      rwa [Nat.zero_add] at this
    · cases hl
  case sp e l i o =>
    simp only [AV.is] at hp
    obtain ⟨b, off, rfl, hc⟩ := hp
    subst hΛ
    have hex : ∃ us : List Value, us.length = (G.lay e).length ∧ ∀ (j : Nat) (k : CK), (G.lay e)[j]? = some k → ∃ u, us[j]? = some u ∧ w.cell? ⟨b, off + j, none⟩ = some u ∧ CRep G.lay G.imm w k (D.at l i j) u := by
      refine ⟨(List.range (G.lay e).length).map fun j => (w.cell? ⟨b, off + j, none⟩).getD undef, by simp, fun j k hj => ?_⟩
      obtain ⟨_, u, h2, h3⟩ := hc j k hj
      have : j < (G.lay e).length := (List.getElem?_eq_some_iff.1 hj).1
      exact ⟨u, by simp [this, h2], h2, h3⟩
    obtain ⟨us, hlen, hus⟩ := hex
    refine run_loadAt_cells hl (avsAt_is hlen fun j k hj => ?_) fun j u hj => ?_
    · obtain ⟨u, h1, _, h3⟩ := hus j k hj
      exact ⟨u, h1, by rw [Nat.zero_add]; exact h3⟩
    · have hlt : j < (G.lay e).length := by rw [← hlen]; exact (List.getElem?_eq_some_iff.1 hj).1
      obtain ⟨u', h1, h2, _⟩ := hus j _ (List.getElem?_eq_getElem hlt)
      rw [hj] at h1; cases h1; exact h2
  case ep r q m i o =>
    simp only [AV.is] at hp
    obtain ⟨hr, hq, _, hp⟩ := hp
    split at hl
    · rename_i e v' nb l hk
      split at hl
      · rename_i hcond
        obtain ⟨rfl, rfl⟩ := hcond
        subst hΛ
        obtain ⟨hver, hrow⟩ := H.blk r _ hk
        obtain ⟨g, n, c, hrv, hin, rfl⟩ := hp hver
        obtain ⟨hn, _, _, hcells⟩ := hrow.cells hrv
        have hil : i < l.length := by omega
        have hex : ∃ us : List Value, us.length = (G.lay e).length ∧ ∀ (j : Nat) (k : CK), (G.lay e)[j]? = some k → ∃ u, us[j]? = some u ∧ w.cell? ⟨g, i * (G.lay e).length + j, none⟩ = some u ∧ CRep G.lay G.imm w k (D.at l i j) u := by
          refine ⟨(List.range (G.lay e).length).map fun j => (w.cell? ⟨g, i * (G.lay e).length + j, none⟩).getD undef, by simp, fun j k hj => ?_⟩
          have hj' : j < (G.lay e).length := (List.getElem?_eq_some_iff.1 hj).1
          obtain ⟨u, k', h1, h2, h3⟩ := hcells i j hil hj'
          rw [hj] at h1; cases h1
          exact ⟨u, by simp [hj', h2], h2, h3⟩
        obtain ⟨us, hlen, hus⟩ := hex
        refine run_loadAt_cells hl (avsAt_is hlen fun j k hj => ?_) fun j u hj => ?_
        · obtain ⟨u, h1, _, h3⟩ := hus j k hj
          exact ⟨u, h1, by rw [Nat.zero_add]; exact h3⟩
        · have hlt : j < (G.lay e).length := by rw [← hlen]; exact (List.getElem?_eq_some_iff.1 hj).1
          obtain ⟨u', h1, h2, _⟩ := hus j _ (List.getElem?_eq_getElem hlt)
          rw [hj] at h1; cases h1; exact h2
      · cases hl
    · rename_i e v' l hk
      split at hl
      · rename_i hcond
        obtain ⟨rfl, rfl⟩ := hcond
        subst hΛ
        obtain ⟨hver, hrow'⟩ := H.blk r _ hk
        have hrow := hrow'.row
        obtain ⟨g, n, c, hrv, hin, rfl⟩ := hp hver
        obtain ⟨hn, _, _, hcells⟩ := hrow.cells hrv
        have hil : i < l.length := by omega
        have hex : ∃ us : List Value, us.length = (G.lay e).length ∧ ∀ (j : Nat) (k : CK), (G.lay e)[j]? = some k → ∃ u, us[j]? = some u ∧ w.cell? ⟨g, i * (G.lay e).length + j, none⟩ = some u ∧ CRep G.lay G.imm w k (D.at l i j) u := by
          refine ⟨(List.range (G.lay e).length).map fun j => (w.cell? ⟨g, i * (G.lay e).length + j, none⟩).getD undef, by simp, fun j k hj => ?_⟩
          have hj' : j < (G.lay e).length := (List.getElem?_eq_some_iff.1 hj).1
          obtain ⟨u, k', h1, h2, h3⟩ := hcells i j hil hj'
          rw [hj] at h1; cases h1
          exact ⟨u, by simp [hj', h2], h2, h3⟩
        obtain ⟨us, hlen, hus⟩ := hex
        refine run_loadAt_cells hl (avsAt_is hlen fun j k hj => ?_) fun j u hj => ?_
        · obtain ⟨u, h1, _, h3⟩ := hus j k hj
          exact ⟨u, h1, by rw [Nat.zero_add]; exact h3⟩
        · have hlt : j < (G.lay e).length := by rw [← hlen]; exact (List.getElem?_eq_some_iff.1 hj).1
          obtain ⟨u', h1, h2, _⟩ := hus j _ (List.getElem?_eq_getElem hlt)
          rw [hj] at h1; cases h1; exact h2
      · cases hl
    · cases hl

theorem foldl_lay (off : Nat) : ∀ (vs : List Value) (k : Nat) (c : Array Value), off + k + vs.length ≤ c.size →
    ((vs.zipIdx k).foldl (fun cs p => cs.setIfInBounds (off + p.2) p.1) c).toList = c.toList.take (off + k) ++ vs ++ c.toList.drop (off + k + vs.length)
  | [], k, c, h => by simp
  | v :: vs, k, c, h => by
    simp only [List.zipIdx_cons, List.foldl_cons]
    rw [foldl_lay off vs (k + 1) _ (by simp at h ⊢; omega)]
    have e := list_seg_step c.toList (off + k) v vs (by simp at h ⊢; omega)
    simpa [Array.toList_setIfInBounds, Nat.add_assoc] using e

theorem fill_is {place place' : Nat → Option (Nat × Nat)} (hpl : ∀ i, place' i = place i) : ∀ (parts : List (Nat × AV)) (vparts : List (Nat × Value)) (l : List AV) (cs : Array Value) (r : List AV),
    vparts.map (·.1) = parts.map (·.1) → AV.isL G w (parts.map (·.2)) (vparts.map (·.2)) → AV.isL G w l cs.toList → fillA place l parts = some r →
    ∃ rs, Instr.fill place' cs vparts = some rs ∧ AV.isL G w r rs.toList
  | [], vparts, l, cs, r, hi, hp, hl, h => by
    simp at hi; subst hi
    simp only [fillA] at h; cases h
    exact ⟨cs, rfl, hl⟩
  | (i, a) :: parts, [], l, cs, r, hi, hp, hl, h => by simp at hi
  | (i, a) :: parts, (i', v) :: vparts, l, cs, r, hi, hp, hl, h => by
    simp only [List.map_cons, List.cons.injEq] at hi
    obtain ⟨rfl, hi⟩ := hi
    simp only [List.map_cons, AV.isL] at hp
    obtain ⟨v', rest, e, ha, hrest⟩ := hp
    cases e
    simp only [fillA] at h
    simp only [Instr.fill, hpl]
    cases hq : place i' with
    | none => simp [hq] at h
    | some q =>
      obtain ⟨off, size⟩ := q
      simp only [hq] at h ⊢
      split at h
      · rename_i hc
        simp only [Bool.and_eq_true, beq_iff_eq, decide_eq_true_eq] at hc
        obtain ⟨⟨hk, hsz⟩, hle⟩ := hc
        obtain ⟨hcl, _⟩ := cells_is hk ha
        have hlen := isL_len hcl
        have hlen2 := isL_len hl
        have h1 : v.cells.size = size := by simp at hlen; omega
        have h2 : off + v.cells.size ≤ cs.size := by simp at hlen2; omega
        rw [if_neg (by simp [h1]; omega)]
        refine fill_is hpl parts vparts _ _ r hi hrest ?_ h
        have e : (Array.foldl (fun cs x => cs.setIfInBounds (off + x.2) x.1) cs v.cells.zipIdx).toList = cs.toList.take off ++ v.cells.toList ++ cs.toList.drop (off + size) := by
          rw [← Array.foldl_toList, Array.toList_zipIdx]
          have := foldl_lay off v.cells.toList 0 cs (by simp; omega)
          simpa [h1] using this
        have e2 : (v.cells.zipIdx.foldl (fun cs (x : Value × Nat) => match x with | (c, j) => cs.setIfInBounds (off + j) c) cs).toList = cs.toList.take off ++ v.cells.toList ++ cs.toList.drop (off + size) := e
        rw [e2]
        exact isL_append (isL_append (isL_take hl off) hcl) (isL_drop hl (off + size))
      · cases h

theorem run_buildA {t : TypeId} {parts : List (Nat × AV)} {av : AV} (h : buildA P t parts = some av) {vparts : Array (Nat × Value)} (hi : vparts.toList.map (·.1) = parts.map (·.1))
    (hp : AV.isL G w (parts.map (·.2)) (vparts.toList.map (·.2))) (w' : World) : ∃ v, (Instr.build t vparts).run P w' = .ok v w' ∧ av.is G w v := by
  unfold buildA at h
  cases hit : P.info? t with
  | none => simp [hit] at h
  | some it =>
    cases hu : P.underlying t with
    | none => simp [hit, hu] at h
    | some d =>
      rw [hit, hu] at h
      cases d <;> try (simp at h; done)
      case array n e =>
        simp only at h
        cases hz : it.zero with
        | none => simp [hz] at h
        | some z =>
          cases hie : P.info? e with
          | none => simp [hz, hie] at h
          | some ie =>
            simp only [hz, hie, Option.map_eq_some_iff] at h
            obtain ⟨r, hr, rfl⟩ := h
            obtain ⟨rs, hrs, k⟩ := fill_is (G := G) (w := w) (fun _ => rfl) parts vparts.toList _ z.cells r hi hp (ofCs_is G w _) hr
            exact ⟨.agg rs, run_build w' t vparts rs (by simp [Program.built, hit, hu, hz, hie, hrs]), by simp only [AV.is]; exact ⟨_, rfl, k⟩⟩
      case struct fs =>
        simp only at h
        cases hz : it.zero with
        | none => simp [hz] at h
        | some z =>
          cases hpl : fs.toList.mapM (fun f => (P.info? f.type).map fun i => (f.offset, i.size)) with
          | none => simp [hz, hpl] at h
          | some places =>
            simp only [hz, hpl, Option.map_eq_some_iff] at h
            obtain ⟨r, hr, rfl⟩ := h
            obtain ⟨rs, hrs, k⟩ := fill_is (G := G) (w := w) (place' := fun i => places.toArray[i]?) (fun i => by simp) parts vparts.toList _ z.cells r hi hp (ofCs_is G w _) hr
            exact ⟨.agg rs, run_build w' t vparts rs (by simp only [Program.built, hit, hu, hz, hpl]; exact hrs), by simp only [AV.is]; exact ⟨_, rfl, k⟩⟩

theorem run_eqCell {t : TypeId} {x y : AV} {b : Bool} (h : eqCell P t x y = some b) {u v : Value} (hx : x.is G w u) (hy : y.is G w v) (d : Nat) (w' : World) :
    (Op.equalIn (d + 1) t u v).run P w' = .ok b w' := by
  unfold eqCell at h
  cases x <;> cases y <;> simp only at h <;> try (cases h; done)
  case int k a k' a' =>
    simp only [AV.is] at hx hy; subst hx; subst hy
    cases hu : P.underlying t with
    | none => simp [hu] at h
    | some q =>
      cases q <;> simp [hu] at h
      obtain ⟨rfl, rfl⟩ := h
      exact run_equalIn_int w' d t k _ a a' hu
  case bool a a' =>
    simp only [AV.is] at hx hy; subst hx; subst hy
    cases hu : P.underlying t with
    | none => simp [hu] at h
    | some q =>
      cases q <;> simp [hu] at h
      subst h
      exact run_equalIn_bool w' d t a a' hu
  case str a a' =>
    simp only [AV.is] at hx hy; subst hx; subst hy
    cases hu : P.underlying t with
    | none => simp [hu] at h
    | some q =>
      cases q <;> simp [hu] at h
      subst h
      exact run_equalIn_string w' d t a a' hu

theorem run_eqFields {xs ys : List AV} {us vs : Array Value} (hx : AV.isL G w xs us.toList) (hy : AV.isL G w ys vs.toList) (d : Nat) (w' : World) :
    ∀ (fs : List Field) (b : Bool), eqFieldsA P xs ys fs = some b → (Op.eqFields (d + 1) us vs fs).run P w' = .ok b w'
  | [], b, h => by simp only [eqFieldsA] at h; cases h; simp [Op.eqFields]
  | f :: fs, b, h => by
    simp only [eqFieldsA] at h
    split at h
    · cases h
    · rename_i hn
      have hne : f.name ≠ "_" := by simpa using hn
      cases ha : isAggT P f.type with
      | none => simp [ha] at h
      | some q =>
        cases q with
        | true => simp [ha] at h
        | false =>
          cases hxo : xs[f.offset]? with
          | none => simp [ha, hxo] at h
          | some x =>
            cases hyo : ys[f.offset]? with
            | none => simp [ha, hxo, hyo] at h
            | some y =>
              simp only [ha, hxo, hyo] at h
              cases hc : eqCell P f.type x y with
              | none => simp [hc] at h
              | some p =>
                cases hr : eqFieldsA P xs ys fs with
                | none => simp [hc, hr] at h
                | some q =>
                  simp only [hc, hr] at h
                  cases h
                  obtain ⟨u, hu, ku⟩ := isL_get hx _ _ hxo
                  obtain ⟨v, hv, kv⟩ := isL_get hy _ _ hyo
                  have e1 : (part f.type us f.offset).run P w' = .ok u w' := by
                    have : us[f.offset]? = some u := by simpa using hu
                    simp [part, run_isAggT ha w', this]
                  have e2 : (part f.type vs f.offset).run P w' = .ok v w' := by
                    have : vs[f.offset]? = some v := by simpa using hv
                    simp [part, run_isAggT ha w', this]
                  have e3 := run_eqCell hc ku kv d w'
                  have ih := run_eqFields hx hy d w' fs q hr
                  simp only [Op.eqFields, hne, ne_eq, not_false_eq_true, if_true, Sem.run_bind, e1, e2, e3, Result.andThen_ok, Sem.run_ite, ih, Sem.run_pure]
                  cases p <;> simp

theorem run_eqA {hp0 : Hp} {t : TypeId} {x y : AV} {b : Bool} (h : eqA P hp0 t x y = some b) {u v : Value} (hx : x.is G w u) (hy : y.is G w v) (ox oy : Operand) (w' : World) :
    ((eqGuard .eql t ox oy u v).run P w' = .ok () w' ∧ (binOp .eql t u v).run P w' = .ok (.bool b) w') ∧
    ((eqGuard .neq t ox oy u v).run P w' = .ok () w' ∧ (binOp .neq t u v).run P w' = .ok (.bool (!b)) w') := by
  unfold eqA at h
  cases x <;> cases y <;> simp only at h <;> try (cases h; done)
  case agg xs ys =>
    simp only [AV.is] at hx hy
    obtain ⟨us, rfl, hx⟩ := hx
    obtain ⟨vs, rfl, hy⟩ := hy
    cases hu : P.underlying t with
    | none => simp [hu] at h
    | some q =>
      cases q <;> simp [hu] at h
      rename_i fs
      obtain ⟨⟨hs, hg⟩, h⟩ := h
      have hf : P.fieldsOf t = fs := by simp [Program.fieldsOf, hu]
      have e := run_equalIn_struct w' 9999 t us vs (by rw [hf]; exact hu) hs
      rw [hf, run_eqFields hx hy 9998 w' fs.toList b h] at e
      refine ⟨⟨run_eqGuard_agg w' _ t ox oy us vs hg, ?_⟩, ⟨run_eqGuard_agg w' _ t ox oy us vs hg, ?_⟩⟩
      · rw [run_eql_struct, e]; rfl
      · rw [run_neq_struct, e]; rfl
  case int k a k' a' =>
    simp only [AV.is] at hx hy; subst hx; subst hy
    split at h
    · rename_i hk; subst hk; cases h
      refine ⟨⟨by simp [eqGuard], ?_⟩, ⟨by simp [eqGuard], ?_⟩⟩ <;> simp [binOp, Op.intCmp, bne]
    · cases h
  case bool a a' =>
    simp only [AV.is] at hx hy; subst hx; subst hy
    cases hu : P.underlying t with
    | none => simp [hu] at h
    | some q =>
      cases q <;> simp [hu] at h
      subst h
      have e := run_equalIn_bool (P := P) w' 9999 t a a' hu
      refine ⟨⟨by simp [eqGuard], ?_⟩, ⟨by simp [eqGuard], ?_⟩⟩
      · simp [binOp, Op.equal, Op.maxDepth, e]
      · simp [binOp, Op.equal, Op.maxDepth, e]
  case str a a' =>
    simp only [AV.is] at hx hy; subst hx; subst hy
    cases h
    refine ⟨⟨by simp [eqGuard], ?_⟩, ⟨by simp [eqGuard], ?_⟩⟩ <;> simp [binOp, Op.stringOp]

end

structure After (imm : Nat → Nat → Prop) (w : World) (imm' : Nat → Nat → Prop) (w' : World) : Prop where
  more : ∀ b o, imm b o → imm' b o
  old : ∀ b o, b < w.heap.size → imm' b o → imm b o
  new : ∀ b o, imm' b o → b < w'.heap.size
  below : Below w.heap.size w w'

theorem After.refl {G : Gh} {B : Nat} {h : Hp} {w : World} (H : HRep G B h w) : After G.imm w G.imm w := ⟨fun _ _ q => q, fun _ _ _ q => q, H.imm, Below.refl _ _⟩

def Res.isE (G : Gh) (w : World) : Res → Ending → Prop
  | .ret v, e => ∃ u, e = .returned u ∧ v.is G w u
  | .pan v, e => e = .panicked [{ v, recovered := false }]

def CEOk (P : Program) (GW : World → Prop) (Λ : Nat → List CK) (f : Nat) (ce : CE) : Prop :=
  (∀ args w, (callFunc f args).run P w = .ok (.enter f args) w) ∧
  ∀ (args : List AV) (τ : Type) (x : Option τ) (out : τ → Res) (sel : (β : Type) → τ → (Res → Option β) → Option β) (ok : ∀ β t k, sel β t k = k (out t)) (r : τ), ce.tells args = some (.mk τ x out sel ok) → x = some r → ∀ (G : Gh) (w : World) (vs : Array Value), G.lay = Λ → GW w → (∀ b o, G.imm b o → b < w.heap.size) →
    AV.isL G w args vs.toList → Calls P f vs w fun e w' => ∃ imm', After G.imm w imm' w' ∧ (out r).isE { G with imm := imm' } w' e

def AllOk (P : Program) (GW : World → Prop) (Λ : Nat → List CK) (Γ : List (Nat × CE)) : Prop := ∀ f ce, Γ.lookup f = some ce → CEOk P GW Λ f ce

def Compat (h h2 : Hp) : Prop := ∀ b : Nat, b < h2.length → b < h.length → h2[b]? = h[b]?
theorem Compat.refl (h : Hp) : Compat h h := fun _ _ _ => rfl
theorem Compat.get {h h2 : Hp} (hc : Compat h h2) {b : Nat} {k : Blk} (hk : h[b]? = some k) (hb : b < h2.length) : h2[b]? = some k := by
  rw [hc b hb (List.getElem?_eq_some_iff.1 hk).1]; exact hk

def QOk (P : Program) (GW : World → Prop) (Λ : Nat → List CK) (h : Hp) (o : Oper) (e : Operand → AV) (av : AV) : Prop :=
  ∀ (B : Nat) (G : Gh) (w : World) (a : Act) (next : Act → World → Prop) (Q : Exit → Act → World → Prop) (h2 : Hp), (readsM o.op = true → Compat h h2) → HRep G B h2 w → G.lay = Λ → GW w → (∀ x ∈ o.op.operands, (e x).is G w (a.eval x)) →
    (∀ (imm' : Nat → Nat → Prop) (v : Value) (w' : World), HRep { G with imm := imm' } B h2 w' → G.le w { G with imm := imm' } w' → After G.imm w imm' w' → av.is { G with imm := imm' } w' v → next (a.put o.dst v) w') → o.wp P a w next Q

theorem QOk.of_run {P : Program} {GW : World → Prop} {Λ : Nat → List CK} {h : Hp} {o : Oper} {e : Operand → AV} {av : AV}
    (hr : ∀ (B : Nat) (G : Gh) (w : World) (ρ : Operand → Value) (h2 : Hp), (readsM o.op = true → Compat h h2) → HRep G B h2 w → G.lay = Λ → (∀ x ∈ o.op.operands, (e x).is G w (ρ x)) → ∃ v, (execOp ρ o).run P w = .ok (.value v) w ∧ av.is G w v) : QOk P GW Λ h o e av := by
  intro B G w a next Q h2 hcp H hΛ _ hop hk
  obtain ⟨v, hrun, hv⟩ := hr B G w a.eval h2 hcp H hΛ hop
  unfold Oper.wp
  rw [hrun]
  exact hk G.imm v w H (Gh.le.refl G w) (After.refl H) hv

section
variable {α : Type} {P : Program} {GW : World → Prop} {Λ : Nat → List CK} {r : α} {h : Hp} {e : Operand → AV}

theorem int_sound {op : BinOp} {i j : IntKind} {a b : Int} {t : TypeId} {x y : Operand} {k : AV → Option α} (h1 : op ≠ .eql) (h2 : op ≠ .neq) (hq : intA op i a j b k = some r) :
    ∃ av, k av = some r ∧ ∀ (G : Gh) (w : World), ∃ z, (eqGuard op t x y (.int i a) (.int j b)).run P w = .ok () w ∧ (binOp op t (.int i a) (.int j b)).run P w = .ok z w ∧ av.is G w z := by
  unfold intA at hq
  cases op <;> simp only at hq <;> try (first | exact absurd rfl h1 | exact absurd rfl h2 | cases hq; done)
  all_goals
    repeat' (split at hq <;> try (cases hq; done))
  all_goals
    refine ⟨_, hq, fun G w => ⟨_, by simp [eqGuard], ?_, by simp only [AV.is]; rfl⟩⟩
    clear hq
    first
      | (rename_i hk; subst hk; simp [binOp, Op.intArith, Op.intCmp]; done)
      | (rename_i hk hb; subst hk; simp [binOp, Op.intDiv, hb]; done)
      | (rename_i hb; simp [binOp, Op.shift, Int.not_lt.2 hb]; done)

theorem str_sound {op : BinOp} {a b : ByteArray} {t : TypeId} {x y : Operand} {k : AV → Option α} (h1 : op ≠ .eql) (h2 : op ≠ .neq) (hq : strA op a b k = some r) :
    ∃ av, k av = some r ∧ ∀ (G : Gh) (w : World), ∃ z, (eqGuard op t x y (.string a) (.string b)).run P w = .ok () w ∧ (binOp op t (.string a) (.string b)).run P w = .ok z w ∧ av.is G w z := by
  unfold strA at hq
  cases op <;> simp only at hq <;> try (first | exact absurd rfl h1 | exact absurd rfl h2 | cases hq; done)
  all_goals
    repeat' (split at hq <;> try (cases hq; done))
  all_goals
    refine ⟨_, hq, fun G w => ⟨_, by simp [eqGuard], ?_, by simp only [AV.is]; rfl⟩⟩
    clear hq
    first
      | (simp [binOp, Op.stringOp]; done)
      | (rename_i hb; simp only [binOp, Op.stringOp]; rw [if_neg hb]; rfl)

theorem bin_sound {op : BinOp} {t yt : TypeId} {x y : Operand} {k : AV → Option α} (hq : binA P h op t (e x) (e y) k = some r) :
    ∃ av, k av = some r ∧ ∀ o : Oper, o.op = .binOp op t x y yt → QOk P GW Λ h o e av := by
  have fin : ∀ av, k av = some r → (∀ (G : Gh) (w : World) (u v : Value), (e x).is G w u → (e y).is G w v → ∃ z, (eqGuard op t x y u v).run P w = .ok () w ∧ (binOp op t u v).run P w = .ok z w ∧ av.is G w z) →
      ∃ av, k av = some r ∧ ∀ o : Oper, o.op = .binOp op t x y yt → QOk P GW Λ h o e av := fun av hk hz =>
    ⟨av, hk, fun o ho => QOk.of_run fun B G w ρ hp2 hcp H hΛ hop => by
      obtain ⟨z, h1, h2, h3⟩ := hz G w (ρ x) (ρ y) (hop x (by simp [ho, Op.operands])) (hop y (by simp [ho, Op.operands]))
      exact ⟨z, by simp [execOp, ho, h1, h2], h3⟩⟩
  by_cases h1 : op = .eql
  · subst h1
    simp only [binA] at hq
    cases hb : eqA P h t (e x) (e y) with
    | none => simp [hb] at hq
    | some b =>
      simp only [hb] at hq
      exact fin _ hq fun G w u v hu hv => ⟨_, (run_eqA hb hu hv x y w).1.1, (run_eqA hb hu hv x y w).1.2, by simp [AV.is]⟩
  by_cases h2 : op = .neq
  · subst h2
    simp only [binA] at hq
    cases hb : eqA P h t (e x) (e y) with
    | none => simp [hb] at hq
    | some b =>
      simp only [hb] at hq
      exact fin _ hq fun G w u v hu hv => ⟨_, (run_eqA hb hu hv x y w).2.1, (run_eqA hb hu hv x y w).2.2, by simp [AV.is]⟩
  have hq' : (match e x, e y with
    | .int i a, .int j b => intA op i a j b k
    | .str a, .str b => strA op a b k
    | _, _ => none) = some r := by
    unfold binA at hq
    cases op <;> first | exact absurd rfl h1 | exact absurd rfl h2 | exact hq
  clear hq
  split at hq'
  · rename_i i a j b hex hey
    obtain ⟨av, hk, hz⟩ := int_sound (P := P) (t := t) (x := x) (y := y) h1 h2 hq'
    refine fin av hk fun G w u v hu hv => ?_
    rw [hex] at hu; rw [hey] at hv
    simp only [AV.is] at hu hv; subst hu; subst hv
    exact hz G w
  · rename_i a b hex hey
    obtain ⟨av, hk, hz⟩ := str_sound (P := P) (t := t) (x := x) (y := y) h1 h2 hq'
    refine fin av hk fun G w u v hu hv => ?_
    rw [hex] at hu; rw [hey] at hv
    simp only [AV.is] at hu hv; subst hu; subst hv
    exact hz G w
  · cases hq'

theorem run_equalIn_nil (w' : World) (n : Nat) (t : TypeId) {ms : Array (String × TypeId)} (h : P.underlying t = some (.interface ms)) : (Op.equalIn (n + 1) t .nilIface .nilIface).run P w' = .ok true w' := by
  simp only [Op.equalIn, Sem.run_bind, run_underlying h w', Result.andThen_ok]; rfl
theorem run_equalIn_ifc (w' : World) (n : Nat) (t : TypeId) {ms : Array (String × TypeId)} (h : P.underlying t = some (.interface ms)) (u : TypeId) (v : Value) : (Op.equalIn (n + 1) t (.iface u v) .nilIface).run P w' = .ok false w' := by
  simp only [Op.equalIn, Sem.run_bind, run_underlying h w', Result.andThen_ok]; rfl

theorem nilif_sound {op : BinOp} {t yt : TypeId} {x : Operand} {k : AV → Option α} (hy : e (.const .nilIface) = .val .nilIface) (hq : nilIfA P op t (e x) k = some r) :
    ∃ av, k av = some r ∧ ∀ o : Oper, o.op = .binOp op t x (.const .nilIface) yt → QOk P GW Λ h o e av := by
  unfold nilIfA at hq
  have key : ∀ (op' : BinOp) (b : Bool) (d : TypeDesc), (∃ ms, d = .interface ms) → P.underlying t = some d → op = op' → (∀ (G : Gh) (w : World) (u : Value), (e x).is G w u → (eqGuard op' t x (.const .nilIface) u .nilIface).run P w = .ok () w ∧ (binOp op' t u .nilIface).run P w = .ok (.bool b) w) → k (.bool b) = some r →
      ∃ av, k av = some r ∧ ∀ o : Oper, o.op = .binOp op t x (.const .nilIface) yt → QOk P GW Λ h o e av := fun op' b d hd ht h1 h2 h3 =>
    ⟨_, h3, fun o ho => QOk.of_run fun B G w ρ hp2 hcp H hΛ hop => by
      subst h1
      have hv := hop (.const .nilIface) (by simp [ho, Op.operands])
      rw [hy] at hv; simp only [AV.is] at hv
      obtain ⟨q1, q2⟩ := h2 G w (ρ x) (hop x (by simp [ho, Op.operands]))
      exact ⟨.bool b, by simp [execOp, ho, hv, q1, q2], by simp only [AV.is]⟩⟩
  split at hq
  · rename_i ms ht hex
    refine key .eql true _ ⟨_, rfl⟩ ht rfl (fun G w u hu => ?_) hq
    rw [hex] at hu; simp only [AV.is] at hu; subst hu
    have q := run_equalIn_nil (P := P) w 9999 t ht
    exact ⟨by simp [eqGuard], by simp [binOp, Op.equal, Op.maxDepth, q]⟩
  · rename_i ms u_ a_ ht hex
    refine key .eql false _ ⟨_, rfl⟩ ht rfl (fun G w u hu => ?_) hq
    rw [hex] at hu; simp only [AV.is] at hu; obtain ⟨v, rfl, _⟩ := hu
    have q := run_equalIn_ifc (P := P) w 9999 t ht u_ v
    exact ⟨by simp [eqGuard], by simp [binOp, Op.equal, Op.maxDepth, q]⟩
  · rename_i ms ht hex
    refine key .neq false _ ⟨_, rfl⟩ ht rfl (fun G w u hu => ?_) hq
    rw [hex] at hu; simp only [AV.is] at hu; subst hu
    have q := run_equalIn_nil (P := P) w 9999 t ht
    exact ⟨by simp [eqGuard], by simp [binOp, Op.equal, Op.maxDepth, q]⟩
  · rename_i ms u_ a_ ht hex
    refine key .neq true _ ⟨_, rfl⟩ ht rfl (fun G w u hu => ?_) hq
    rw [hex] at hu; simp only [AV.is] at hu; obtain ⟨v, rfl, _⟩ := hu
    have q := run_equalIn_ifc (P := P) w 9999 t ht u_ v
    exact ⟨by simp [eqGuard], by simp [binOp, Op.equal, Op.maxDepth, q]⟩
  · cases hq

theorem un_sound {op : UnOp} {t : TypeId} {x : Operand} {k : AV → Option α} (hq : unA op (e x) k = some r) :
    ∃ av, k av = some r ∧ ∀ o : Oper, o.op = .unOp op t x → QOk P GW Λ h o e av := by
  unfold unA at hq
  split at hq
  · rename_i i n hex
    refine ⟨_, hq, fun o ho => QOk.of_run fun B G w ρ hp2 hcp H hΛ hop => ?_⟩
    have hu := hop x (by simp [ho, Op.operands])
    rw [hex] at hu; simp only [AV.is] at hu
    exact ⟨.int i (i.wrap (0 - n)), by simp [execOp, ho, hu, Op.unary, Op.intArith], by simp [AV.is]⟩
  · rename_i b hex
    refine ⟨_, hq, fun o ho => QOk.of_run fun B G w ρ hp2 hcp H hΛ hop => ?_⟩
    have hu := hop x (by simp [ho, Op.operands])
    rw [hex] at hu; simp only [AV.is] at hu
    exact ⟨.bool (!b), by simp [execOp, ho, hu, Op.unary], by simp [AV.is]⟩
  · cases hq

theorem pick_sound {c x y : Operand} {k : AV → Option α} (hq : pickA (e c) (e x) (e y) k = some r) :
    ∃ av, k av = some r ∧ ∀ o : Oper, o.op = .pick c x y → QOk P GW Λ h o e av := by
  unfold pickA at hq
  split at hq
  · rename_i b hex
    cases b
    · refine ⟨_, hq, fun o ho => QOk.of_run fun B G w ρ hp2 hcp H hΛ hop => ?_⟩
      have hu := hop c (by simp [ho, Op.operands])
      rw [hex] at hu; simp only [AV.is] at hu
      exact ⟨ρ y, by simp [execOp, ho, hu, asBool], hop y (by simp [ho, Op.operands])⟩
    · refine ⟨_, hq, fun o ho => QOk.of_run fun B G w ρ hp2 hcp H hΛ hop => ?_⟩
      have hu := hop c (by simp [ho, Op.operands])
      rw [hex] at hu; simp only [AV.is] at hu
      exact ⟨ρ x, by simp [execOp, ho, hu, asBool], hop x (by simp [ho, Op.operands])⟩
  · cases hq

theorem bytesA_is {G : Gh} {w : World} : ∀ {l : List AV} {ns : List Int} {vs : List Value}, bytesA l = some ns → AV.isL G w l vs → vs = ns.map (.int .u8 ·)
  | [], ns, vs, h, hl => by simp only [bytesA] at h; cases h; simpa [AV.isL] using hl
  | a :: l, ns, vs, h, hl => by
    simp only [AV.isL] at hl
    obtain ⟨v, r, rfl, ha, hl⟩ := hl
    cases a with
    | int k n =>
      cases k with
      | u8 =>
        simp only [bytesA, Option.map_eq_some_iff] at h
        obtain ⟨ns', h, rfl⟩ := h
        simp only [AV.is] at ha
        rw [ha, bytesA_is h hl]; rfl
      | _ => simp [bytesA] at h
    | _ => simp [bytesA] at h

theorem foldl_bytes : ∀ (ns : List Int) (b : ByteArray), ns.foldl (fun r n => r.push (UInt8.ofNat n.toNat)) b = ⟨b.data ++ (ns.map fun n => UInt8.ofNat n.toNat).toArray⟩
  | [], b => by simp
  | n :: ns, b => by
    simp only [List.foldl_cons, List.map_cons]
    rw [foldl_bytes ns]
    congr 1
    apply Array.ext'
    simp [ByteArray.push]

theorem conv_sound {s d : TypeId} {x : Operand} {k : AV → Option α} (hq : convA P h s d (e x) k = some r) :
    ∃ av, k av = some r ∧ ∀ o : Oper, o.op = .convert s d x → QOk P GW Λ h o e av := by
  unfold convA at hq
  split at hq
  · rename_i el b off n c hs hd hex
    split at hq
    · rename_i el0 cb md0 hel hb
      split at hq
      · rename_i hle
        split at hq
        · rename_i ns hns
          refine ⟨_, hq, fun o ho => QOk.of_run fun B G w ρ hp2 hcp H hΛ hop => ?_⟩
          have hu := hop x (by simp [ho, Op.operands])
          rw [hex] at hu; simp only [AV.is] at hu
          obtain ⟨hbn, hu⟩ := hu
          obtain ⟨_, _, ca, hc, hcl⟩ := H.blk b _ ((hcp (by rw [ho]; rfl)).get hb (by rw [H.len]; assumption))
          have hlen := isL_len hcl
          have hvs := bytesA_is hns (isL_take (isL_drop hcl off) n)
          have hload := run_loadCells_list (P := P) w ⟨G.at_ b, off, none⟩ ((ca.toList.drop off).take n) (fun j u hj => by
            rw [add_addr]
            rw [List.getElem?_take] at hj
            split at hj
            · rw [List.getElem?_drop] at hj; simp [World.cell?, hc]; simpa using hj
            · cases hj)
          have hll : ((ca.toList.drop off).take n).length = n := by simp at hlen ⊢; omega
          rw [hll, hvs] at hload
          have hrun := run_bytesToString (P := P) w ⟨G.at_ b, off, none⟩ n c ns (by simpa using hload)
          rw [foldl_bytes] at hrun
          refine ⟨.string (bytesOf ns), ?_, by simp [AV.is]⟩
          have e1 := run_convert_bytes_string (P := P) w s d el (some ⟨G.at_ b, off, none⟩) n c hs hel hd
          simp only [execOp, ho, hu, Sem.run_bind, e1, hrun, Result.andThen_ok, Sem.run_pure]
          simp [bytesOf]
        · cases hq
      · cases hq
    · cases hq
  · rename_i i j i' n hs hd hex
    refine ⟨_, hq, fun o ho => QOk.of_run fun B G w ρ hp2 hcp H hΛ hop => ?_⟩
    have hu := hop x (by simp [ho, Op.operands])
    rw [hex] at hu; simp only [AV.is] at hu
    exact ⟨.int j (j.wrap n), by simp [execOp, ho, hu, convert, run_underlying hs, run_underlying hd, Conv.intToInt], by simp [AV.is]⟩
  · rename_i v hs hd hex
    refine ⟨_, hq, fun o ho => QOk.of_run fun B G w ρ hp2 hcp H hΛ hop => ?_⟩
    have hu := hop x (by simp [ho, Op.operands])
    rw [hex] at hu; simp only [AV.is] at hu
    exact ⟨.string v, by simp [execOp, ho, hu, convert, run_underlying hs, run_underlying hd], by simp [AV.is]⟩
  · rename_i i i' n hs hd hex
    refine ⟨_, hq, fun o ho => QOk.of_run fun B G w ρ hp2 hcp H hΛ hop => ?_⟩
    have hu := hop x (by simp [ho, Op.operands])
    rw [hex] at hu; simp only [AV.is] at hu
    exact ⟨.string (Utf8.encode n), by simp [execOp, ho, hu, convert, run_underlying hs, run_underlying hd, Conv.intToString], by simp [AV.is]⟩
  · cases hq

theorem D_at {l : List (List D)} {i j : Nat} {x : List D} {d : D} (hi : l[i]? = some x) (hj : x[j]? = some d) : D.at l i j = d := by
  simp [D.at, List.getD_eq_getElem?_getD, hi, hj]

theorem crep_elem {lay : Nat → List CK} {imm : Nat → Nat → Prop} {w : World} {t : Nat} {l : List (List D)} {v : Value} (h : CRep lay imm w (.seq t) (.seq l) v) {i : Nat} (hi : i < l.length) :
    ∃ b o cap, v = .slice (some ⟨b, o, none⟩) l.length cap ∧ SRep lay imm w t l i 0 (.pointer (some ⟨b, o + i * (lay t).length, none⟩)) := by
  cases h
  case nil => simp at hi
  case seq b o cap u h1 h2 h3 h4 =>
    refine ⟨b, o, cap, rfl, b, o + i * (lay t).length, rfl, fun j k hj => ?_⟩
    have hjl : j < (lay t).length := (List.getElem?_eq_some_iff.1 hj).1
    obtain ⟨q1, q2⟩ := h3 i j hi hjl
    refine ⟨q1, _, q2, ?_⟩
    have hx : l[i]? = some l[i] := List.getElem?_eq_getElem hi
    have hxl := h2 i _ hx
    have hd : l[i][j]? = some (l[i][j]'(by omega)) := List.getElem?_eq_getElem (by omega)
    rw [D_at hx hd]
    exact h4 i j _ _ k hx hd hj

theorem crep_slice {lay : Nat → List CK} {imm : Nat → Nat → Prop} {w : World} {t : Nat} {l : List (List D)} {v : Value} (h : CRep lay imm w (.seq t) (.seq l) v) : ∃ a c, v = .slice a l.length c := by
  cases h
  case nil => exact ⟨none, 0, rfl⟩
  case seq => exact ⟨_, _, rfl⟩

theorem pickN_sound {j : Int} {k : Nat → Option α} {r : α} : ∀ {n : Nat}, pickN j k n = some r → ∃ m, m < n ∧ j = (m : Int) ∧ k m = some r
  | 0, h => by cases h
  | n + 1, h => by
    unfold pickN at h
    split at h
    · rename_i hj; exact ⟨n, by omega, hj, h⟩
    · obtain ⟨m, h1, h2, h3⟩ := pickN_sound h; exact ⟨m, by omega, h2, h3⟩

theorem indexAddr_sound {t : TypeId} {x i : Operand} {k : AV → Option α} (hq : indexAddrA P Λ h t (e x) (e i) k = some r) :
    ∃ av, k av = some r ∧ ∀ o : Oper, o.op = .indexAddr t x i → QOk P GW Λ h o e av := by
  unfold indexAddrA at hq
  split at hq
  · rename_i el ik j hu hei
    split at hq
    · rename_i z hz
      split at hq
      · rename_i b off n c hex
        obtain ⟨m, hm, hjm, hq2⟩ := pickN_sound hq; subst hjm
        refine ⟨_, hq2, fun o ho => QOk.of_run fun B G w ρ hp2 hcp H hΛ hop => ?_⟩
        have hv := hop x (by simp [ho, Op.operands])
        have hv2 := hop i (by simp [ho, Op.operands])
        rw [hex] at hv; rw [hei] at hv2; simp only [AV.is] at hv hv2
        have hj : (0 : Int) ≤ (m : Int) ∧ (m : Int) < (n : Int) := ⟨by omega, by omega⟩
        refine ⟨.pointer (some ⟨G.at_ b, off + m * z, none⟩), ?_, by simp only [AV.is, and_true]; exact hv.1⟩
        simp [execOp, ho, hv.2, hv2, Instr.indexAt, asIntOf, run_underlying hu, run_szT hz w, hm, add_addr]
      · rename_i t' l hex
        split at hq
        · rename_i hzl
          split at hq
          · rename_i hj
            refine ⟨_, hq, fun o ho => QOk.of_run fun B G w ρ hp2 hcp H hΛ hop => ?_⟩
            have hv := hop x (by simp [ho, Op.operands])
            have hv2 := hop i (by simp [ho, Op.operands])
            rw [hex] at hv; rw [hei] at hv2; simp only [AV.is] at hv hv2
            obtain ⟨b, o', cap, hvv, hs⟩ := crep_elem hv (i := j.toNat) (by omega)
            refine ⟨.pointer (some ⟨b, o' + j.toNat * z, none⟩), ?_, by simp only [AV.is]; rw [hzl, ← hΛ]; exact hs⟩
            simp [execOp, ho, hvv, hv2, Instr.indexAt, asIntOf, run_underlying hu, run_szT hz w, hj.1, hj.2, add_addr]
          · cases hq
        · cases hq
      · rename_i rr qq hex
        split at hq
        · rename_i t' v' nb l hrow
          split at hq
          · rename_i hc
            obtain ⟨rfl, hzl⟩ := hc
            split at hq
            · rename_i hj
              refine ⟨_, hq, fun o ho => QOk.of_run fun B G w ρ hp2 hcp H hΛ hop => ?_⟩
              have hv := hop x (by simp [ho, Op.operands])
              have hv2 := hop i (by simp [ho, Op.operands])
              rw [hex] at hv; rw [hei] at hv2; simp only [AV.is] at hv hv2
              obtain ⟨h1, h2, _, h3⟩ := hv
              have hrow2 := (hcp (by rw [ho]; rfl)).get hrow (by rw [H.len]; exact h1)
              obtain ⟨hver, hrep⟩ := H.blk rr _ hrow2
              have hvv := h3 hver
              obtain ⟨_, _, _, xs, hown, _⟩ := hrep
              rcases hown.2 with ⟨_, hl0⟩ | ⟨g, cap, cur, hrv, _⟩
              · exfalso; omega
              · refine ⟨.pointer (some ⟨g, j.toNat * z, none⟩), ?_, by simp only [AV.is]; exact ⟨h1, h2, ⟨_, _, rfl⟩, fun _ => ⟨g, l.length, cap, hrv, by omega, rfl⟩⟩⟩
                simp [execOp, ho, hvv, hrv, hv2, Instr.indexAt, asIntOf, run_underlying hu, run_szT hz w, hj.1, hj.2, add_addr]
            · cases hq
          · cases hq
        · rename_i t' v' l hrow
          split at hq
          · rename_i hc
            obtain ⟨rfl, hzl⟩ := hc
            split at hq
            · rename_i hj
              refine ⟨_, hq, fun o ho => QOk.of_run fun B G w ρ hp2 hcp H hΛ hop => ?_⟩
              have hv := hop x (by simp [ho, Op.operands])
              have hv2 := hop i (by simp [ho, Op.operands])
              rw [hex] at hv; rw [hei] at hv2; simp only [AV.is] at hv hv2
              obtain ⟨h1, h2, _, h3⟩ := hv
              have hrow2 := (hcp (by rw [ho]; rfl)).get hrow (by rw [H.len]; exact h1)
              obtain ⟨hver, _, hrep⟩ := H.blk rr _ hrow2
              have hvv := h3 hver
              obtain ⟨b, o', cap, hrv, hs⟩ := crep_elem hrep (i := j.toNat) (by omega)
              refine ⟨.pointer (some ⟨b, o' + j.toNat * z, none⟩), ?_, by simp only [AV.is]; rw [hzl, ← hΛ]; exact hs⟩
              simp [execOp, ho, hvv, hrv, hv2, Instr.indexAt, asIntOf, run_underlying hu, run_szT hz w, hj.1, hj.2, add_addr]
            · cases hq
          · cases hq
        · rename_i t' v' l hrow
          split at hq
          · rename_i hc
            obtain ⟨rfl, hzl⟩ := hc
            split at hq
            · rename_i hj
              refine ⟨_, hq, fun o ho => QOk.of_run fun B G w ρ hp2 hcp H hΛ hop => ?_⟩
              have hv := hop x (by simp [ho, Op.operands])
              have hv2 := hop i (by simp [ho, Op.operands])
              rw [hex] at hv; rw [hei] at hv2; simp only [AV.is] at hv hv2
              obtain ⟨h1, h2, _, h3⟩ := hv
              have hrow2 := (hcp (by rw [ho]; rfl)).get hrow (by rw [H.len]; exact h1)
              obtain ⟨hver, hrep'⟩ := H.blk rr _ hrow2
              have hrep := hrep'.row
              have hvv := h3 hver
              obtain ⟨_, _, _, xs, hown, _⟩ := hrep
              rcases hown.2 with ⟨_, hl0⟩ | ⟨g, cap, cur, hrv, _⟩
              · exfalso; omega
              · refine ⟨.pointer (some ⟨g, j.toNat * z, none⟩), ?_, by simp only [AV.is]; exact ⟨h1, h2, ⟨_, _, rfl⟩, fun _ => ⟨g, l.length, cap, hrv, by omega, rfl⟩⟩⟩
                simp [execOp, ho, hvv, hrv, hv2, Instr.indexAt, asIntOf, run_underlying hu, run_szT hz w, hj.1, hj.2, add_addr]
            · cases hq
          · cases hq
        · cases hq
      · cases hq
    · cases hq
  · rename_i n el ik j hu hei
    split at hq
    · rename_i z b off hz hex
      obtain ⟨m, hm, hjm, hq2⟩ := pickN_sound hq; subst hjm
      refine ⟨_, hq2, fun o ho => QOk.of_run fun B G w ρ hp2 hcp H hΛ hop => ?_⟩
      have hv := hop x (by simp [ho, Op.operands])
      have hv2 := hop i (by simp [ho, Op.operands])
      rw [hex] at hv; rw [hei] at hv2; simp only [AV.is] at hv hv2
      refine ⟨.pointer (some ⟨G.at_ b, off + m * z, none⟩), ?_, by simp only [AV.is, and_true]; exact hv.1⟩
      simp [execOp, ho, hv.2, hv2, Instr.indexAt, Instr.sureAddr, asIntOf, run_underlying hu, run_szT hz w, hm, add_addr]
    · cases hq
  · cases hq

theorem fieldAddr_sound {t : TypeId} {x : Operand} {f : Nat} {av : AV} (hq : fieldAddrA P t (e x) f = some av) : ∀ o : Oper, o.op = .fieldAddr t x f → QOk P GW Λ h o e av := by
  intro o ho
  unfold fieldAddrA at hq
  split at hq
  · rename_i fs hu
    cases hf : fs[f]? with
    | none => simp [hf] at hq
    | some q =>
      simp only [hf] at hq
      cases hn : szT P q.type with
      | none => simp [hn] at hq
      | some n =>
        simp only [hn] at hq
        split at hq
        · cases hq
        · rename_i hne
          have run : ∀ (ρ : Operand → Value) (w : World) (b off : Nat), ρ x = .pointer (some ⟨b, off, none⟩) → (execOp ρ o).run P w = .ok (.value (.pointer (some ⟨b, off + q.offset, none⟩))) w := fun ρ w b off hv => by
            simp [execOp, ho, hv, Instr.fieldAt, run_underlying hu, hf, Instr.sureAddr, fieldPlace, run_szT hn w, hne, add_addr]
          split at hq
          · rename_i b off hex
            cases hq
            refine QOk.of_run fun B G w ρ hp2 hcp H hΛ hop => ?_
            have hv := hop x (by simp [ho, Op.operands])
            rw [hex] at hv; simp only [AV.is] at hv
            exact ⟨_, run ρ w _ _ hv.2, by simp only [AV.is, and_true]; exact hv.1⟩
          · rename_i el l i off hex
            cases hq
            refine QOk.of_run fun B G w ρ hp2 hcp H hΛ hop => ?_
            have hv := hop x (by simp [ho, Op.operands])
            rw [hex] at hv; simp only [AV.is] at hv
            obtain ⟨b, base, hv, hc⟩ := hv
            exact ⟨_, run ρ w _ _ hv, by simp only [AV.is]; exact ⟨b, base, by rw [Nat.add_assoc], hc⟩⟩
          · rename_i rr vv m i off hex
            cases hq
            refine QOk.of_run fun B G w ρ hp2 hcp H hΛ hop => ?_
            have hv := hop x (by simp [ho, Op.operands])
            rw [hex] at hv; simp only [AV.is] at hv
            obtain ⟨h1, h2, ⟨b, p, hpa⟩, h3⟩ := hv
            refine ⟨_, run ρ w _ _ hpa, ?_⟩
            simp only [AV.is]
            refine ⟨h1, h2, ⟨_, _, rfl⟩, fun e => ?_⟩
            obtain ⟨g, n', c, a1, a2, a3⟩ := h3 e
            rw [hpa] at a3
            simp only [Value.pointer.injEq, Option.some.injEq, Addr.mk.injEq, and_true] at a3
            obtain ⟨rfl, rfl⟩ := a3
            exact ⟨b, n', c, a1, a2, by rw [Nat.add_assoc]⟩
          · cases hq
  · cases hq

theorem field_sound {t : TypeId} {x : Operand} {f : Nat} {av : AV} (hq : fieldA P t (e x) f = some av) : ∀ o : Oper, o.op = .field t x f → QOk P GW Λ h o e av := by
  intro o ho
  unfold fieldA at hq
  split at hq
  · rename_i fs l hu hex
    cases hf : fs[f]? with
    | none => simp [hf] at hq
    | some q =>
      simp only [hf] at hq
      refine QOk.of_run fun B G w ρ hp2 hcp H hΛ hop => ?_
      have hv := hop x (by simp [ho, Op.operands])
      rw [hex] at hv; simp only [AV.is] at hv
      obtain ⟨cs, hcs, hl⟩ := hv
      obtain ⟨v, hrun, hv⟩ := run_partA hq hl w
      exact ⟨v, by simp [execOp, ho, hcs, Instr.field, run_underlying hu, hf, asAgg, hrun], hv⟩
  · cases hq

theorem evs_isL {G : Gh} {w : World} {ρ : Operand → Value} : ∀ (l : List Operand), (∀ x ∈ l, (e x).is G w (ρ x)) → AV.isL G w (l.map e) (l.map ρ)
  | [], _ => by simp [AV.isL]
  | x :: l, hx => by
    simp only [List.map_cons, AV.isL]
    exact ⟨_, _, rfl, hx x (by simp), evs_isL l fun y hy => hx y (by simp [hy])⟩

theorem build_sound {t : TypeId} {parts : Array (Nat × Operand)} {av : AV} (hq : buildA P t (parts.toList.map fun p => (p.1, e p.2)) = some av) : ∀ o : Oper, o.op = .build t parts → QOk P GW Λ h o e av := by
  intro o ho
  refine QOk.of_run fun B G w ρ hp2 hcp H hΛ hop => ?_
  have hp : AV.isL G w ((parts.toList.map fun p => (p.1, e p.2)).map (·.2)) ((parts.map fun (p : Nat × Operand) => (p.1, ρ p.2)).toList.map (·.2)) := by
    have := evs_isL (e := e) (G := G) (w := w) (ρ := ρ) (parts.toList.map (·.2)) (fun x hx => hop x (by simpa [ho, Op.operands] using hx))
    simpa [List.map_map, Function.comp_def] using this
  obtain ⟨v, hrun, hv⟩ := run_buildA (P := P) hq (vparts := parts.map fun (p : Nat × Operand) => (p.1, ρ p.2)) (by simp [List.map_map, Function.comp_def]) hp w
  refine ⟨v, ?_, hv⟩
  have e1 : execOp ρ o = (do pure (.value (← Instr.build t (parts.map fun (p : Nat × Operand) => (p.1, ρ p.2))))) := by simp only [execOp, ho]
  rw [e1, Sem.run_bind, hrun]
  rfl

theorem index_sound {t : TypeId} {x i : Operand} {k : AV → Option α} (hq : (match P.underlying t, e x, e i with
    | some .string, .str s, .int _ n => if 0 ≤ n ∧ n < (s.size : Int) then k (.int .u8 (byteAt s n)) else none
    | _, _, _ => none) = some r) : ∃ av, k av = some r ∧ ∀ o : Oper, o.op = .index t x i → QOk P GW Λ h o e av := by
  split at hq
  · rename_i s ik n hu hex hei
    split at hq
    · rename_i hb
      refine ⟨_, hq, fun o ho => QOk.of_run fun B G w ρ hp2 hcp H hΛ hop => ?_⟩
      have hv := hop x (by simp [ho, Op.operands])
      have hv2 := hop i (by simp [ho, Op.operands])
      rw [hex] at hv; simp only [AV.is] at hv
      rw [hei] at hv2; simp only [AV.is] at hv2
      refine ⟨.int .u8 (byteAt s n), ?_, by simp [AV.is]⟩
      have hlt : n.toNat < s.size := by omega
      have hg : s[n.toNat]? = some s[n.toNat] := getElem?_pos s n.toNat hlt
      simp only [execOp, ho, hv, hv2, Instr.index, Sem.run_bind, run_underlying hu, asIntOf, Sem.run_pure, Result.andThen_ok, hb.1, if_true, hg]
      have : byteAt s n = ((s[n.toNat]).toNat : Int) := by
        unfold byteAt
        rw [List.getD_eq_getElem?_getD, List.getElem?_eq_getElem (by simpa using hlt)]
        rfl
      rw [this]
    · cases hq
  · cases hq

theorem sliceStr_sound {t : TypeId} {x : Operand} {lo hi : Option Operand} {s : ByteArray} {k : AV → Option α} (hu : P.underlying t = some .string) (hex : e x = .str s)
    (hq : sliceStrA s (match lo with | some l => e l | none => .int .i64 0) (match hi with | some l => e l | none => .int .i64 s.size) k = some r) :
    ∃ av, k av = some r ∧ ∀ o : Oper, o.op = .slice t x lo hi none → QOk P GW Λ h o e av := by
  unfold sliceStrA at hq
  split at hq
  · rename_i i1 l i2 hh hl hhi
    split at hq
    · rename_i h1
      split at hq
      · rename_i h2
        refine ⟨_, hq, fun o ho => QOk.of_run fun B G w ρ hp2 hcp H hΛ hop => ?_⟩
        have hv := hop x (by simp [ho, Op.operands])
        rw [hex] at hv; simp only [AV.is] at hv
        refine ⟨.string (s.extract l.toNat hh.toNat), ?_, by simp [AV.is]⟩
        have e2 : ∀ (c : BoundsCode), (match hi.map ρ with | some v => Instr.sliceBound v s.size c | none => pure s.size).run P w = .ok hh.toNat w := fun c => by
          cases hi with
          | none => simp only at hhi; cases hhi; simp
          | some z =>
            simp only at hhi
            have := hop z (by simp [ho, Op.operands])
            rw [hhi] at this; simp only [AV.is] at this
            simp only [Option.map_some, this]
            exact run_sliceBound (P := P) w i2 hh s.size c h1.1 h1.2
        have e1 : ∀ (c : BoundsCode), (match lo.map ρ with | some v => Instr.sliceBound v hh.toNat c | none => pure 0).run P w = .ok l.toNat w := fun c => by
          cases lo with
          | none => simp only at hl; cases hl; simp
          | some z =>
            simp only at hl
            have := hop z (by simp [ho, Op.operands])
            rw [hl] at this; simp only [AV.is] at this
            simp only [Option.map_some, this]
            exact run_sliceBound (P := P) w i1 l hh.toNat c h2.1 (by omega)
        have eb : (Instr.sliceBounds false s.size s.size (lo.map ρ) (hi.map ρ) none).run P w = .ok (l.toNat, hh.toNat, s.size) w := by
          have e2' := e2 .sliceAlen
          have e1' := e1 .sliceB
          unfold Instr.sliceBounds
          cases hi <;> cases lo <;> simp only [Option.map_some, Option.map_none] at e1' e2' ⊢ <;>
            simp only [Sem.run_bind, Sem.run_pure, Result.andThen_ok, e1', e2', Bool.false_eq_true, if_false, Option.isSome_none] <;>
            (try (simp only [Sem.run_pure, Result.ok.injEq, and_true] at e2')) <;> (try (simp only [Sem.run_pure, Result.ok.injEq, and_true] at e1')) <;>
            simp only [Sem.run_bind, Sem.run_pure, Result.andThen_ok, e1', e2']
        have ex : execOp ρ o = (do pure (.value (← Instr.sliceAt t (ρ x) (lo.map ρ) (hi.map ρ) none))) := by simp only [execOp, ho, Option.map_none]
        rw [ex, hv]
        simp only [Instr.sliceAt, Instr.slice, Sem.run_bind, run_underlying hu, Result.andThen_ok, Option.isSome_none, Bool.false_eq_true, if_false, eb, Sem.run_pure]
      · cases hq
    · cases hq
  · cases hq

theorem extract_sound {x : Operand} {i : Nat} {l : List AV} {v : AV} (hex : e x = .tup l) (hl : l[i]? = some v) : ∀ o : Oper, o.op = .extract x i → QOk P GW Λ h o e v := by
  intro o ho
  refine QOk.of_run fun B G w ρ hp2 hcp H hΛ hop => ?_
  have hv := hop x (by simp [ho, Op.operands])
  rw [hex] at hv; simp only [AV.is] at hv
  obtain ⟨a, ha, hal⟩ := hv
  obtain ⟨u, hu, k⟩ := isL_get hal i v hl
  have hu' : a[i]? = some u := by simpa using hu
  exact ⟨u, by simp [execOp, ho, ha, Instr.extract, hu'], k⟩

theorem crep_sub {lay : Nat → List CK} {imm : Nat → Nat → Prop} {w : World} {t : Nat} {l : List (List D)} {v : Value} (h : CRep lay imm w (.seq t) (.seq l) v) (lo hi : Nat) (h1 : lo ≤ hi) (h2 : hi ≤ l.length) :
    ∃ a c, v = .slice a l.length c ∧ l.length ≤ c ∧ CRep lay imm w (.seq t) (.seq ((l.take hi).drop lo)) (.slice (if c = lo then a else a.map (·.add (lo * (lay t).length))) (hi - lo) (c - lo)) := by
  cases h
  case nil =>
    have e1 : hi = 0 := by simpa using h2
    have e2 : lo = 0 := by omega
    subst e1; subst e2
    exact ⟨none, 0, rfl, Nat.le_refl _, by simpa using CRep.nil t⟩
  case seq b o cap u q1 q2 q3 q4 =>
    refine ⟨_, cap, rfl, q1, ?_⟩
    have hlen : ((l.take hi).drop lo).length = hi - lo := by simp; omega
    have hget : ∀ i, ((l.take hi).drop lo)[i]? = if lo + i < hi then l[lo + i]? else none := fun i => by rw [List.getElem?_drop, List.getElem?_take]
    have hex : ∃ o', (if cap = lo then some (⟨b, o, none⟩ : Addr) else (some (⟨b, o, none⟩ : Addr)).map (·.add (lo * (lay t).length))) = some ⟨b, o', none⟩ ∧ (lo < hi → o' = o + lo * (lay t).length) := by
      by_cases e : cap = lo
      · exact ⟨o, by rw [if_pos e], fun _ => by omega⟩
      · exact ⟨o + lo * (lay t).length, by rw [if_neg e]; simp [add_addr], fun _ => rfl⟩
    obtain ⟨o', e, ho'⟩ := hex
    rw [e, ← hlen]
    refine .seq t _ b o' (cap - lo) (fun i j => u (lo + i) j) (by rw [hlen]; omega) (fun i x hx => ?_) (fun i j hi' hj => ?_) (fun i j x d k hx hd hk => ?_)
    · rw [hget] at hx
      split at hx
      · exact q2 _ _ hx
      · cases hx
    · rw [hlen] at hi'
      obtain ⟨a1, a2⟩ := q3 (lo + i) j (by omega) hj
      rw [show o' + i * (lay t).length + j = o + (lo + i) * (lay t).length + j by rw [ho' (by omega), Nat.add_mul]; omega]
      exact ⟨a1, a2⟩
    · rw [hget] at hx
      split at hx
      · exact q4 _ _ _ _ _ hx hd hk
      · cases hx

theorem sliceSeq_sound {t et t' : TypeId} {x : Operand} {lo hi : Option Operand} {l : List (List D)} {k : AV → Option α} (hu : P.underlying t = some (.slice et)) (hsz : szT P et = some (Λ t').length) (hex : e x = .seq t' l)
    (hq : sliceSeqA t' l (match lo with | some l => e l | none => .int .i64 0) (match hi with | some l => e l | none => .int .i64 l.length) k = some r) :
    ∃ av, k av = some r ∧ ∀ o : Oper, o.op = .slice t x lo hi none → QOk P GW Λ h o e av := by
  unfold sliceSeqA at hq
  split at hq
  · rename_i i1 l1 i2 hh hl hhi
    split at hq
    · rename_i h1
      split at hq
      · rename_i h2
        refine ⟨_, hq, fun o ho => QOk.of_run fun B G w ρ hp2 hcp H hΛ hop => ?_⟩
        have hv := hop x (by simp [ho, Op.operands])
        rw [hex] at hv; simp only [AV.is] at hv
        obtain ⟨a, c, hva, hlc, hsub⟩ := crep_sub hv l1.toNat hh.toNat (by omega) (by omega)
        refine ⟨_, ?_, by simp only [AV.is]; exact hsub⟩
        have e2 : ∀ (cd : BoundsCode), (match hi.map ρ with | some v => Instr.sliceBound v c cd | none => pure l.length).run P w = .ok hh.toNat w := fun cd => by
          cases hi with
          | none => simp only at hhi; cases hhi; simp
          | some z =>
            simp only at hhi
            have := hop z (by simp [ho, Op.operands])
            rw [hhi] at this; simp only [AV.is] at this
            simp only [Option.map_some, this]
            exact run_sliceBound (P := P) w i2 hh c cd h1.1 (by omega)
        have e1 : ∀ (cd : BoundsCode), (match lo.map ρ with | some v => Instr.sliceBound v hh.toNat cd | none => pure 0).run P w = .ok l1.toNat w := fun cd => by
          cases lo with
          | none => simp only at hl; cases hl; simp
          | some z =>
            simp only at hl
            have := hop z (by simp [ho, Op.operands])
            rw [hl] at this; simp only [AV.is] at this
            simp only [Option.map_some, this]
            exact run_sliceBound (P := P) w i1 l1 hh.toNat cd h2.1 (by omega)
        have eb : (Instr.sliceBounds true l.length c (lo.map ρ) (hi.map ρ) none).run P w = .ok (l1.toNat, hh.toNat, c) w := by
          have e2' := e2 .sliceAcap
          have e1' := e1 .sliceB
          unfold Instr.sliceBounds
          cases hi <;> cases lo <;> simp only [Option.map_some, Option.map_none] at e1' e2' ⊢ <;>
            simp only [Sem.run_bind, Sem.run_pure, Result.andThen_ok, e1', e2', if_true, Option.isSome_none, Bool.false_eq_true, if_false] <;>
            (try (simp only [Sem.run_pure, Result.ok.injEq, and_true] at e2')) <;> (try (simp only [Sem.run_pure, Result.ok.injEq, and_true] at e1')) <;>
            simp only [Sem.run_bind, Sem.run_pure, Result.andThen_ok, e1', e2']
        have ex : execOp ρ o = (do pure (.value (← Instr.sliceAt t (ρ x) (lo.map ρ) (hi.map ρ) none))) := by simp only [execOp, ho, Option.map_none]
        rw [ex, hva, hΛ]
        simp only [Instr.sliceAt, Instr.slice, Sem.run_bind, run_underlying hu, Result.andThen_ok, eb, Sem.run_pure, run_szT hsz w]
      · cases hq
    · cases hq
  · cases hq

theorem lenA_is {B : Nat} {G : Gh} {w : World} {h2 : Hp} (H : HRep G B h2 w) (hc : Compat h h2) {a : AV} {n : Nat} (hl : lenA h a = some n) {v : Value} (ha : a.is G w v) : ∃ p c, v = .slice p n c := by
  unfold lenA at hl
  split at hl
  · cases hl; simp only [AV.is] at ha; exact ⟨_, _, ha.2⟩
  · cases hl; simp only [AV.is] at ha; exact ⟨_, _, ha⟩
  · cases hl; simp only [AV.is] at ha; exact crep_slice ha
  · rename_i rr q
    simp only [AV.is] at ha
    obtain ⟨h1, _, _, h3⟩ := ha
    split at hl
    · rename_i e v nb l hrow
      split at hl
      · rename_i e
        subst e
        cases hl
        obtain ⟨hver, _, _, _, xs, hown, _⟩ := H.blk rr _ (hc.get hrow (by rw [H.len]; exact h1))
        rw [h3 hver]
        rcases hown.2 with ⟨hn, hl0⟩ | ⟨g, cap, cur, hrv, _⟩
        · rw [hn, hl0]; exact ⟨_, _, rfl⟩
        · exact ⟨_, _, hrv⟩
      · cases hl
    · rename_i e v l hrow
      split at hl
      · rename_i e
        subst e
        cases hl
        obtain ⟨hver, _, hrep⟩ := H.blk rr _ (hc.get hrow (by rw [H.len]; exact h1))
        rw [h3 hver]
        exact crep_slice hrep
      · cases hl
    · rename_i e v s fz hrow
      split at hl
      · rename_i e
        subst e
        cases hl
        obtain ⟨hver, _, hrep⟩ := H.blk rr _ (hc.get hrow (by rw [H.len]; exact h1))
        rw [h3 hver]
        rcases hrep with ⟨e0, e1⟩ | ⟨_, g, cap, cur, f, e1, _⟩
        · rw [e1, e0]; exact ⟨_, _, rfl⟩
        · exact ⟨_, _, e1⟩
      · cases hl
    · rename_i e v l hrow
      split at hl
      · rename_i e
        subst e
        cases hl
        obtain ⟨hver, hrep⟩ := H.blk rr _ (hc.get hrow (by rw [H.len]; exact h1))
        obtain ⟨_, _, _, xs, hown, _⟩ := hrep.row
        rw [h3 hver]
        rcases hown.2 with ⟨hn, hl0⟩ | ⟨g, cap, cur, hrv, _⟩
        · rw [hn, hl0]; exact ⟨_, _, rfl⟩
        · exact ⟨_, _, hrv⟩
      · cases hl
    · cases hl
  · cases hl

theorem builtin_sound {b : Builtin} {c : Call} {k : AV → Option α} (hc : c.callee = .builtin b) (hq : builtinA P h b c.argTypes (c.args.toList.map e) k = some r) :
    ∃ av, k av = some r ∧ ∀ o : Oper, o.op = .call c → QOk P GW Λ h o e av := by
  have ops : ∀ (o : Oper), o.op = .call c → ∀ x ∈ c.args.toList, x ∈ o.op.operands := fun o ho x hx => by
    simp only [ho, Op.operands, Call.operands, hc]
    simpa using hx
  have run : ∀ (o : Oper), o.op = .call c → ∀ (w : World) (ρ : Operand → Value), ∃ cs, (execOp ρ o).run P w = (builtin b c.argTypes o.type cs (c.args.map ρ)).run P w := fun o ho w ρ => by
    refine ⟨c.args.map fun | .const _ => true | _ => false, ?_⟩
    have e1 : execOp ρ o = (do let d ← resolve ρ c o.type; invoke d.target d.args) := by simp only [execOp, ho]
    rw [e1]
    simp only [resolve, hc]
    rfl
  have one : ∀ {v : AV}, c.args.toList.map e = [v] → ∃ x, c.args.toList = [x] := fun hargs => by
    cases hl : c.args.toList with
    | nil => simp [hl] at hargs
    | cons x t => cases t <;> simp [hl] at hargs ⊢
  unfold builtinA at hq
  split at hq
  · rename_i s hargs
    split at hq
    · rename_i hu
      refine ⟨_, hq, fun o ho => QOk.of_run fun B G w ρ hp2 hcp H hΛ hop => ?_⟩
      obtain ⟨x, hx⟩ := one hargs
      have hex : e x = .str s := by rw [hx] at hargs; simpa using hargs
      have hv := hop x (ops o ho x (by simp [hx]))
      rw [hex] at hv; simp only [AV.is] at hv
      have hca : c.args = #[x] := by apply Array.ext'; simpa using hx
      cases ht : c.argTypes[0]? with
      | none => simp [ht] at hu
      | some t =>
        simp [ht] at hu
        exact ⟨.int .i64 s.size, by obtain ⟨cs, hcs⟩ := run o ho w ρ; rw [hcs]; simp [builtin, Builtin.len_, ht, hca, hv, run_underlying hu, goInt], by simp [AV.is]⟩
    · cases hq
  · rename_i x' hnot hargs
    split at hq
    · rename_i el hu
      split at hq
      · rename_i n' hlen
        refine ⟨_, hq, fun o ho => QOk.of_run fun B G w ρ hp2 hcp H hΛ hop => ?_⟩
        obtain ⟨x, hx⟩ := one hargs
        have hex : e x = x' := by rw [hx] at hargs; simpa using hargs
        have hv := hop x (ops o ho x (by simp [hx]))
        rw [hex] at hv
        obtain ⟨a', c', hsl⟩ := lenA_is H (hcp (by rw [ho]; rfl)) hlen hv
        have hca : c.args = #[x] := by apply Array.ext'; simpa using hx
        cases ht : c.argTypes[0]? with
        | none => simp [ht] at hu
        | some t =>
          simp [ht] at hu
          exact ⟨.int .i64 n', by obtain ⟨cs, hcs⟩ := run o ho w ρ; rw [hcs]; simp [builtin, Builtin.len_, ht, hca, hsl, run_underlying hu, goInt], by simp [AV.is]⟩
      · cases hq
    · cases hq
  · rename_i i x j y hargs
    refine ⟨_, hq, fun o ho => QOk.of_run fun B G w ρ hp2 hcp H hΛ hop => ?_⟩
    obtain ⟨p, q, hx⟩ : ∃ p q, c.args.toList = [p, q] := by
      cases hl : c.args.toList with
      | nil => simp [hl] at hargs
      | cons p t => cases t with
        | nil => simp [hl] at hargs
        | cons q t => cases t <;> simp [hl] at hargs ⊢
    rw [hx] at hargs
    simp only [List.map_cons, List.map_nil, List.cons.injEq, and_true] at hargs
    have hv := hop p (ops o ho p (by simp [hx]))
    have hv2 := hop q (ops o ho q (by simp [hx]))
    rw [hargs.1] at hv; rw [hargs.2] at hv2; simp only [AV.is] at hv hv2
    have hca : c.args = #[p, q] := by apply Array.ext'; simpa using hx
    exact ⟨.int i (if y < x then y else x), by obtain ⟨cs, hcs⟩ := run o ho w ρ; rw [hcs]; simp [builtin, Builtin.min_, hca, hv, hv2, Builtin.min2], by simp [AV.is]⟩
  · rename_i i x j y hargs
    refine ⟨_, hq, fun o ho => QOk.of_run fun B G w ρ hp2 hcp H hΛ hop => ?_⟩
    obtain ⟨p, q, hx⟩ : ∃ p q, c.args.toList = [p, q] := by
      cases hl : c.args.toList with
      | nil => simp [hl] at hargs
      | cons p t => cases t with
        | nil => simp [hl] at hargs
        | cons q t => cases t <;> simp [hl] at hargs ⊢
    rw [hx] at hargs
    simp only [List.map_cons, List.map_nil, List.cons.injEq, and_true] at hargs
    have hv := hop p (ops o ho p (by simp [hx]))
    have hv2 := hop q (ops o ho q (by simp [hx]))
    rw [hargs.1] at hv; rw [hargs.2] at hv2; simp only [AV.is] at hv hv2
    have hca : c.args = #[p, q] := by apply Array.ext'; simpa using hx
    exact ⟨.int i (if y > x then y else x), by obtain ⟨cs, hcs⟩ := run o ho w ρ; rw [hcs]; simp [builtin, Builtin.max_, hca, hv, hv2, Builtin.max2], by simp [AV.is]⟩
  · rename_i hargs
    refine ⟨_, hq, fun o ho => QOk.of_run fun B G w ρ hp2 hcp H hΛ hop => ?_⟩
    obtain ⟨x, hx⟩ := one hargs
    have hex : e x = .val (.slice none 0 0) := by rw [hx] at hargs; simpa using hargs
    have hv := hop x (ops o ho x (by simp [hx]))
    rw [hex] at hv; simp only [AV.is] at hv
    have hca : c.args = #[x] := by apply Array.ext'; simpa using hx
    exact ⟨.pointer none, by
      obtain ⟨cs, hcs⟩ := run o ho w ρ
      rw [hcs, show c.args.map ρ = #[.slice none 0 0] by rw [hca]; simp [hv]]
      simp only [builtin, Sem.run_bind, Lib.run_unsafeSliceData_nil, Result.andThen_ok, Sem.run_pure], by simp [AV.is]⟩
  · rename_i rr q hargs
    split at hq
    · rename_i el v s fz hrow
      split at hq
      · rename_i e0
        subst e0
        refine ⟨_, hq, fun o ho => QOk.of_run fun B G w ρ hp2 hcp H hΛ hop => ?_⟩
        obtain ⟨x, hx⟩ := one hargs
        have hex : e x = .rs rr q := by rw [hx] at hargs; simpa using hargs
        have hv := hop x (ops o ho x (by simp [hx]))
        rw [hex] at hv; simp only [AV.is] at hv
        obtain ⟨h1, h2, _, h3⟩ := hv
        have hca : c.args = #[x] := by apply Array.ext'; simpa using hx
        obtain ⟨hver, _, hrep⟩ := H.blk rr _ ((hcp (by rw [ho]; rfl)).get hrow (by rw [H.len]; exact h1))
        have hrv := h3 hver
        obtain ⟨cs, hcs⟩ := run o ho w ρ
        rcases hrep with ⟨e0, e1⟩ | ⟨hpos, g, cap, cur, f, e1, _, _, _, hle, _⟩
        · refine ⟨.pointer none, by
            rw [hcs, show c.args.map ρ = #[.slice none 0 0] by rw [hca]; simp [hrv, e1]]
            simp only [builtin, Sem.run_bind, Lib.run_unsafeSliceData_nil, Result.andThen_ok, Sem.run_pure], ?_⟩
          rw [AV.is]
          exact ⟨h1, h2, ⟨_, rfl⟩, fun _ => .inl ⟨e1, rfl⟩⟩
        · refine ⟨.pointer (some ⟨g, 0, none⟩), by
            rw [hcs, show c.args.map ρ = #[.slice (some ⟨g, 0, none⟩) s.size cap] by rw [hca]; simp [hrv, e1]]
            simp only [builtin, Sem.run_bind, Lib.run_unsafeSliceData_row (c := cap) (hc := (show cap ≠ 0 by omega)), Result.andThen_ok, Sem.run_pure], ?_⟩
          rw [AV.is]
          exact ⟨h1, h2, ⟨_, rfl⟩, fun _ => .inr ⟨_, _, _, e1, rfl⟩⟩
      · cases hq
    · cases hq
  · cases hq

def Frz (h : Hp) (r : Nat) : Prop := (∃ e v nb l, h[r]? = some (.row e v nb l)) ∨ (∃ e l md, h[r]? = some (.cells e l md) ∧ md ≠ .glob)

theorem gle_imm {G : Gh} {w : World} {imm' : Nat → Nat → Prop} (hi : ∀ b o, G.imm b o → imm' b o) : G.le w { G with imm := imm' } w :=
  ⟨Nat.le_refl _, fun _ _ => rfl, hi, fun _ _ _ => rfl, fun _ _ => Nat.le_refl _, fun _ _ _ => rfl, rfl⟩

theorem row_crep {G : Gh} {B : Nat} {w : World} {e : TypeId} {nb : Bool} {l : List (List D)} {v : Value} {r : Nat} (h : RowRep G B w e nb l v (G.ft r)) (S : List Nat) (hr : r ∈ S) : CRep G.lay (immR G S) w (.seq e) (.seq l) v := by
  have h0 := h
  obtain ⟨h1, _, h3, xs, h4, h5⟩ := h
  rcases h4.2 with ⟨hn, hl0⟩ | ⟨g, cap, cur, hrv, _, hcur, hle, hmax, hsz, htake⟩
  · have : l = [] := List.eq_nil_of_length_eq_zero hl0
    subst this; rw [hn]; exact .nil e
  · obtain ⟨_, _, hft, hcells⟩ := h0.cells hrv
    rw [hrv]
    refine .seq e l g 0 cap (fun i j => (w.cell? ⟨g, i * (G.lay e).length + j, none⟩).getD undef) hle h3 (fun i j hi hj => ?_) (fun i j x d k hx hd hk => ?_)
    · obtain ⟨u, k, _, hc, _⟩ := hcells i j hi hj
      rw [Nat.zero_add]
      exact ⟨.inr ⟨r, hr, by rw [hft]; simp⟩, by rw [hc]; rfl⟩
    · have hi : i < l.length := (List.getElem?_eq_some_iff.1 hx).1
      have hj : j < (G.lay e).length := (List.getElem?_eq_some_iff.1 hk).1
      obtain ⟨u, k', hk', hc, hcr⟩ := hcells i j hi hj
      rw [hk] at hk'; cases hk'
      rw [hc, Option.getD_some, ← D_at hx hd]
      exact hcr.mono (fun _ _ q => .inl q) (fun _ _ _ => rfl)

theorem leafD_is {B : Nat} {G : Gh} {w : World} {h2 : Hp} (H : HRep G B h2 w) (hc2 : Compat h h2) {k : CK} {a : AV} {d : D} {S : List Nat} (hd : leafD h k a = some (d, S)) {v : Value} (ha : a.is G w v) : CRep G.lay (immR G S) w k d v ∧ ∀ r ∈ S, Frz h r ∧ r < G.n := by
  unfold leafD at hd
  split at hd
  · split at hd
    · rename_i e; subst e; cases hd; simp only [AV.is] at ha; subst ha; exact ⟨.int _ _, by simp⟩
    · cases hd
  · cases hd; simp only [AV.is] at ha; subst ha; exact ⟨.bool _, by simp⟩
  · cases hd; simp only [AV.is] at ha; subst ha; exact ⟨.str _, by simp⟩
  · split at hd
    · rename_i e; subst e; cases hd; simp only [AV.is] at ha
      exact ⟨ha.mono (fun _ _ q => .inl q) (fun _ _ _ => rfl), by simp⟩
    · cases hd
  · cases hd; simp only [AV.is] at ha; subst ha; exact ⟨.nil _, by simp⟩
  · rename_i t rr q
    simp only [AV.is] at ha
    obtain ⟨h1, _, _, h3⟩ := ha
    split at hd
    · rename_i e v' nb l hrow
      split at hd
      · rename_i hc
        obtain ⟨rfl, rfl⟩ := hc
        cases hd
        obtain ⟨hver, hrep⟩ := H.blk rr _ (hc2.get hrow (by rw [H.len]; exact h1))
        rw [h3 hver]
        exact ⟨row_crep hrep [rr] (by simp), by simp; exact ⟨.inl ⟨_, _, _, _, hrow⟩, h1⟩⟩
      · cases hd
    · rename_i e v' l hrow
      split at hd
      · rename_i hc
        obtain ⟨rfl, rfl⟩ := hc
        cases hd
        obtain ⟨hver, _, hrep⟩ := H.blk rr _ (hc2.get hrow (by rw [H.len]; exact h1))
        rw [h3 hver]
        exact ⟨hrep.mono (fun _ _ q => .inl q) (fun _ _ _ => rfl), by simp⟩
      · cases hd
    · cases hd
  · cases hd

theorem cellsD_is {G : Gh} {w : World} {g : CK → AV → Option (D × List Nat)} (hg : ∀ k a d S v, g k a = some (d, S) → a.is G w v → CRep G.lay (immR G S) w k d v ∧ ∀ r ∈ S, Frz h r ∧ r < G.n) :
    ∀ (ks : List CK) (l : List AV) (ds : List D) (S : List Nat) (vs : List Value), cellsD g ks l = some (ds, S) → AV.isL G w l vs →
      ds.length = ks.length ∧ (∀ r ∈ S, Frz h r ∧ r < G.n) ∧ ∀ (j : Nat) (d : D) (k : CK), ds[j]? = some d → ks[j]? = some k → ∃ u, vs[j]? = some u ∧ CRep G.lay (immR G S) w k d u
  | [], l, ds, S, vs, hd, hl => by simp only [cellsD] at hd; cases hd; simp
  | k :: ks, [], ds, S, vs, hd, hl => by simp [cellsD] at hd
  | k :: ks, a :: l, ds, S, vs, hd, hl => by
    simp only [cellsD] at hd
    split at hd
    · rename_i d1 S1 ds1 S2 e1 e2
      cases hd
      simp only [AV.isL] at hl
      obtain ⟨v, r, rfl, ha, hl⟩ := hl
      obtain ⟨c1, f1⟩ := hg _ _ _ _ _ e1 ha
      obtain ⟨n2, f2, c2⟩ := cellsD_is hg ks l ds1 S2 r e2 hl
      refine ⟨by simp [n2], fun r hr => ?_, fun j d k' hj hk => ?_⟩
      · rcases List.mem_append.1 hr with q | q
        · exact f1 r q
        · exact f2 r q
      · cases j with
        | zero => simp at hj hk; subst hj; subst hk; exact ⟨v, rfl, c1.mono (immR_mono fun r q => List.mem_append.2 (.inl q)) (fun _ _ _ => rfl)⟩
        | succ j =>
          obtain ⟨u, hu, hc⟩ := c2 j d k' (by simpa using hj) (by simpa using hk)
          exact ⟨u, by simpa using hu, hc.mono (immR_mono fun r q => List.mem_append.2 (.inr q)) (fun _ _ _ => rfl)⟩
    · cases hd

theorem rowsD_is {G : Gh} {w : World} {g : CK → AV → Option (D × List Nat)} (hg : ∀ k a d S v, g k a = some (d, S) → a.is G w v → CRep G.lay (immR G S) w k d v ∧ ∀ r ∈ S, Frz h r ∧ r < G.n) (ks : List CK) :
    ∀ (n : Nat) (l : List AV) (xs : List (List D)) (S : List Nat) (vs : List Value), rowsD g ks n l = some (xs, S) → AV.isL G w l vs →
      xs.length = n ∧ (∀ r ∈ S, Frz h r ∧ r < G.n) ∧ (∀ (i : Nat) (x : List D), xs[i]? = some x → x.length = ks.length) ∧
        ∀ (i j : Nat) (x : List D) (d : D) (k : CK), xs[i]? = some x → x[j]? = some d → ks[j]? = some k → ∃ u, vs[i * ks.length + j]? = some u ∧ CRep G.lay (immR G S) w k d u
  | 0, l, xs, S, vs, hd, hl => by simp only [rowsD] at hd; cases hd; simp
  | n + 1, l, xs, S, vs, hd, hl => by
    simp only [rowsD] at hd
    split at hd
    · rename_i d1 S1 ds1 S2 e1 e2
      cases hd
      obtain ⟨n1, f1, c1⟩ := cellsD_is hg ks l d1 S1 vs e1 hl
      obtain ⟨n2, f2, l2, c2⟩ := rowsD_is hg ks n (l.drop ks.length) ds1 S2 (vs.drop ks.length) e2 (isL_drop hl _)
      refine ⟨by simp [n2], fun r hr => ?_, fun i x hx => ?_, fun i j x d k hx hd hk => ?_⟩
      · rcases List.mem_append.1 hr with q | q
        · exact f1 r q
        · exact f2 r q
      · cases i with
        | zero => simp at hx; subst hx; exact n1
        | succ i => exact l2 i x (by simpa using hx)
      · cases i with
        | zero =>
          simp at hx; subst hx
          obtain ⟨u, hu, hc⟩ := c1 j d k hd hk
          exact ⟨u, by simpa using hu, hc.mono (immR_mono fun r q => List.mem_append.2 (.inl q)) (fun _ _ _ => rfl)⟩
        | succ i =>
          obtain ⟨u, hu, hc⟩ := c2 i j x d k (by simpa using hx) hd hk
          rw [List.getElem?_drop] at hu
          exact ⟨u, by rw [show (i + 1) * ks.length + j = ks.length + (i * ks.length + j) by rw [Nat.add_mul]; omega]; exact hu, hc.mono (immR_mono fun r q => List.mem_append.2 (.inr q)) (fun _ _ _ => rfl)⟩
    · cases hd

theorem asD_is {B : Nat} {G : Gh} {w : World} {h2 : Hp} (H : HRep G B h2 w) (hc2 : Compat h h2) (hΛ : G.lay = Λ) : ∀ (f : Nat) (k : CK) (a : AV) (d : D) (S : List Nat) (v : Value), asD Λ h f k a = some (d, S) → a.is G w v → CRep G.lay (immR G S) w k d v ∧ ∀ r ∈ S, Frz h r ∧ r < G.n
  | 0, k, a, d, S, v, hd, ha => leafD_is H hc2 (by simpa only [asD] using hd) ha
  | f + 1, k, a, d, S, v, hd, ha => by
    simp only [asD] at hd
    split at hd
    · rename_i t b o n c
      split at hd
      · rename_i e l md hb
        split at hd
        · rename_i hc
          obtain ⟨rfl, hmd, hnc⟩ := hc
          rw [Option.map_eq_some_iff] at hd
          obtain ⟨⟨xs, S1⟩, hx, hd⟩ := hd
          simp only [Prod.mk.injEq] at hd
          obtain ⟨rfl, rfl⟩ := hd
          simp only [AV.is] at ha
          obtain ⟨hbn, rfl⟩ := ha
          obtain ⟨hft, _, ca, hca, hcl⟩ := H.blk b _ (hc2.get hb (by rw [H.len]; exact hbn))
          obtain ⟨n1, f1, l1, c1⟩ := rowsD_is (h := h) (fun k a d S v => asD_is H hc2 hΛ f k a d S v) (Λ e) n (l.drop o) xs S1 (ca.toList.drop o) hx (isL_drop hcl o)
          refine ⟨?_, fun r hr => ?_⟩
          · rw [← hΛ] at l1 c1
            have hcell : ∀ i j u, (ca.toList.drop o)[i * (G.lay e).length + j]? = some u → w.cell? ⟨G.at_ b, o + i * (G.lay e).length + j, none⟩ = some u := fun i j u hu => by
              rw [List.getElem?_drop] at hu
              simp only [World.cell?, hca]
              rw [Nat.add_assoc]; simpa using hu
            have hlen := n1
            rw [← n1]
            refine .seq e xs (G.at_ b) o c (fun i j => (w.cell? ⟨G.at_ b, o + i * (G.lay e).length + j, none⟩).getD undef) (by omega) l1 (fun i j hi hj => ?_) (fun i j x d k hx hd hk => ?_)
            · have hx := List.getElem?_eq_getElem hi
              have hxl := l1 i _ hx
              have hd := List.getElem?_eq_getElem (l := xs[i]) (i := j) (by omega)
              obtain ⟨u, hu, _⟩ := c1 i j _ _ _ hx hd (List.getElem?_eq_getElem hj)
              refine ⟨.inr ⟨b, by simp, by rw [hft]; simp⟩, ?_⟩
              rw [hcell i j u hu]; rfl
            · obtain ⟨u, hu, hc⟩ := c1 i j x d k hx hd hk
              rw [hcell i j u hu, Option.getD_some]
              exact hc.mono (immR_mono fun r q => by simp [q]) (fun _ _ _ => rfl)
          · rcases List.mem_cons.1 hr with q | q
            · subst q; exact ⟨.inr ⟨e, l, md, hb, hmd⟩, hbn⟩
            · exact f1 r q
        · cases hd
      · cases hd
    · exact leafD_is H hc2 hd ha

theorem argA_is {B : Nat} {G : Gh} {w : World} {h2 : Hp} (H : HRep G B h2 w) (hc2 : Compat h h2) (hΛ : G.lay = Λ) {k : AK} {a x : AV} {S : List Nat} (hd : argA Λ h k a = some (x, S)) {v : Value} (ha : a.is G w v) :
    x.is { G with imm := immR G S } w v ∧ ∀ r ∈ S, Frz h r ∧ r < G.n := by
  unfold argA at hd
  split at hd
  · cases hd
    exact ⟨AV.is_mono (gle_imm fun _ _ q => .inl q) _ _ ha, by simp⟩
  · rw [Option.map_eq_some_iff] at hd
    obtain ⟨⟨d, S1⟩, hx, hd⟩ := hd
    simp only [Prod.mk.injEq] at hd
    obtain ⟨rfl, rfl⟩ := hd
    obtain ⟨hc, hf⟩ := asD_is H hc2 hΛ _ _ _ _ _ _ hx ha
    exact ⟨avOf_is (G := { G with imm := immR G S1 }) hc, hf⟩
  · split at hd
    · rename_i ks l hlen
      rw [Option.map_eq_some_iff] at hd
      obtain ⟨⟨ds, S1⟩, hx, hd⟩ := hd
      simp only [Prod.mk.injEq] at hd
      obtain ⟨rfl, rfl⟩ := hd
      simp only [AV.is] at ha ⊢
      obtain ⟨ca, rfl, hl⟩ := ha
      obtain ⟨n1, f1, c1⟩ := cellsD_is (h := h) (fun k a d S v => asD_is H hc2 hΛ 4 k a d S v) ks l ds S1 ca.toList hx hl
      refine ⟨⟨ca, rfl, avsAt_is (G := { G with imm := immR G S1 }) (by rw [isL_len hl, hlen]) fun j k hk => ?_⟩, f1⟩
      have hj : j < ds.length := by rw [n1]; exact (List.getElem?_eq_some_iff.1 hk).1
      obtain ⟨u, hu, hc⟩ := c1 j ds[j] k (List.getElem?_eq_getElem hj) hk
      refine ⟨u, hu, ?_⟩
      rw [Nat.zero_add, D_at (l := [ds]) (i := 0) rfl (List.getElem?_eq_getElem hj)]
      exact hc
    · cases hd
  · cases hd

theorem argsA_is {B : Nat} {G : Gh} {w : World} {h2 : Hp} (H : HRep G B h2 w) (hc2 : Compat h h2) (hΛ : G.lay = Λ) : ∀ (ks : List AK) (l xs : List AV) (S : List Nat) (vs : List Value), argsA Λ h ks l = some (xs, S) → AV.isL G w l vs →
    AV.isL { G with imm := immR G S } w xs vs ∧ ∀ r ∈ S, Frz h r ∧ r < G.n
  | [], [], xs, S, vs, hd, hl => by simp only [argsA] at hd; cases hd; simpa [AV.isL] using hl
  | [], a :: l, xs, S, vs, hd, hl => by simp [argsA] at hd
  | k :: ks, [], xs, S, vs, hd, hl => by simp [argsA] at hd
  | k :: ks, a :: l, xs, S, vs, hd, hl => by
    simp only [argsA] at hd
    split at hd
    · rename_i x S1 ys S2 e1 e2
      cases hd
      simp only [AV.isL] at hl
      obtain ⟨v, r, rfl, ha, hl⟩ := hl
      obtain ⟨c1, f1⟩ := argA_is H hc2 hΛ e1 ha
      obtain ⟨c2, f2⟩ := argsA_is H hc2 hΛ ks l ys S2 r e2 hl
      simp only [AV.isL]
      have up : ∀ (S' : List Nat), (∀ r ∈ S', r ∈ S1 ++ S2) → Gh.le { G with imm := immR G S' } w { G with imm := immR G (S1 ++ S2) } w := fun S' hs =>
        ⟨Nat.le_refl _, fun _ _ => rfl, immR_mono hs, fun _ _ _ => rfl, fun _ _ => Nat.le_refl _, fun _ _ _ => rfl, rfl⟩
      refine ⟨⟨v, r, rfl, AV.is_mono (up S1 fun r q => List.mem_append.2 (.inl q)) _ _ c1, AV.isL_mono (up S2 fun r q => List.mem_append.2 (.inr q)) _ _ c2⟩, fun r hr => ?_⟩
      rcases List.mem_append.1 hr with q | q
      · exact f1 r q
      · exact f2 r q
    · cases hd

end
end Go.Proofs.Qx

namespace Go.Proofs.Qx
open Go Go.RowKit
set_option linter.unusedVariables false
set_option linter.unusedSimpArgs false

section
variable {α : Type} {P : Program} {GW : World → Prop} {Λ : Nat → List CK} {r : α} {h : Hp} {e : Operand → AV}

theorem loadA_compat {G : Gh} {w : World} {h2 : Hp} (hc : Compat h h2) (hlen : h2.length = G.n) {t : TypeId} {p av : AV} (hl : loadA P Λ h t p = some av) {v : Value} (hp : p.is G w v) : loadA P Λ h2 t p = some av := by
  unfold loadA at hl ⊢
  cases p <;> simp only at hl ⊢ <;> try (first | exact hl | cases hl; done)
  case ptr b o =>
    simp only [AV.is] at hp
    cases hk : h[b]? with
    | none => simp [hk] at hl
    | some c => rw [hc.get hk (by rw [hlen]; exact hp.1)]; rw [hk] at hl; exact hl
  case ep rr q m i o =>
    simp only [AV.is] at hp
    cases hk : h[rr]? with
    | none => simp [hk] at hl
    | some c => rw [hc.get hk (by rw [hlen]; exact hp.1)]; rw [hk] at hl; exact hl

theorem flat1_is {G G' : Gh} {w w' : World} {a : AV} (hf : a.flat1 = true) {v : Value} (ha : a.is G w v) : a.is G' w' v := by
  cases a <;> simp only [AV.flat1] at hf <;> first | cases hf; done | simpa [AV.is] using ha
theorem flat1L_is {G G' : Gh} {w w' : World} : ∀ {l : List AV} {vs : List Value}, l.all AV.flat1 = true → AV.isL G w l vs → AV.isL G' w' l vs
  | [], vs, _, h => by simpa [AV.isL] using h
  | a :: l, vs, hf, h => by
    simp only [List.all_cons, Bool.and_eq_true] at hf
    simp only [AV.isL] at h ⊢
    obtain ⟨v, r, rfl, ha, hl⟩ := h
    exact ⟨v, r, rfl, flat1_is hf.1 ha, flat1L_is hf.2 hl⟩
theorem flat2L_is {G G' : Gh} {w w' : World} : ∀ {l : List AV} {vs : List Value}, (l.all fun a => match a with | .agg m => m.all AV.flat1 | a => a.flat1) = true → AV.isL G w l vs → AV.isL G' w' l vs
  | [], vs, _, h => by simpa [AV.isL] using h
  | a :: l, vs, hf, h => by
    simp only [List.all_cons, Bool.and_eq_true] at hf
    simp only [AV.isL] at h ⊢
    obtain ⟨v, r, rfl, ha, hl⟩ := h
    refine ⟨v, r, rfl, ?_, flat2L_is hf.2 hl⟩
    have h1 := hf.1
    cases a <;> simp only at h1
    case agg m => simp only [AV.is] at ha ⊢; obtain ⟨c, e, q⟩ := ha; exact ⟨c, e, flat1L_is h1 q⟩
    all_goals exact flat1_is h1 ha
theorem flat_is {G G' : Gh} {w w' : World} {a : AV} (hf : a.flat = true) {v : Value} (ha : a.is G w v) : a.is G' w' v := by
  cases a
  case agg l => simp only [AV.flat] at hf; simp only [AV.is] at ha ⊢; obtain ⟨c, e, q⟩ := ha; exact ⟨c, e, flat1L_is hf q⟩
  case tup l => simp only [AV.flat] at hf; simp only [AV.is] at ha ⊢; obtain ⟨c, e, q⟩ := ha; exact ⟨c, e, flat2L_is hf q⟩
  all_goals (simp only [AV.flat] at hf; exact flat1_is hf ha)

theorem immR_lt {B : Nat} {G : Gh} {w : World} {h2 : Hp} (H : HRep G B h2 w) (hc : Compat h h2) {S : List Nat} (hS : ∀ r ∈ S, r < G.n) : ∀ b o, immR G S b o → b < w.heap.size := fun b o q => by
  rcases q with q | ⟨r, hr, hb⟩
  · exact H.imm b o q
  · exact H.lt r (hS r hr) b hb

theorem run_call {o : Oper} {c : Call} {x : Operand} {f : Nat} (ho : o.op = .call c) (hc : c.callee = .value x) (hcf : ∀ args w, (callFunc f args).run P w = .ok (.enter f args) w) {G : Gh} {w : World} {ρ : Operand → Value} {first cap : List AV}
    (hex : e x = .fn f first cap) (hop : ∀ x ∈ o.op.operands, (e x).is G w (ρ x)) : ∃ vs : Array Value, (execOp ρ o).run P w = .ok (.enter f vs) w ∧ AV.isL G w (first ++ c.args.toList.map e ++ cap) vs.toList := by
  have ops : ∀ q ∈ c.operands, q ∈ o.op.operands := fun q hq => by simpa [ho, Op.operands] using hq
  have hv := hop x (ops x (by simp [Call.operands, hc]))
  rw [hex] at hv; simp only [AV.is] at hv
  obtain ⟨va, vb, hval, hla, hlb⟩ := hv
  have hargs : AV.isL G w (c.args.toList.map e) (c.args.map ρ).toList := by
    rw [Array.toList_map]
    exact evs_isL c.args.toList fun q hq => hop q (ops q (by simp [Call.operands, hc]; right; simpa using hq))
  refine ⟨va ++ c.args.map ρ ++ vb, ?_, ?_⟩
  · simp only [execOp, ho, resolve, hc, hval, Deferred.ofValue, Sem.run_bind, Sem.run_pure, Result.andThen_ok, invoke, hcf]
  · simp only [Array.toList_append]
    exact isL_append (isL_append hla hargs) hlb

theorem callQ_sound {Γ : List (Nat × CE)} (hΓ : AllOk P GW Λ Γ) {c : Call} {x : Operand} {f : Nat} {first cap : List AV} {τ : Type} {y : Option τ} {out : τ → Res} {sel : (β : Type) → τ → (Res → Option β) → Option β} {ok : ∀ β t k, sel β t k = k (out t)} {z : τ} {v : AV}
    (hc : c.callee = .value x) (hex : e x = .fn f first cap) (hcall : callQ Λ Γ h (first ++ c.args.toList.map e ++ cap) f = some (some (.mk τ y out sel ok))) (hz : y = some z) (hv : out z = .ret v) (hok : okRet Γ f v = true) :
    ∀ o : Oper, o.op = .call c → QOk P GW Λ h o e v := by
  intro o ho B G w a next Q h2 hcp H hΛ hgw hop hk
  unfold callQ at hcall
  split at hcall
  · rename_i ce hce
    obtain ⟨hcf, hcalls⟩ := hΓ f ce hce
    obtain ⟨vs, hrun, hall⟩ := run_call ho hc hcf hex hop
    split at hcall
    · rename_i as S has
      have hcp' := hcp (by rw [ho]; rfl)
      obtain ⟨hargs, hfrz⟩ := argsA_is H hcp' hΛ _ _ _ _ _ has hall
      have himm := immR_lt H hcp' (S := S) fun r hr => (hfrz r hr).2
      unfold Oper.wp
      rw [hrun]
      show Calls P f _ w _
      cases S with
      | nil =>
        have htells : ce.tells as = some (.mk τ y out sel ok) := by
          cases hm : ce.mode <;> rw [hm] at hcall <;> simp only at hcall <;> first | exact Option.some.inj hcall | cases hcall
        refine (hcalls as τ y out sel ok z htells hz { G with imm := immR G [] } w vs hΛ hgw himm hargs).mono ?_
        rintro en w' ⟨imm', ha, hE⟩
        rw [hv] at hE
        obtain ⟨u, rfl, hu⟩ := hE
        have ha' : After G.imm w imm' w' := by
          refine ⟨fun b o q => ha.more b o (.inl q), fun b o hb q => ?_, ha.new, ha.below⟩
          rcases ha.old b o hb q with q | ⟨r, hr, _⟩
          · exact q
          · simp at hr
        obtain ⟨H', hle⟩ := H.after ha'.below ha'.more ha'.old ha'.new
        exact hk imm' u w' H' hle ha' hu
      | cons s S =>
        have hm : ce.mode = .flat := by
          cases hm : ce.mode <;> rw [hm] at hcall <;> simp only at hcall <;> first | rfl | cases hcall
        have htells : ce.tells as = some (.mk τ y out sel ok) := by
          rw [hm] at hcall; exact Option.some.inj hcall
        have hflat : v.flat = true := by
          unfold okRet at hok
          rw [hce] at hok
          simpa only [hm] using hok
        refine (hcalls as τ y out sel ok z htells hz { G with imm := immR G (s :: S) } w vs hΛ hgw himm hargs).mono ?_
        rintro en w' ⟨imm', ha, hE⟩
        rw [hv] at hE
        obtain ⟨u, rfl, hu⟩ := hE
        obtain ⟨H', hle⟩ := H.below ha.below
        exact hk G.imm u w' H' hle ⟨fun _ _ q => q, fun _ _ _ q => q, H'.imm, ha.below⟩ (flat_is hflat hu)
    · cases hcall
  · cases hcall

theorem quiet_sound {Γ : List (Nat × CE)} (hΓ : AllOk P GW Λ Γ) {gl : List (Nat × Nat)} {fr : Fr} {op : Op} {k : AV → Option α} (hq : quietA P Λ Γ gl fr h op k = some r) :
    ∃ av, k av = some r ∧ ∀ o : Oper, o.op = op → QOk P GW Λ h o (ev gl fr) av := by
  unfold quietA at hq
  split at hq
  · rename_i x
    exact ⟨_, hq, fun o ho => QOk.of_run fun B G w ρ hp2 hcp H hΛ hop => ⟨ρ x, by simp [execOp, ho], hop x (by simp [ho, Op.operands])⟩⟩
  · rename_i x
    exact ⟨_, hq, fun o ho => QOk.of_run fun B G w ρ hp2 hcp H hΛ hop => ⟨ρ x, by simp [execOp, ho], hop x (by simp [ho, Op.operands])⟩⟩
  · exact pick_sound hq
  · split at hq
    · rename_i v hb; exact ⟨v, hq, build_sound hb⟩
    · cases hq
  · rename_i t p
    split at hq
    · rename_i v hb
      refine ⟨v, hq, fun o ho => QOk.of_run fun B G w ρ hp2 hcp H hΛ hop => ?_⟩
      have hp := hop p (by simp [ho, Op.operands])
      have hb2 := loadA_compat (G := G) (w := w) (hcp (by rw [ho]; rfl)) H.len hb hp
      obtain ⟨u, hu, k⟩ := run_loadA H hΛ hb2 hp
      exact ⟨u, by simp [execOp, ho, hu], k⟩
    · cases hq
  · rename_i x
    split at hq
    · rename_i b off hex
      refine ⟨_, hq, fun o ho => QOk.of_run fun B G w ρ hp2 hcp H hΛ hop => ?_⟩
      have hv := hop x (by simp [ho, Op.operands])
      rw [hex] at hv; simp only [AV.is] at hv
      exact ⟨ρ x, by simp [execOp, ho, hv.2], by simp only [AV.is]; exact hv⟩
    · rename_i el l i off hex
      refine ⟨_, hq, fun o ho => QOk.of_run fun B G w ρ hp2 hcp H hΛ hop => ?_⟩
      have hv := hop x (by simp [ho, Op.operands])
      rw [hex] at hv
      have hv' := hv
      simp only [AV.is] at hv'
      obtain ⟨b, base, hv', _⟩ := hv'
      exact ⟨ρ x, by simp [execOp, ho, hv'], hv⟩
    · rename_i rr vv m i off hex
      refine ⟨_, hq, fun o ho => QOk.of_run fun B G w ρ hp2 hcp H hΛ hop => ?_⟩
      have hv := hop x (by simp [ho, Op.operands])
      rw [hex] at hv
      have hv' := hv
      simp only [AV.is] at hv'
      obtain ⟨_, _, ⟨b, p, hv'⟩, _⟩ := hv'
      exact ⟨ρ x, by simp [execOp, ho, hv'], hv⟩
    · rename_i f l m hex
      refine ⟨_, hq, fun o ho => QOk.of_run fun B G w ρ hp2 hcp H hΛ hop => ?_⟩
      have hv := hop x (by simp [ho, Op.operands])
      rw [hex] at hv
      have hv' := hv
      simp only [AV.is] at hv'
      obtain ⟨b, p, hv', _⟩ := hv'
      exact ⟨ρ x, by simp [execOp, ho, hv'], hv⟩
    · cases hq
  · exact nilif_sound rfl hq
  · exact bin_sound hq
  · exact un_sound hq
  · exact conv_sound hq
  · split at hq
    · rename_i v hb; exact ⟨v, hq, fieldAddr_sound hb⟩
    · cases hq
  · exact indexAddr_sound hq
  · split at hq
    · rename_i v hb; exact ⟨v, hq, field_sound hb⟩
    · cases hq
  · exact index_sound hq
  · split at hq
    · rename_i s hu hex
      exact sliceStr_sound hu hex hq
    · rename_i et t' l hu hex
      split at hq
      · rename_i hsz
        exact sliceSeq_sound hu hsz hex hq
      · cases hq
    · cases hq
  · split at hq
    · rename_i l hex
      split at hq
      · rename_i v hl
        exact ⟨v, hq, extract_sound hex hl⟩
      · cases hq
    · cases hq
  · rename_i t x
    split at hq
    · cases hq
    · rename_i d hu hd
      refine ⟨_, hq, fun o ho => QOk.of_run fun B G w ρ hp2 hcp H hΛ hop => ⟨.iface t (ρ x), ?_, by simp only [AV.is]; exact ⟨_, rfl, hop x (by simp [ho, Op.operands])⟩⟩⟩
      have : (Instr.makeInterface t (ρ x)).run P w = .ok (.iface t (ρ x)) w := by
        simp only [Instr.makeInterface, Sem.run_bind, run_underlying hd, Result.andThen_ok]
        cases d <;> first | rfl | exact absurd rfl (hu _)
      simp [execOp, ho, this]
    · cases hq
  · rename_i x xt t
    split at hq
    · cases hq
    · rename_i d u a hu hd hx
      split at hq
      · rename_i hut
        subst hut
        refine ⟨_, hq, fun o ho => QOk.of_run fun B G w ρ hp2 hcp H hΛ hop => ?_⟩
        have h1 := hop x (by simp [ho, Op.operands])
        rw [hx] at h1
        simp only [AV.is] at h1
        obtain ⟨v, hv, ha⟩ := h1
        refine ⟨.tuple #[v, .bool true], ?_, by simp only [AV.is]; exact ⟨_, rfl, by simp only [AV.isL]; exact ⟨v, _, rfl, ha, _, _, rfl, rfl, rfl⟩⟩⟩
        have : (Instr.typeAssert (ρ x) xt u true).run P w = .ok (.tuple #[v, .bool true]) w := by
          rw [hv]
          simp only [Instr.typeAssert, Sem.run_bind, run_underlying hd, Result.andThen_ok]
          cases d <;> first | (simp; done) | exact absurd rfl (hu _)
        simp [execOp, ho, this]
      · cases hq
    · cases hq
  · rename_i f first cap
    refine ⟨_, hq, fun o ho => QOk.of_run fun B G w ρ hp2 hcp H hΛ hop => ⟨.func (.func f) (first.map ρ) (cap.map ρ), by simp [execOp, ho, Instr.makeFunc], ?_⟩⟩
    simp only [AV.is]
    refine ⟨_, _, rfl, ?_, ?_⟩
    · rw [Array.toList_map]; exact evs_isL first.toList fun q hq => hop q (by simp [ho, Op.operands]; left; simpa using hq)
    · rw [Array.toList_map]; exact evs_isL cap.toList fun q hq => hop q (by simp [ho, Op.operands]; right; simpa using hq)
  · rename_i c
    split at hq
    · rename_i b hc
      exact builtin_sound hc hq
    · rename_i x hc
      split at hq
      · rename_i f first cap hex
        split at hq
        · rename_i τ y out sel ok hcall
          cases hz : y with
          | none => simp [hz] at hq
          | some z =>
            rw [hz] at hq
            simp only [Option.bind_some, ok] at hq
            split at hq
            · rename_i v hv
              split at hq
              · rename_i hok
                exact ⟨_, hq, callQ_sound hΓ hc hex hcall hz hv hok⟩
              · cases hq
            · cases hq
        · cases hq
      · cases hq
    · cases hq
  · cases hq




def FrzD (h : Hp) (r : Nat) : Prop := Frz h r ∨ ∃ e v l, h[r]? = some (.froz e v l)

structure Gh.same (G G' : Gh) : Prop where
  at_ : G'.at_ = G.at_
  n : G'.n = G.n
  rv : G'.rv = G.rv
  ver : G'.ver = G.ver
  lay : G'.lay = G.lay

theorem gle_ft (G : Gh) (w : World) {imm' : Nat → Nat → Prop} (f : Nat → List Nat) (hi : ∀ b o, G.imm b o → imm' b o) : G.le w { G with imm := imm', ft := f } w :=
  ⟨Nat.le_refl _, fun _ _ => rfl, hi, fun _ _ _ => rfl, fun _ _ => Nat.le_refl _, fun _ _ _ => rfl, rfl⟩

theorem freeze1 {B : Nat} {G : Gh} {w : World} (H : HRep G B h w) {r : Nat} (hr : FrzD h r) :
    ∃ G', HRep G' B (frzA h [r]) w ∧ G.same G' ∧ (∀ b o, G'.imm b o ↔ immR G [r] b o) ∧ (∀ i, i ≠ r → G'.ft i = G.ft i) ∧ (G'.ft r = G.ft r ∨ G'.ft r = []) := by
  have hrn : r < G.n := by rw [← H.len]; rcases hr with (⟨_, _, _, _, q⟩ | ⟨_, _, _, q, _⟩) | ⟨_, _, _, q⟩ <;> exact (List.getElem?_eq_some_iff.1 q).1
  have hlt : ∀ {i b}, h[i]? = some b → i < G.n := fun hi => by rw [← H.len]; exact (List.getElem?_eq_some_iff.1 hi).1
  have key : ∀ (b : Blk) (f : List Nat) , (f = G.ft r ∨ f = []) → b.own = false → BRep { G with imm := immR G [r], ft := fun i => if i = r then f else G.ft i } B w r b →
      HRep { G with imm := immR G [r], ft := fun i => if i = r then f else G.ft i } B (h.set r b) w := fun b f hf hown hrep => by
    have hsub : ∀ i, ∀ g ∈ (if i = r then f else G.ft i), g ∈ G.ft i := fun i g hg => by
      split at hg
      · rename_i e; subst e
        rcases hf with rfl | rfl
        · exact hg
        · cases hg
      · exact hg
    refine ⟨by simpa using H.len, fun i c hi => ?_, fun i c hi ho g hg => ?_, fun i j hi hj hij g hg hg' => H.inj i j hi hj hij g (hsub i g hg) (hsub j g hg'), fun i hi g hg => H.lt i hi g (hsub i g hg),
      immR_lt H (Compat.refl h) fun r' hr' => by simp at hr'; subst hr'; exact hrn⟩
    · rw [List.getElem?_set] at hi
      by_cases q : r = i
      · subst q
        rw [if_pos rfl] at hi
        split at hi
        · cases hi; exact hrep
        · cases hi
      · rw [if_neg q] at hi
        have q' : i ≠ r := fun e => q e.symm
        refine (H.blk i c hi).mono (G' := { G with imm := immR G [r], ft := fun i => if i = r then f else G.ft i }) (gle_ft G w _ fun _ _ q => Or.inl q) rfl rfl rfl (by simp [q']) (fun _ _ => rfl) fun _ g hg o hi' => ?_
        rcases hi' with hi' | ⟨r', hr', hb⟩
        · exact hi'
        · simp at hr'; subst hr'
          exact absurd hb (H.inj i r' (hlt hi) hrn q' g hg)
    · rw [List.getElem?_set] at hi
      by_cases q : r = i
      · subst q
        rw [if_pos rfl] at hi
        split at hi
        · cases hi; rw [hown] at ho; cases ho
        · cases hi
      · rw [if_neg q] at hi
        have q' : i ≠ r := fun e => q e.symm
        have hg' := hsub i g hg
        obtain ⟨h1, h2⟩ := H.own i c hi ho g hg'
        refine ⟨h1, fun o hi' => ?_⟩
        rcases hi' with hi' | ⟨r', hr', hb⟩
        · exact h2 o hi'
        · simp at hr'; subst hr'
          exact H.inj i r' (hlt hi) hrn q' g hg' hb
  rcases hr with (⟨e, v, nb, l, hb⟩ | ⟨e, l, md, hb, hmd⟩) | ⟨e, v, l, hb⟩
  · obtain ⟨h1, h2⟩ := H.blk r _ hb
    have e1 : frzA h [r] = h.set r (.froz e v l) := by simp [frzA, hb]
    rw [e1]
    exact ⟨_, key (.froz e v l) [] (.inr rfl) rfl ⟨h1, by simp, row_crep h2 [r] (by simp)⟩, ⟨rfl, rfl, rfl, rfl, rfl⟩, fun _ _ => Iff.rfl, fun i hi => if_neg hi, .inr (if_pos rfl)⟩
  · obtain ⟨h1, h2, c, h3, h4⟩ := H.blk r _ hb
    cases md with
    | glob => exact absurd rfl hmd
    | own =>
      have e1 : frzA h [r] = h.set r (.cells e l .froz) := by simp [frzA, hb]
      rw [e1]
      refine ⟨_, key (.cells e l .froz) (G.ft r) (.inl rfl) rfl ⟨(if_pos rfl).trans h1, fun _ o => Or.inr ⟨r, by simp, by rw [h1]; simp⟩, c, h3, ?_⟩, ⟨rfl, rfl, rfl, rfl, rfl⟩, fun _ _ => Iff.rfl, fun i hi => if_neg hi, .inl (if_pos rfl)⟩
      exact AV.isL_mono (gle_ft G w _ fun _ _ q => Or.inl q) _ _ h4
    | froz =>
      have e1 : frzA h [r] = h := by simp [frzA, hb]
      rw [e1]
      refine ⟨G, H, ⟨rfl, rfl, rfl, rfl, rfl⟩, fun b o => ⟨.inl, fun q => ?_⟩, fun _ _ => rfl, .inl rfl⟩
      rcases q with q | ⟨r', hr', hb'⟩
      · exact q
      · simp at hr'; subst hr'
        rw [h1] at hb'; simp at hb'; subst hb'
        exact h2 rfl o
  · obtain ⟨_, h2, _⟩ := H.blk r _ hb
    have e1 : frzA h [r] = h := by simp [frzA, hb]
    rw [e1]
    refine ⟨G, H, ⟨rfl, rfl, rfl, rfl, rfl⟩, fun b o => ⟨.inl, fun q => ?_⟩, fun _ _ => rfl, .inl rfl⟩
    rcases q with q | ⟨r', hr', hb'⟩
    · exact q
    · simp at hr'; subst hr'
      rw [h2] at hb'; cases hb'

theorem frzA_one {r : Nat} (h1 : FrzD h r) : (frzA h [r] = h ∨ ∃ b, frzA h [r] = h.set r b ∧ ((∃ e v l, b = .froz e v l) ∨ ∃ e l, b = .cells e l .froz)) := by
  rcases h1 with (⟨e, v, nb, l, hb⟩ | ⟨e, l, md, hb, hmd⟩) | ⟨e, v, l, hb⟩
  · exact .inr ⟨_, by simp [frzA, hb]; rfl, .inl ⟨_, _, _, rfl⟩⟩
  · cases md with
    | glob => exact absurd rfl hmd
    | own => exact .inr ⟨_, by simp [frzA, hb]; rfl, .inr ⟨_, _, rfl⟩⟩
    | froz => exact .inl (by simp [frzA, hb])
  · exact .inl (by simp [frzA, hb])

theorem FrzD.kept {r r' : Nat} (hr : FrzD h r') (h1 : FrzD h r) : FrzD (frzA h [r]) r' := by
  rcases frzA_one h1 with e | ⟨b, e, hb⟩
  · rw [e]; exact hr
  · rw [e]
    by_cases q : r = r'
    · subst q
      have hlt : r < h.length := by rcases hr with (⟨_, _, _, _, q⟩ | ⟨_, _, _, q, _⟩) | ⟨_, _, _, q⟩ <;> exact (List.getElem?_eq_some_iff.1 q).1
      have e2 : (h.set r b)[r]? = some b := by simp [hlt]
      rcases hb with ⟨e, v, l, rfl⟩ | ⟨e, l, rfl⟩
      · exact .inr ⟨_, _, _, e2⟩
      · exact .inl (.inr ⟨_, _, .froz, e2, by simp⟩)
    · have e2 : (h.set r b)[r']? = h[r']? := by rw [List.getElem?_set, if_neg q]
      unfold FrzD Frz; rw [e2]; exact hr

theorem frzA_cons (h : Hp) (r : Nat) (S : List Nat) : frzA h (r :: S) = frzA (frzA h [r]) S := by
  cases hb : h[r]? with
  | none => simp [frzA, hb]
  | some b =>
    cases b
    case cells e l md => cases md <;> simp [frzA, hb]
    all_goals simp [frzA, hb]

theorem freeze {B : Nat} {w : World} : ∀ (S : List Nat) (h : Hp) (G : Gh), HRep G B h w → (∀ r ∈ S, FrzD h r) →
    ∃ G', HRep G' B (frzA h S) w ∧ G.same G' ∧ (∀ b o, G'.imm b o ↔ immR G S b o) ∧ (∀ i, G'.ft i = G.ft i ∨ G'.ft i = []) ∧ (∀ i, i ∉ S → G'.ft i = G.ft i)
  | [], h, G, H, _ => ⟨G, H, ⟨rfl, rfl, rfl, rfl, rfl⟩, fun b o => ⟨.inl, fun q => by
      rcases q with q | ⟨r, hr, _⟩
      · exact q
      · simp at hr⟩, fun _ => .inl rfl, fun _ _ => rfl⟩
  | r :: S, h, G, H, hS => by
    rw [frzA_cons]
    obtain ⟨G1, H1, s1, i1, f1, f1'⟩ := freeze1 H (hS r (by simp))
    obtain ⟨G2, H2, s2, i2, f2, f2'⟩ := freeze S (frzA h [r]) G1 H1 fun r' hr' => (hS r' (by simp [hr'])).kept (hS r (by simp))
    have ft1 : ∀ i, G1.ft i = G.ft i ∨ G1.ft i = [] := fun i => by
      by_cases q : i = r
      · subst q; exact f1'
      · exact .inl (f1 i q)
    refine ⟨G2, H2, ⟨s2.at_.trans s1.at_, s2.n.trans s1.n, s2.rv.trans s1.rv, s2.ver.trans s1.ver, s2.lay.trans s1.lay⟩, fun b o => ?_, fun i => ?_, fun i hi => ?_⟩
    · rw [i2]
      constructor
      · rintro (q | ⟨r', hr', hb⟩)
        · rcases (i1 b o).1 q with q | ⟨r', hr', hb⟩
          · exact .inl q
          · simp at hr'; subst hr'; exact .inr ⟨r', by simp, hb⟩
        · rcases ft1 r' with e | e
          · exact .inr ⟨r', by simp [hr'], by rw [← e]; exact hb⟩
          · rw [e] at hb; cases hb
      · rintro (q | ⟨r', hr', hb⟩)
        · exact .inl ((i1 b o).2 (.inl q))
        · by_cases q : r' = r
          · subst q; exact .inl ((i1 b o).2 (.inr ⟨r', by simp, hb⟩))
          · rcases List.mem_cons.1 hr' with e | e
            · exact absurd e q
            · exact .inr ⟨r', e, by rw [f1 r' q]; exact hb⟩
    · rcases f2 i with e | e
      · rw [e]; exact ft1 i
      · exact .inr e
    · rw [f2' i (fun q => hi (by simp [q])), f1 i (fun q => hi (by simp [q]))]

end
end Go.Proofs.Qx

namespace Go.Proofs.Qx
open Go Go.RowKit
set_option linter.unusedVariables false
set_option linter.unusedSimpArgs false

section
variable {α : Type} {P : Program} {GW : World → Prop} {Λ : Nat → List CK} {r : α} {h : Hp} {e : Operand → AV}

structure Bel (B : Nat) (wB w : World) : Prop where
  below : Below B wB w
  base : B ≤ wB.heap.size
theorem Bel.size {B : Nat} {wB w : World} (h : Bel B wB w) : B ≤ w.heap.size := Nat.le_trans h.base h.below.size
theorem Bel.trans {B : Nat} {wB w w' : World} (h : Bel B wB w) (k : Below B w w') : Bel B wB w' := ⟨h.below.trans k, h.base⟩
theorem Bel.alloc {B : Nat} {wB w : World} (h : Bel B wB w) (o : Obj) : Bel B wB (w.alloc o) := ⟨h.below.alloc h.size o, h.base⟩

structure Mv (B : Nat) (wB : World) (G : Gh) (w : World) (G' : Gh) (w' : World) : Prop where
  le : G.le w G' w'
  below : Bel B wB w'
  old : ∀ b x, b < B → G'.imm b x → G.imm b x
  size : w.heap.size ≤ w'.heap.size
  keep : ∀ g, g < w.heap.size → (∀ i, i < G.n → g ∉ G.ft i) → w'.heap[g]? = w.heap[g]?
  ft : ∀ i, i < G'.n → ∀ g ∈ G'.ft i, (∃ j, j < G.n ∧ g ∈ G.ft j) ∨ w.heap.size ≤ g
  imm : ∀ b x, G'.imm b x → G.imm b x ∨ (∃ j, j < G.n ∧ b ∈ G.ft j) ∨ w.heap.size ≤ b

theorem Mv.refl {B : Nat} {wB : World} {G : Gh} {w : World} (hb : Bel B wB w) : Mv B wB G w G w := ⟨.refl _ _, hb, fun _ _ _ q => q, Nat.le_refl _, fun _ _ _ => rfl, fun i hi g hg => .inl ⟨i, hi, hg⟩, fun _ _ q => .inl q⟩
theorem Mv.of {B : Nat} {wB : World} {G G' : Gh} {w w' : World} (le : G.le w G' w') (below : Bel B wB w') (himm : G'.imm = G.imm) (size : w.heap.size ≤ w'.heap.size)
    (keep : ∀ g, g < w.heap.size → (∀ i, i < G.n → g ∉ G.ft i) → w'.heap[g]? = w.heap[g]?) (ft : ∀ i, i < G'.n → ∀ g ∈ G'.ft i, (∃ j, j < G.n ∧ g ∈ G.ft j) ∨ w.heap.size ≤ g) : Mv B wB G w G' w' :=
  ⟨le, below, fun _ _ _ q => himm ▸ q, size, keep, ft, fun _ _ q => .inl (himm ▸ q)⟩
theorem Mv.push {B : Nat} {wB : World} {G : Gh} {w w' : World} {a : Nat} {r : Value} {f : List Nat} (le : G.le w (G.push a r f) w') (below : Bel B wB w') (size : w.heap.size ≤ w'.heap.size)
    (keep : ∀ g, g < w.heap.size → w'.heap[g]? = w.heap[g]?) (hf : ∀ g ∈ f, w.heap.size ≤ g) : Mv B wB G w (G.push a r f) w' :=
  .of le below rfl size (fun g hg _ => keep g hg) fun i hi g hg => by
    by_cases q : i = G.n
    · simp only [Gh.push, q, if_true] at hg; exact .inr (hf g hg)
    · simp only [Gh.push, if_neg q] at hg hi; exact .inl ⟨i, by omega, hg⟩
theorem Mv.after {B : Nat} {wB : World} {G : Gh} {imm' : Nat → Nat → Prop} {w w' : World} (hb : Bel B wB w) (ha : After G.imm w imm' w') (le : G.le w { G with imm := imm' } w') : Mv B wB G w { G with imm := imm' } w' :=
  ⟨le, hb.trans (ha.below.mono hb.size), fun b x hbB q => ha.old b x (Nat.lt_of_lt_of_le hbB hb.size) q, ha.below.size, fun g hg _ => ha.below.block g hg, fun i hi g hg => .inl ⟨i, hi, hg⟩, fun b x q => by
    by_cases e : b < w.heap.size
    · exact .inl (ha.old b x e q)
    · exact .inr (.inr (Nat.le_of_not_lt e))⟩
theorem Mv.trans {B : Nat} {wB : World} {G G1 G2 : Gh} {w w1 w2 : World} (h : Mv B wB G w G1 w1) (k : Mv B wB G1 w1 G2 w2) : Mv B wB G w G2 w2 :=
  ⟨h.le.trans k.le, k.below, fun b x hb q => h.old b x hb (k.old b x hb q), Nat.le_trans h.size k.size, fun g hg hn => by
    rw [k.keep g (Nat.lt_of_lt_of_le hg h.size) fun i hi hgi => ?_, h.keep g hg hn]
    rcases h.ft i hi g hgi with ⟨j, hj, hgj⟩ | q
    · exact hn j hj hgj
    · omega, fun i hi g hg => by
    rcases k.ft i hi g hg with ⟨j, hj, hgj⟩ | q
    · exact h.ft j hj g hgj
    · exact .inr (Nat.le_trans h.size q), fun b x q => by
    rcases k.imm b x q with q | ⟨j, hj, hgj⟩ | q
    · exact h.imm b x q
    · rcases h.ft j hj b hgj with q | q
      · exact .inr (.inl q)
      · exact .inr (.inr q)
    · exact .inr (.inr (Nat.le_trans h.size q))⟩

def AOk (P : Program) (Λ : Nat → List CK) (B : Nat) (wB : World) (o : Oper) (e : Operand → AV) (h h' : Hp) (av : AV) : Prop :=
  ∀ (G : Gh) (w : World) (a : Act) (next : Act → World → Prop) (Q : Exit → Act → World → Prop), HRep G B h w → G.lay = Λ → Bel B wB w → (∀ x ∈ o.op.operands, (e x).is G w (a.eval x)) →
    (∀ (G' : Gh) (v : Value) (w' : World), HRep G' B h' w' → Mv B wB G w G' w' → av.is G' w' v → next (a.put o.dst v) w') → o.wp P a w next Q
def POk (P : Program) (Λ : Nat → List CK) (B : Nat) (wB : World) (o : Oper) (e : Operand → AV) (h h' : Hp) (v : Value) : Prop :=
  ∀ (G : Gh) (w : World) (a : Act) (next : Act → World → Prop) (Q : Exit → Act → World → Prop), HRep G B h w → G.lay = Λ → Bel B wB w → (∀ x ∈ o.op.operands, (e x).is G w (a.eval x)) →
    (∀ (G' : Gh) (w' : World), HRep G' B h' w' → Mv B wB G w G' w' → Q (.panic [{ v, recovered := false }]) a w') → o.wp P a w next Q

theorem AOk.of_run {B : Nat} {wB : World} {o : Oper} {h' : Hp} {av : AV}
    (hr : ∀ (G : Gh) (w : World) (ρ : Operand → Value), HRep G B h w → G.lay = Λ → Bel B wB w → (∀ x ∈ o.op.operands, (e x).is G w (ρ x)) →
      ∃ n v w' G', (execOp ρ o).run P w = .ok n w' ∧ (n = .value v ∨ (n = .skip ∧ v = undef)) ∧ HRep G' B h' w' ∧ Mv B wB G w G' w' ∧ av.is G' w' v) : AOk P Λ B wB o e h h' av := by
  intro G w a next Q H hΛ hb hop hk
  obtain ⟨n, v, w', G', hrun, hn, H', hm, hv⟩ := hr G w a.eval H hΛ hb hop
  unfold Oper.wp
  rw [hrun]
  rcases hn with rfl | ⟨rfl, rfl⟩
  · exact hk G' v w' H' hm hv
  · exact hk G' undef w' H' hm hv

theorem AOk.of_quiet {B : Nat} {wB : World} (stab : ∀ w', Bel B wB w' → GW w') {o : Oper} {av : AV} (hq : QOk P GW Λ h o e av) : AOk P Λ B wB o e h h av := by
  intro G w a next Q H hΛ hb hop hk
  exact hq B G w a next Q h (fun _ => Compat.refl h) H hΛ (stab w hb) hop fun imm' v w' H' hle ha hv =>
    hk _ v w' H' (.after hb ha hle) hv

theorem zeroA_run {t : TypeId} {z : List AV} (hz : zeroA P t = some z) (G : Gh) (w w' : World) : ∃ v, (zeroValue t).run P w' = .ok v w' ∧ AV.isL G w z v.cells.toList := by
  unfold zeroA at hz
  cases hi : P.info? t with
  | none => simp [hi] at hz
  | some i =>
    cases hq : i.zero with
    | none => simp [hi, hq] at hz
    | some v =>
      simp [hi, hq] at hz
      subst hz
      exact ⟨v, by simp [zeroValue, typeInfo, hi, hq], ofCs_is G w v.cells.toList⟩

theorem below_setRow {B : Nat} {a w : World} (hb : Bel B a w) {g : Nat} (hg : B ≤ g) (c : Array Value) : Bel B a (w.setRow g c) :=
  hb.trans ⟨rfl, rfl, rfl, by simp [World.setRow], fun k hk => by simp only [World.setRow, Array.getElem?_modify]; rw [if_neg (by omega)]⟩

theorem mv_setRow {B : Nat} {wB : World} {G : Gh} {w : World} (H : HRep G B h w) {g : Nat} {c : Array Value} (hle : G.le w G (w.setRow g c)) (hb : Bel B wB w) (hg : B ≤ g) {i : Nat} (hi : i < G.n) (hgi : g ∈ G.ft i) : Mv B wB G w G (w.setRow g c) :=
  .of hle (below_setRow hb hg _) rfl (by simp [World.setRow]) (fun k _ hn => by
    have hne : k ≠ g := fun e => hn i hi (e ▸ hgi)
    simp only [World.setRow, Array.getElem?_modify]
    rw [if_neg (by omega)]) fun j hj k hk => .inl ⟨j, hj, hk⟩

theorem alloc_mv {B : Nat} {wB : World} {G : Gh} {w : World} (H : HRep G B h w) (hb : Bel B wB w) {t : TypeId} {l : List AV} {c : Array Value} (hl : AV.isL G w l c.toList) :
    ∃ G', HRep G' B (h ++ [.cells t l .own]) (w.alloc (.cells c t)) ∧ Mv B wB G w G' (w.alloc (.cells c t)) ∧ h.length < G'.n ∧ G'.at_ h.length = w.heap.size := by
  obtain ⟨H', hle⟩ := H.alloc (t := t) hb.size hl
  refine ⟨_, H', .push hle (hb.alloc _) (by simp) (fun g hg => Below.heap_alloc _ _ _ hg) (by simp), by simp [Gh.push, H.len], by simp [Gh.push, H.len]⟩

theorem freeze_mv {B : Nat} {wB : World} {G : Gh} {w : World} (H : HRep G B h w) (hb : Bel B wB w) {S : List Nat} (hS : ∀ r ∈ S, FrzD h r) :
    ∃ G', HRep G' B (frzA h S) w ∧ Mv B wB G w G' w ∧ G.same G' ∧ (∀ b o, G'.imm b o ↔ immR G S b o) ∧ (∀ i, G'.ft i = G.ft i ∨ G'.ft i = []) ∧ (∀ i, i ∉ S → G'.ft i = G.ft i) := by
  obtain ⟨G', H', s, i1, f1, f2⟩ := freeze S h G H hS
  refine ⟨G', H', ⟨⟨by rw [s.n]; exact Nat.le_refl _, fun i _ => by rw [s.at_], fun b o q => (i1 b o).2 (.inl q), fun _ _ _ => rfl, fun i _ => by rw [s.ver]; exact Nat.le_refl _, fun i _ _ => by rw [s.rv], s.lay⟩, hb, fun b x hbB q => ?_, Nat.le_refl _, fun _ _ _ => rfl, fun i hi g hg => ?_, fun b x q => ?_⟩, s, i1, f1, f2⟩
  rotate_left
  · rcases f1 i with e | e
    · rw [e] at hg; exact .inl ⟨i, by rw [← s.n]; exact hi, hg⟩
    · rw [e] at hg; cases hg
  · rcases (i1 b x).1 q with q | ⟨r, hr, hbr⟩
    · exact .inl q
    · refine .inr (.inl ⟨r, ?_, hbr⟩)
      rw [← H.len]
      rcases hS r hr with (⟨_, _, _, _, q⟩ | ⟨_, _, _, q, _⟩) | ⟨_, _, _, q⟩ <;> exact (List.getElem?_eq_some_iff.1 q).1
  rcases (i1 b x).1 q with q | ⟨r, hr, hbr⟩
  · exact q
  · rcases hS r hr with (⟨e, v, nb, l, hrow⟩ | ⟨e, l, md, hrow, hmd⟩) | ⟨e, v, l, hrow⟩
    · have := (H.own r _ hrow rfl b hbr).1; omega
    · cases md with
      | glob => exact absurd rfl hmd
      | own => have := (H.own r _ hrow rfl b hbr).1; omega
      | froz =>
        obtain ⟨h1, h2, _⟩ := H.blk r _ hrow
        rw [h1] at hbr; simp at hbr; subst hbr
        exact h2 rfl x
    · obtain ⟨_, h2, _⟩ := H.blk r _ hrow
      rw [h2] at hbr; cases hbr

theorem isL_same {G G' : Gh} {w : World} (s : G.same G') {S : List Nat} (hi : ∀ b o, immR G S b o → G'.imm b o) {l : List AV} {vs : List Value} (hl : AV.isL { G with imm := immR G S } w l vs) : AV.isL G' w l vs := by
  refine AV.isL_mono (G := { G with imm := immR G S }) ⟨by rw [s.n]; exact Nat.le_refl _, fun i _ => by rw [s.at_], hi, fun _ _ _ => rfl, fun i _ => by rw [s.ver]; exact Nat.le_refl _, fun i _ _ => by rw [s.rv], s.lay⟩ _ _ hl

theorem frzA_get : ∀ (S : List Nat) (h : Hp) (i : Nat), i ∉ S → (frzA h S)[i]? = h[i]?
  | [], h, i, _ => rfl
  | r :: S, h, i, hi => by
    have h1 : i ≠ r := fun e => hi (by simp [e])
    have h2 : i ∉ S := fun e => hi (by simp [e])
    rw [frzA_cons, frzA_get S _ i h2]
    simp only [frzA]
    split
    · rw [List.getElem?_set, if_neg (fun e => h1 e.symm)]
    · rw [List.getElem?_set, if_neg (fun e => h1 e.symm)]
    · rfl
theorem frzA_len : ∀ (S : List Nat) (h : Hp), (frzA h S).length = h.length
  | [], h => rfl
  | r :: S, h => by
    rw [frzA_cons, frzA_len S]
    simp only [frzA]
    split <;> simp

def Gh.bare (G : Gh) (r : Nat) : Gh := { G with ft := fun i => if i = r then (G.rv r).ownBlock.toList else G.ft i }
def Gh.dress (G : Gh) (r : Nat) (us : List Value) : Gh := { G with ft := fun i => if i = r then (G.rv r).ownBlock.toList ++ us.flatMap (fun u => u.ownBlock.toList) else G.ft i }

theorem gle_dress (G : Gh) (w : World) (r : Nat) (us : List Value) : G.le w (G.dress r us) w := gle_ft G w _ fun _ _ q => q
theorem gle_bare (G : Gh) (w : World) (r : Nat) : G.le w (G.bare r) w := gle_ft G w _ fun _ _ q => q

theorem HRep.bare {B : Nat} {G : Gh} {w : World} (H : HRep G B h w) {r e v : Nat} {l : List (List D)} (hk : h[r]? = some (.trow e v l)) : HRep (G.bare r) B (h.set r (.row e v false l)) w := by
  obtain ⟨hver, hT⟩ := H.blk r _ hk
  obtain ⟨h1, h2, h3, h4, xs, us, h5, h6, h7, h8, h10⟩ := id hT
  have hsub : ∀ i, ∀ g ∈ (G.bare r).ft i, g ∈ G.ft i := fun i g hg => by
    unfold Gh.bare at hg
    by_cases q : i = r
    · subst q; simp only [if_true] at hg; rw [h8]; exact List.mem_append_left _ hg
    · simp only [if_neg q] at hg; exact hg
  have hget : ∀ {j c}, (h.set r (.row e v false l))[j]? = some c → (j = r ∧ c = .row e v false l) ∨ (j ≠ r ∧ h[j]? = some c) := fun {j c} hj => by
    rw [List.getElem?_set] at hj
    by_cases q : r = j
    · rw [if_pos q] at hj
      split at hj
      · cases hj; exact .inl ⟨q.symm, rfl⟩
      · cases hj
    · rw [if_neg q] at hj; exact .inr ⟨fun e => q e.symm, hj⟩
  refine ⟨by rw [List.length_set]; exact H.len, fun i c hi => ?_, fun i c hi ho g hg => ?_, fun i j hi hj hij g hg hg' => H.inj i j hi hj hij g (hsub i g hg) (hsub j g hg'), fun i hi g hg => H.lt i hi g (hsub i g hg), H.imm⟩
  · rcases hget hi with ⟨rfl, rfl⟩ | ⟨q, hi⟩
    · exact ⟨hver, by simpa [Gh.bare] using hT.row.mono (G' := G.bare i) (gle_bare G w i) fun _ _ => rfl⟩
    · exact (H.blk i c hi).mono (gle_bare G w r) rfl rfl rfl (by simp [Gh.bare, q]) (fun _ _ => rfl) fun _ _ _ _ q => q
  · rcases hget hi with ⟨rfl, rfl⟩ | ⟨q, hi⟩
    · have : g ∈ (G.rv i).ownBlock.toList := by simpa [Gh.bare] using hg
      exact ⟨h3 g (hsub i g hg), h2 g this⟩
    · exact H.own i c hi ho g (hsub i g hg)

theorem ownsRow_unique {w : World} {B e m n : Nat} {v : Value} {xs ys : List Value} (h : w.ownsRow B e m v n xs) (k : w.ownsRow B e m v n ys) : xs = ys := by
  rcases h.2 with ⟨e1, e2⟩ | ⟨g, cap, cur, e1, _, e2, _, _, _, e3⟩
  · have h1 := h.1; have h2 := k.1
    rw [e2, Nat.zero_mul] at h1 h2
    rw [List.eq_nil_of_length_eq_zero h1, List.eq_nil_of_length_eq_zero h2]
  · rcases k.2 with ⟨f1, _⟩ | ⟨g', cap', cur', f1, _, f2, _, _, _, f3⟩
    · rw [e1] at f1; cases f1
    · rw [e1] at f1; cases f1
      rw [e2] at f2; cases f2
      rw [← e3, ← f3]

theorem HRep.dress {B : Nat} {G : Gh} {w : World} (H : HRep G B h w) {r e v : Nat} {nb : Bool} {l : List (List D)} (hk : h[r]? = some (.row e v nb l)) {xs us : List Value} (hown : w.ownsRow B e (G.lay e).length (G.rv r) l.length xs)
    (hus : us.length = l.length)
    (hkid : ∀ (i : Nat) (x : List D), l[i]? = some x → ∃ (u : Value) (ys : List Value) (t : Nat), (G.lay e).getLast? = some (.seq t) ∧ us[i]? = some u ∧ xs[i * (G.lay e).length + ((G.lay e).length - 1)]? = some u ∧ w.ownsRow B t (G.lay t).length u (x.getD ((G.lay e).length - 1) (.int 0)).toSeq.length ys ∧
      ∀ g o, u.ownBlock = some g → G.imm g o → o < (x.getD ((G.lay e).length - 1) (.int 0)).toSeq.length * (G.lay t).length)
    (hb : ∀ g ∈ us.flatMap (fun u => u.ownBlock.toList), B ≤ g ∧ g < w.heap.size ∧ ∀ i, i < G.n → g ∉ G.ft i) (hnd : (us.flatMap fun u => u.ownBlock.toList).Nodup) : HRep (G.dress r us) B (h.set r (.trow e v l)) w := by
  obtain ⟨hver, hR⟩ := H.blk r _ hk
  have hrn : r < G.n := by rw [← H.len]; exact (List.getElem?_eq_some_iff.1 hk).1
  have hO := H.own r _ hk rfl
  obtain ⟨h1, h2, h3, xs', h4, h5⟩ := id hR
  have := ownsRow_unique hown h4
  subst this
  have hcase : ∀ i, ∀ g ∈ (G.dress r us).ft i, g ∈ G.ft i ∨ (i = r ∧ g ∈ us.flatMap fun u => u.ownBlock.toList) := fun i g hg => by
    unfold Gh.dress at hg
    by_cases q : i = r
    · subst q; simp only [if_true] at hg
      rcases List.mem_append.1 hg with hg | hg
      · left; rw [h1]; exact hg
      · exact .inr ⟨rfl, hg⟩
    · simp only [if_neg q] at hg; exact .inl hg
  have hget : ∀ {j c}, (h.set r (.trow e v l))[j]? = some c → (j = r ∧ c = .trow e v l) ∨ (j ≠ r ∧ h[j]? = some c) := fun {j c} hj => by
    rw [List.getElem?_set] at hj
    by_cases q : r = j
    · rw [if_pos q] at hj
      split at hj
      · cases hj; exact .inl ⟨q.symm, rfl⟩
      · cases hj
    · rw [if_neg q] at hj; exact .inr ⟨fun e => q e.symm, hj⟩
  have hft : (G.dress r us).ft r = (G.rv r).ownBlock.toList ++ us.flatMap fun u => u.ownBlock.toList := by simp [Gh.dress]
  refine ⟨by rw [List.length_set]; exact H.len, fun i c hi => ?_, fun i c hi ho g hg => ?_, fun i j hi hj hij g hg hg' => ?_, fun i hi g hg => ?_, H.imm⟩
  · rcases hget hi with ⟨rfl, rfl⟩ | ⟨q, hi⟩
    · refine ⟨hver, h3, fun g hg o => (hO g (by rw [h1]; exact hg)).2 o, fun g hg => ?_, ?_, xs, us, hown, fun a b x d k q1 q2 q3 => ?_, hus, hft, hkid⟩
      · rcases hcase i g hg with q | ⟨_, q⟩
        · exact (hO g q).1
        · exact (hb g q).1
      · rw [hft]
        refine List.nodup_append.2 ⟨?_, hnd, fun a ha b hb' e => ?_⟩
        · cases (G.rv i).ownBlock <;> simp
        · subst e
          exact (hb a hb').2.2 i hrn (by rw [h1]; exact ha)
      · obtain ⟨u, hu, hc⟩ := h5 a b x d k q1 q2 q3
        exact ⟨u, hu, hc⟩
    · exact (H.blk i c hi).mono (gle_dress G w r us) rfl rfl rfl (by simp [Gh.dress, q]) (fun _ _ => rfl) fun _ _ _ _ q => q
  · rcases hget hi with ⟨rfl, rfl⟩ | ⟨q, hi⟩
    · cases ho
    · rcases hcase i g hg with q' | ⟨q', _⟩
      · exact H.own i c hi ho g q'
      · exact absurd q' q
  · rcases hcase i g hg with q | ⟨rfl, q⟩
    · rcases hcase j g hg' with q' | ⟨rfl, q'⟩
      · exact H.inj i j hi hj hij g q q'
      · exact (hb g q').2.2 i hi q
    · rcases hcase j g hg' with q' | ⟨rfl, q'⟩
      · exact (hb g q).2.2 j hj q'
      · exact hij rfl
  · rcases hcase i g hg with q | ⟨_, q⟩
    · exact H.lt i hi g q
    · exact (hb g q).2.1

theorem kid_keep {B : Nat} {wB : World} {G G2 : Gh} {w w' : World} (H : HRep G B h w) {r e v : Nat} {l : List (List D)} (hk : h[r]? = some (.trow e v l)) {us : List Value} (hft : G.ft r = (G.rv r).ownBlock.toList ++ us.flatMap fun u => u.ownBlock.toList)
    (hnd : (G.ft r).Nodup) (m : Mv B wB (G.bare r) w G2 w') {g : Nat} (hg : g ∈ us.flatMap fun u => u.ownBlock.toList) : g < w.heap.size ∧ w'.heap[g]? = w.heap[g]? ∧ (∀ o, G2.imm g o → G.imm g o) ∧ ∀ i, i < G2.n → g ∉ G2.ft i := by
  have hrn : r < G.n := by rw [← H.len]; exact (List.getElem?_eq_some_iff.1 hk).1
  have hgr : g ∈ G.ft r := by rw [hft]; exact List.mem_append_right _ hg
  have hlt := H.lt r hrn g hgr
  have hno : ∀ i, i < (G.bare r).n → g ∉ (G.bare r).ft i := fun i hi hgi => by
    unfold Gh.bare at hgi
    by_cases q : i = r
    · subst q; simp only [if_true] at hgi
      rw [hft] at hnd
      exact (List.nodup_append.1 hnd).2.2 g hgi g hg rfl
    · simp only [if_neg q] at hgi
      exact H.inj i r hi hrn q g hgi hgr
  refine ⟨hlt, m.keep g hlt hno, fun o q => ?_, fun i hi hgi => ?_⟩
  · rcases m.imm g o q with q | ⟨j, hj, q⟩ | q
    · exact q
    · exact absurd q (hno j hj)
    · omega
  · rcases m.ft i hi g hgi with ⟨j, hj, q⟩ | q
    · exact hno j hj q
    · omega

theorem mv_dress {B : Nat} {wB : World} {G G2 : Gh} {w w' : World} {r : Nat} (hr : r < G.n) (hsub : ∀ g ∈ (G.rv r).ownBlock.toList, g ∈ G.ft r) (m : Mv B wB (G.bare r) w G2 w') (hown : ∀ g ∈ (G2.rv r).ownBlock.toList, g ∈ G2.ft r) (hr2 : r < G2.n) {us : List Value}
    (hb : ∀ g ∈ us.flatMap (fun u => u.ownBlock.toList), g ∈ G.ft r ∨ w.heap.size ≤ g) : Mv B wB G w (G2.dress r us) w' := by
  have h1 : ∀ i, ∀ g ∈ (G.bare r).ft i, g ∈ G.ft i := fun i g hg => by
    unfold Gh.bare at hg
    by_cases q : i = r
    · subst q; simp only [if_true] at hg; exact hsub g hg
    · simp only [if_neg q] at hg; exact hg
  refine ⟨(gle_bare G w r).trans (m.le.trans (gle_dress G2 w' r us)), m.below, m.old, m.size, fun g hg hn => m.keep g hg fun i hi q => hn i hi (h1 i g q), fun i hi g hg => ?_, fun b x q => ?_⟩
  · have h2 : ∀ i, i < G2.n → ∀ g ∈ G2.ft i, (∃ j, j < G.n ∧ g ∈ G.ft j) ∨ w.heap.size ≤ g := fun i hi g hg => by
      rcases m.ft i hi g hg with ⟨j, hj, q⟩ | q
      · exact .inl ⟨j, hj, h1 j g q⟩
      · exact .inr q
    unfold Gh.dress at hg
    by_cases q : i = r
    · subst q; simp only [if_true] at hg
      rcases List.mem_append.1 hg with hg | hg
      · exact h2 i hr2 g (hown g hg)
      · rcases hb g hg with q | q
        · exact .inl ⟨i, hr, q⟩
        · exact .inr q
    · simp only [if_neg q] at hg; exact h2 i hi g hg
  · rcases m.imm b x q with q | ⟨j, hj, q⟩ | q
    · exact .inl q
    · exact .inr (.inl ⟨j, hj, h1 j b q⟩)
    · exact .inr (.inr q)

theorem store_cells {B : Nat} {wB : World} {G : Gh} {w : World} (H : HRep G B h w) (hb : Bel B wB w) {t : TypeId} {b o n : Nat} {el : TypeId} {cs : List AV} (hk : h[b]? = some (.cells el cs .own)) (hn : szT P t = some n) {v : AV}
    (hkn : v.known = true) (hlen : v.cells.length = n) (hfit : o + n ≤ cs.length) {vv : Value} (hv : v.is G w vv) :
    ∃ w', (Instr.storeAt t (.pointer (some ⟨G.at_ b, o, none⟩)) vv).run P w = .ok () w' ∧ HRep G B (h.set b (.cells el (cs.take o ++ v.cells ++ cs.drop (o + n)) .own)) w' ∧ Mv B wB G w G w' := by
  obtain ⟨hft, _, c, hc, hcl⟩ := H.blk b _ hk
  have hB := H.own b _ hk rfl (G.at_ b) (by rw [hft]; simp)
  obtain ⟨hvl, hv1⟩ := cells_is hkn hv
  have l1 := isL_len hcl
  have l2 := isL_len hvl
  have hrun := run_storeCells_at P (G.at_ b) o el vv.cells.toList 0 c w hc (by simp at l1 l2 ⊢; omega) hv1
  simp only [Nat.add_zero] at hrun
  have hl2 : vv.cells.toList.length = n := by omega
  rw [hl2] at hrun
  have hsz : vv.cells.size = n := by simpa using hl2
  obtain ⟨H', hle⟩ := H.store hk (l := cs.take o ++ v.cells ++ cs.drop (o + n)) (c := (c.toList.take o ++ vv.cells.toList ++ c.toList.drop (o + n)).toArray)
    (by simpa using isL_append (isL_append (isL_take hcl o) hvl) (isL_drop hcl (o + n)))
  refine ⟨w.setRow (G.at_ b) (c.toList.take o ++ vv.cells.toList ++ c.toList.drop (o + n)).toArray, ?_, H', mv_setRow H hle hb hB.1 (by rw [← H.len]; exact (List.getElem?_eq_some_iff.1 hk).1) (by rw [hft]; simp)⟩
  simp only [Instr.storeAt, Instr.sureAddr, storeVar, Sem.run_bind, Sem.run_pure, Result.andThen_ok, run_szT hn w, hsz, ne_eq, not_true_eq_false, if_false]
  exact hrun

theorem crep_one {lay : Nat → List CK} {imm : Nat → Nat → Prop} {w : World} {k : CK} {d : D} {v : Value} (h : CRep lay imm w k d v) : v.oneCell' = true := by cases h <;> rfl

theorem getElem?_lay {xs vs : List Value} {off j : Nat} (h : off + vs.length ≤ xs.length) : (xs.take off ++ vs ++ xs.drop (off + vs.length))[j]? = if off ≤ j ∧ j < off + vs.length then vs[j - off]? else xs[j]? := by
  by_cases h1 : j < off
  · rw [if_neg (by omega), List.append_assoc, List.getElem?_append_left (by simp; omega), List.getElem?_take, if_pos h1]
  · by_cases h2 : j < off + vs.length
    · rw [if_pos ⟨by omega, h2⟩, List.append_assoc, List.getElem?_append_right (by simp; omega), List.getElem?_append_left (by simp; omega)]
      congr 1; simp; omega
    · rw [if_neg (by omega), List.getElem?_append_right (by simp; omega), List.getElem?_drop]
      congr 1; simp; omega

theorem store_row {B : Nat} {wB : World} {G : Gh} {w : World} (H : HRep G B h w) (hb : Bel B wB w) {t : TypeId} {rr q n i o : Nat} {el : TypeId} {nb : Bool} {l : List (List D)} (hk : h[rr]? = some (.row el q nb l)) (hn : szT P t = some n)
    {g nn c : Nat} (hrv : G.rv rr = .slice (some ⟨g, 0, none⟩) nn c) (hi : i < nn) {ds : List D} {vv : Value} (hvl : vv.cells.size = n) (hfit : o + n ≤ (G.lay el).length) (hds : ds.length = n)
    (hrep : ∀ (j : Nat) (d : D) (k : CK), ds[j]? = some d → (G.lay el)[o + j]? = some k → ∃ u, vv.cells.toList[j]? = some u ∧ CRep G.lay G.imm w k d u) :
    ∃ w', (Instr.storeAt t (.pointer (some ⟨g, i * (G.lay el).length + o, none⟩)) vv).run P w = .ok () w' ∧ HRep G B (h.set rr (.row el q nb (l.set i ((l.getD i []).take o ++ ds ++ (l.getD i []).drop (o + n))))) w' ∧ Mv B wB G w G w' ∧
      ∀ ys, w.ownsRow B el (G.lay el).length (G.rv rr) l.length ys → w'.ownsRow B el (G.lay el).length (G.rv rr) l.length (ys.take (i * (G.lay el).length + o) ++ vv.cells.toList ++ ys.drop (i * (G.lay el).length + o + n)) := by
  obtain ⟨hver, hrow⟩ := H.blk rr _ hk
  have hrl : rr < G.n := by rw [← H.len]; exact (List.getElem?_eq_some_iff.1 hk).1
  obtain ⟨hnl, _, hft, _⟩ := hrow.cells hrv
  obtain ⟨h1, h2, h3, xs, h4, h5⟩ := hrow
  have hil : i < l.length := by omega
  have hx : l[i]? = some l[i] := List.getElem?_eq_getElem hil
  have hxl := h3 i _ hx
  have hgd : l.getD i [] = l[i] := by simp [List.getD_eq_getElem?_getD, hx]
  rw [hgd]
  rcases h4.2 with ⟨hv, _⟩ | ⟨g', cap, cur, hv, hBg, hcur, hle, hmax, hsz, htake⟩
  · rw [hrv] at hv; cases hv
  · rw [hrv] at hv
    cases hv
    have hown := H.own rr _ hk rfl g (by rw [hft]; simp)
    generalize hm : (G.lay el).length = m at *
    have hoff : i * m + o + n ≤ l.length * m := by
      have : (i + 1) * m ≤ l.length * m := Nat.mul_le_mul_right _ (by omega)
      rw [Nat.add_mul] at this; omega
    have hcapm : l.length * m ≤ c * m := Nat.mul_le_mul_right _ hle
    have hv1 : ∀ u ∈ vv.cells.toList, u.oneCell' = true := fun u hu => by
      obtain ⟨j, hj⟩ := List.mem_iff_getElem?.1 hu
      have hjn : j < n := by have := (List.getElem?_eq_some_iff.1 hj).1; simpa [hvl] using this
      obtain ⟨u', e, hc⟩ := hrep j ds[j] (G.lay el)[o + j] (List.getElem?_eq_getElem (by omega)) (List.getElem?_eq_getElem (by omega))
      rw [hj] at e; cases e; exact crep_one hc
    have hrun := run_storeCells_at P g (i * m + o) el vv.cells.toList 0 cur w hcur (by simp [hvl]; omega) hv1
    simp only [Nat.add_zero] at hrun
    have hl2 : vv.cells.toList.length = n := by simpa using hvl
    rw [hl2] at hrun
    have hother : ∀ k c', k ≠ g → (w.setRow g c').heap[k]? = w.heap[k]? := fun k c' hk => by
      simp only [World.setRow, Array.getElem?_modify]
      rw [if_neg (by omega)]
    have hgle : G.le w G (w.setRow g (cur.toList.take (i * m + o) ++ vv.cells.toList ++ cur.toList.drop (i * m + o + n)).toArray) := ⟨Nat.le_refl _, fun _ _ => rfl, fun _ _ q => q, fun b' o' q => by
      have hne : b' ≠ g := fun e => hown.2 o' (e ▸ q)
      exact World.cell?_of_block (hother b' _ hne), fun _ _ => Nat.le_refl _, fun _ _ _ => rfl, rfl⟩
    have hown' : (w.setRow g (cur.toList.take (i * m + o) ++ vv.cells.toList ++ cur.toList.drop (i * m + o + n)).toArray).ownsRow B el m (G.rv rr) l.length (xs.take (i * m + o) ++ vv.cells.toList ++ xs.drop (i * m + o + n)) := by
      have hxsl : xs.length = l.length * m := h4.1
      have hcurl : cur.toList.length = c * m := by simpa using hsz
      refine ⟨?_, .inr ⟨g, c, _, hrv, hBg, setRow_heap w g cur _ el _ hcur, hle, hmax, ?_, ?_⟩⟩
      · simp [hxsl, hl2]; omega
      · simp [hcurl, hvl]; omega
      · rw [← htake]
        apply List.ext_getElem?
        intro p
        rw [List.getElem?_take]
        have e1 := getElem?_lay (xs := cur.toList) (vs := vv.cells.toList) (off := i * m + o) (j := p) (by rw [hl2, hcurl]; omega)
        have e2 := getElem?_lay (xs := cur.toList.take (l.length * m)) (vs := vv.cells.toList) (off := i * m + o) (j := p) (by rw [hl2, List.length_take, hcurl, Nat.min_eq_left hcapm]; exact hoff)
        rw [hl2] at e1 e2
        rw [e2]
        rw [e1]
        by_cases hp : p < l.length * m
        · rw [if_pos hp, List.getElem?_take, if_pos hp]
        · rw [if_neg hp, if_neg (by omega), List.getElem?_take, if_neg hp]
    refine ⟨w.setRow g (cur.toList.take (i * m + o) ++ vv.cells.toList ++ cur.toList.drop (i * m + o + n)).toArray, ?_, ?_, mv_setRow H hgle hb hown.1 hrl (by rw [hft]; simp), fun ys hys => by rw [ownsRow_unique hys h4]; rw [hm] at *; exact hown'⟩
    · simp only [Instr.storeAt, Instr.sureAddr, storeVar, Sem.run_bind, Sem.run_pure, Result.andThen_ok, run_szT hn w, hvl, ne_eq, not_true_eq_false, if_false]
      exact hrun
    · refine H.turn hrl _ hgle rfl rfl (fun _ _ => ⟨rfl, rfl, rfl, rfl⟩) (by simp [World.setRow]) (fun j hj q g' hg' => hother g' _ fun e => ?_) (fun g' hg' => ⟨.inl hg', by simp only [World.setRow, Array.size_modify]; exact H.lt rr hrl g' hg'⟩) (fun _ g' hg' => H.own rr _ hk rfl g' hg') ⟨hver, h1, fun e => ?_, fun i' d hd => ?_, ?_⟩
      · subst e
        exact H.inj j rr hj hrl q _ hg' (by rw [hft]; simp)
      · rw [h2 e]
        constructor
        · intro e'; subst e'; simp at hil
        · intro e'
          have := congrArg List.length e'
          simp at this
          exact this
      · rw [List.getElem?_set] at hd
        by_cases q : i = i'
        · subst q
          rw [if_pos rfl, if_pos hil] at hd
          cases hd
          simp [hxl, hds]; omega
        · rw [if_neg q] at hd
          rw [hm]; exact h3 i' d hd
      · have hxsl : xs.length = l.length * m := h4.1
        have hcurl : cur.toList.length = c * m := by simpa using hsz
        refine ⟨xs.take (i * m + o) ++ vv.cells.toList ++ xs.drop (i * m + o + n), by rw [List.length_set, hm]; exact hown', fun i' j x d k hxx hd hkk => ?_⟩
        · rw [hm]
          have hjm : j < m := by rw [← hm]; exact (List.getElem?_eq_some_iff.1 hkk).1
          have hxsl' : xs.length = l.length * m := by rw [hxsl]
          have e2 := getElem?_lay (xs := xs) (vs := vv.cells.toList) (off := i * m + o) (j := i' * m + j) (by rw [hl2, hxsl']; omega)
          rw [hl2] at e2
          rw [e2]
          rw [List.getElem?_set] at hxx
          by_cases hii : i = i'
          · subst hii
            rw [if_pos rfl, if_pos hil] at hxx
            cases hxx
            have e3 : (l[i].take o ++ ds ++ l[i].drop (o + n))[j]? = if o ≤ j ∧ j < o + n then ds[j - o]? else l[i][j]? := by
              by_cases q1 : j < o
              · rw [if_neg (by omega), List.append_assoc, List.getElem?_append_left (by simp; omega), List.getElem?_take, if_pos q1]
              · by_cases q2 : j < o + n
                · rw [if_pos ⟨by omega, q2⟩, List.append_assoc, List.getElem?_append_right (by simp; omega), List.getElem?_append_left (by simp; omega)]
                  congr 1; simp; omega
                · rw [if_neg (by omega), List.getElem?_append_right (by simp; omega), List.getElem?_drop]
                  congr 1; simp; omega
            rw [e3] at hd
            by_cases q : o ≤ j ∧ j < o + n
            · rw [if_pos q] at hd
              rw [if_pos (by omega)]
              obtain ⟨u, hu, hc⟩ := hrep (j - o) d k hd (by rw [show o + (j - o) = j by omega]; exact hkk)
              exact ⟨u, by rw [show i * m + j - (i * m + o) = j - o by omega]; exact hu, hc.mono hgle.imm hgle.cell⟩
            · rw [if_neg q] at hd
              rw [if_neg (by omega)]
              obtain ⟨u, hu, hc⟩ := h5 i j _ d k hx hd hkk
              exact ⟨u, hu, hc.mono hgle.imm hgle.cell⟩
          · rw [if_neg hii] at hxx
            have hout : ¬ (i * m + o ≤ i' * m + j ∧ i' * m + j < i * m + o + n) := by
              rcases Nat.lt_or_ge i' i with q | q
              · have : (i' + 1) * m ≤ i * m := Nat.mul_le_mul_right _ q
                rw [Nat.add_mul] at this; omega
              · have : (i + 1) * m ≤ i' * m := Nat.mul_le_mul_right _ (by omega)
                rw [Nat.add_mul] at this; omega
            rw [if_neg hout]
            obtain ⟨u, hu, hc⟩ := h5 i' j x d k hxx hd hkk
            exact ⟨u, hu, hc.mono hgle.imm hgle.cell⟩


theorem atsRow_eq {l : List (List D)} {i : Nat} {x : List D} (hx : l[i]? = some x) : ∀ (k j : Nat), j + k = x.length → atsRow l i j k = x.drop j
  | 0, j, h => by rw [List.drop_eq_nil_of_le (by omega)]; rfl
  | k + 1, j, h => by
    rw [atsRow, atsRow_eq hx k (j + 1) (by omega), List.drop_eq_getElem_cons (by omega : j < x.length)]
    rw [D_at hx (List.getElem?_eq_getElem (by omega))]

theorem take_drop_get {xs vs : List Value} {off p : Nat} (h : off + vs.length ≤ xs.length) (hp : p < off ∨ off + vs.length ≤ p) : (xs.take off ++ vs ++ xs.drop (off + vs.length))[p]? = xs[p]? := by
  rw [getElem?_lay h, if_neg (by omega)]

theorem kid_owns {B : Nat} {wB : World} {G G2 : Gh} {w w' : World} (H : HRep G B h w) {r e v : Nat} {l : List (List D)} (hk : h[r]? = some (.trow e v l)) {us : List Value} (hft : G.ft r = (G.rv r).ownBlock.toList ++ us.flatMap fun u => u.ownBlock.toList)
    (hnd : (G.ft r).Nodup) (m : Mv B wB (G.bare r) w G2 w') {i : Nat} {u : Value} (hu : us[i]? = some u) {t mt n k : Nat} {ys : List Value} (ho : w.ownsRow B t mt u n ys) (hi : ∀ g o, u.ownBlock = some g → G.imm g o → o < k) :
    w'.ownsRow B t mt u n ys ∧ ∀ g o, u.ownBlock = some g → G2.imm g o → o < k := by
  have hm : ∀ g, u.ownBlock = some g → g ∈ us.flatMap fun u => u.ownBlock.toList := fun g hg => List.mem_flatMap.2 ⟨u, List.mem_of_getElem? hu, ownBlock_mem.2 hg⟩
  exact ⟨ownsRow_of_block ho fun g hg => (kid_keep H hk hft hnd m (hm g hg)).2.1, fun g o hg q => hi g o hg ((kid_keep H hk hft hnd m (hm g hg)).2.2.1 o q)⟩

theorem store_trow {B : Nat} {wB : World} {G : Gh} {w : World} (H : HRep G B h w) (hb : Bel B wB w) {t : TypeId} {g i o n c : Nat} {nn : Nat} {el rr q : Nat} {l : List (List D)} (hk : h[rr]? = some (.trow el q l)) (hn : szT P t = some n)
    (hrv : G.rv rr = .slice (some ⟨g, 0, none⟩) nn c) (hin : i < nn) {ds : List D} {vv : Value} (hvl : vv.cells.size = n) (hfit : o + n < (G.lay el).length) (hds : ds.length = n)
    (hrep : ∀ (j : Nat) (d : D) (k : CK), ds[j]? = some d → (G.lay el)[o + j]? = some k → ∃ u, vv.cells.toList[j]? = some u ∧ CRep G.lay G.imm w k d u) :
    ∃ G' w', (Instr.storeAt t (.pointer (some ⟨g, i * (G.lay el).length + o, none⟩)) vv).run P w = .ok () w' ∧ HRep G' B (h.set rr (.trow el q (l.set i ((l.getD i []).take o ++ ds ++ (l.getD i []).drop (o + n))))) w' ∧ Mv B wB G w G' w' := by
  have hrn : rr < G.n := by rw [← H.len]; exact (List.getElem?_eq_some_iff.1 hk).1
  obtain ⟨hver, hT⟩ := H.blk rr _ hk
  obtain ⟨h1, h2, h3, h4, xs, us, h5, h6, h7, h8, h10⟩ := id hT
  have H1 := H.bare hk
  have hk1 : (h.set rr (.row el q false l))[rr]? = some (.row el q false l) := by rw [List.getElem?_set, if_pos rfl, if_pos (List.getElem?_eq_some_iff.1 hk).1]
  obtain ⟨w', r1, r2, r3, r4⟩ := store_row (G := G.bare rr) (wB := wB) H1 hb hk1 hn hrv hin (ds := ds) (vv := vv) hvl (Nat.le_of_lt hfit) hds hrep
  rw [List.set_set] at r2
  have hown' := r4 xs h5
  have hnl : nn = l.length := by
    obtain ⟨q1, _⟩ := hT.row.cells hrv
    exact q1
  have hil : i < l.length := by omega
  have hx : l[i]? = some l[i] := List.getElem?_eq_getElem hil
  have hgd : l.getD i [] = l[i] := by simp [List.getD_eq_getElem?_getD, hx]
  have hxl := h1 i _ hx
  have hk2 : (h.set rr (.row el q false (l.set i ((l.getD i []).take o ++ ds ++ (l.getD i []).drop (o + n)))))[rr]? = some (.row el q false (l.set i ((l.getD i []).take o ++ ds ++ (l.getD i []).drop (o + n)))) := by rw [List.getElem?_set, if_pos rfl, if_pos (List.getElem?_eq_some_iff.1 hk).1]
  have hlast : ∀ x : List D, l[i]? = some x → (x.take o ++ ds ++ x.drop (o + n)).getD ((G.lay el).length - 1) (.int 0) = x.getD ((G.lay el).length - 1) (.int 0) := fun x hx' => by
    have hx2 := h1 i x hx'
    rw [List.getD_eq_getElem?_getD, List.getD_eq_getElem?_getD, List.getElem?_append_right (by simp [hds]; omega), List.getElem?_drop]
    congr 2
    simp [hds]; omega
  have H3 := HRep.dress (G := G.bare rr) (us := us) r2 hk2 (by rw [List.length_set]; exact hown') (by rw [List.length_set]; exact h7) (fun i' x hx' => by
    rw [List.getElem?_set] at hx'
    have hxs : xs.length = l.length * (G.lay el).length := h5.1
    have hvl2 : vv.cells.toList.length = n := by simpa using hvl
    have hle1 : (i + 1) * (G.lay el).length ≤ l.length * (G.lay el).length := Nat.mul_le_mul_right _ (by omega)
    rw [Nat.add_mul] at hle1
    have hpos : ∀ i', (xs.take (i * (G.lay el).length + o) ++ vv.cells.toList ++ xs.drop (i * (G.lay el).length + o + n))[i' * (G.lay el).length + ((G.lay el).length - 1)]? = xs[i' * (G.lay el).length + ((G.lay el).length - 1)]? := fun i' => by
      have := take_drop_get (xs := xs) (vs := vv.cells.toList) (off := i * (G.lay el).length + o) (p := i' * (G.lay el).length + ((G.lay el).length - 1)) (by rw [hvl2]; omega) (by
        rw [hvl2]
        rcases Nat.lt_or_ge i' i with q | q
        · have : (i' + 1) * (G.lay el).length ≤ i * (G.lay el).length := Nat.mul_le_mul_right _ q
          rw [Nat.add_mul] at this; omega
        · have : i * (G.lay el).length ≤ i' * (G.lay el).length := Nat.mul_le_mul_right _ q
          omega)
      rw [hvl2] at this; exact this
    by_cases e : i = i'
    · subst e
      rw [if_pos rfl, if_pos hil] at hx'
      cases hx'
      obtain ⟨u, ys, ty, h9, a1, a2, a3, a4⟩ := h10 i _ hx
      obtain ⟨b1, b2⟩ := kid_owns H hk h8 h4 r3 a1 a3 a4
      refine ⟨u, ys, ty, h9, a1, by rw [show (G.bare rr).lay = G.lay from rfl, hpos]; exact a2, ?_, ?_⟩
      · rw [hgd, show (G.bare rr).lay = G.lay from rfl, hlast _ hx]; exact b1
      · rw [hgd, show (G.bare rr).lay = G.lay from rfl, hlast _ hx]; exact b2
    · rw [if_neg e] at hx'
      obtain ⟨u, ys, ty, h9, a1, a2, a3, a4⟩ := h10 i' _ hx'
      obtain ⟨b1, b2⟩ := kid_owns H hk h8 h4 r3 a1 a3 a4
      exact ⟨u, ys, ty, h9, a1, by rw [show (G.bare rr).lay = G.lay from rfl, hpos]; exact a2, b1, b2⟩) (fun g hg => by
    obtain ⟨q1, q2, q3, q4⟩ := kid_keep H hk h8 h4 r3 hg
    exact ⟨h3 g (by rw [h8]; exact List.mem_append_right _ hg), Nat.lt_of_lt_of_le q1 r3.size, q4⟩) (by rw [h8] at h4; exact (List.nodup_append.1 h4).2.1)
  rw [List.set_set] at H3
  refine ⟨_, w', r1, H3, mv_dress hrn (fun g hg => by rw [h8]; exact List.mem_append_left _ hg) r3 (fun g hg => by simpa [Gh.bare] using hg) hrn fun g hg => .inl (by rw [h8]; exact List.mem_append_right _ hg)⟩

theorem set_nil_sublist : ∀ (us : List Value) (i : Nat), List.Sublist ((us.set i (.slice none 0 0)).flatMap fun u => u.ownBlock.toList) (us.flatMap fun u => u.ownBlock.toList)
  | [], i => by simp
  | u :: us, 0 => by
    simp only [List.set_cons_zero, List.flatMap_cons]
    rw [show (Value.slice none 0 0).ownBlock.toList = [] from rfl, List.nil_append]
    exact List.sublist_append_right _ _
  | u :: us, i + 1 => by
    simp only [List.set_cons_succ, List.flatMap_cons]
    exact List.Sublist.append_left (set_nil_sublist us i) _

theorem store_trow_all {B : Nat} {wB : World} {G : Gh} {w : World} (H : HRep G B h w) (hb : Bel B wB w) {t : TypeId} {g i c : Nat} {nn : Nat} {el rr q : Nat} {l : List (List D)} (hk : h[rr]? = some (.trow el q l)) (hn : szT P t = some (G.lay el).length)
    (hrv : G.rv rr = .slice (some ⟨g, 0, none⟩) nn c) (hin : i < nn) {ds : List D} {vv : Value} (hvl : vv.cells.size = (G.lay el).length) (hds : ds.length = (G.lay el).length)
    (hrep : ∀ (j : Nat) (d : D) (k : CK), ds[j]? = some d → (G.lay el)[j]? = some k → ∃ u, vv.cells.toList[j]? = some u ∧ CRep G.lay G.imm w k d u)
    {ty' : Nat} (h9 : (G.lay el).getLast? = some (.seq ty')) (hnil : vv.cells.toList[(G.lay el).length - 1]? = some (.slice none 0 0)) :
    ∃ G' w', (Instr.storeAt t (.pointer (some ⟨g, i * (G.lay el).length, none⟩)) vv).run P w = .ok () w' ∧ HRep G' B (h.set rr (.trow el q (l.set i ds))) w' ∧ Mv B wB G w G' w' := by
  have hrn : rr < G.n := by rw [← H.len]; exact (List.getElem?_eq_some_iff.1 hk).1
  obtain ⟨hver, hT⟩ := H.blk rr _ hk
  obtain ⟨h1, h2, h3, h4, xs, us, h5, h6, h7, h8, h10⟩ := id hT
  have H1 := H.bare hk
  have hk1 : (h.set rr (.row el q false l))[rr]? = some (.row el q false l) := by rw [List.getElem?_set, if_pos rfl, if_pos (List.getElem?_eq_some_iff.1 hk).1]
  have hpos : 0 < (G.lay el).length := by
    cases hl : G.lay el with
    | nil => rw [hl] at h9; simp at h9
    | cons => simp
  obtain ⟨w', r1, r2, r3, r4⟩ := store_row (G := G.bare rr) (wB := wB) (o := 0) H1 hb hk1 hn hrv hin (ds := ds) (vv := vv) hvl (by rw [Nat.zero_add]; exact Nat.le_refl _) hds (fun j d k hj hkk => hrep j d k hj (by rw [Nat.zero_add] at hkk; exact hkk))
  rw [List.set_set] at r2
  have hown' := r4 xs h5
  have hnl : nn = l.length := by
    obtain ⟨q1, _⟩ := hT.row.cells hrv
    exact q1
  have hil : i < l.length := by omega
  have hx : l[i]? = some l[i] := List.getElem?_eq_getElem hil
  have hgd : l.getD i [] = l[i] := by simp [List.getD_eq_getElem?_getD, hx]
  have hxl := h1 i _ hx
  have e0 : (l.getD i []).take 0 ++ ds ++ (l.getD i []).drop (0 + (G.lay el).length) = ds := by
    rw [hgd, List.drop_eq_nil_of_le (by omega)]; simp
  rw [e0] at r2
  have hk2 : (h.set rr (.row el q false (l.set i ds)))[rr]? = some (.row el q false (l.set i ds)) := by rw [List.getElem?_set, if_pos rfl, if_pos (List.getElem?_eq_some_iff.1 hk).1]
  have hkd : (G.lay el)[(G.lay el).length - 1]? = some (.seq ty') := by rw [← List.getLast?_eq_getElem?]; exact h9
  have hdn : ds.getD ((G.lay el).length - 1) (.int 0) = .seq [] := by
    have hlt : (G.lay el).length - 1 < ds.length := by omega
    obtain ⟨u, hu, hc⟩ := hrep ((G.lay el).length - 1) _ _ (List.getElem?_eq_getElem hlt) hkd
    rw [hnil] at hu
    cases hu
    rw [List.getD_eq_getElem?_getD, List.getElem?_eq_getElem hlt, Option.getD_some]
    generalize ds[(G.lay el).length - 1] = dd at hc
    cases hc
    rfl
  have hxs : xs.length = l.length * (G.lay el).length := h5.1
  have hvl2 : vv.cells.toList.length = (G.lay el).length := by simpa using hvl
  have hle1 : (i + 1) * (G.lay el).length ≤ l.length * (G.lay el).length := Nat.mul_le_mul_right _ (by omega)
  rw [Nat.add_mul, Nat.one_mul] at hle1
  have hsub : ∀ g, g ∈ ((us.set i (.slice none 0 0)).flatMap fun u => u.ownBlock.toList) → g ∈ us.flatMap fun u => u.ownBlock.toList := fun g hg => by
    obtain ⟨u, hu, hgu⟩ := List.mem_flatMap.1 hg
    rcases List.mem_or_eq_of_mem_set hu with q | q
    · exact List.mem_flatMap.2 ⟨u, q, hgu⟩
    · subst q; simp [Value.ownBlock] at hgu
  have H3 := HRep.dress (G := G.bare rr) (us := us.set i (.slice none 0 0)) r2 hk2 (by rw [List.length_set]; exact hown') (by rw [List.length_set, List.length_set]; exact h7) (fun i' x hx' => by
    rw [List.getElem?_set] at hx'
    have hiu : i < us.length := by omega
    by_cases e : i = i'
    · subst e
      rw [if_pos rfl, if_pos hil] at hx'
      cases hx'
      refine ⟨.slice none 0 0, [], ty', h9, by rw [List.getElem?_set, if_pos rfl, if_pos hiu], ?_, ?_, fun g o hg => by simp [Value.ownBlock] at hg⟩
      · show (xs.take (i * (G.lay el).length + 0) ++ vv.cells.toList ++ xs.drop (i * (G.lay el).length + 0 + (G.lay el).length))[i * (G.lay el).length + ((G.lay el).length - 1)]? = _
        rw [Nat.add_zero, List.append_assoc, List.getElem?_append_right (by simp; omega), List.getElem?_append_left (by simp; omega), ← hnil]
        congr 1
        simp; omega
      · rw [show (G.bare rr).lay = G.lay from rfl, hdn]; exact World.ownsRow_nil w' B ty' _
    · rw [if_neg e] at hx'
      obtain ⟨u, ys, ty, h9, a1, a2, a3, a4⟩ := h10 i' _ hx'
      obtain ⟨b1, b2⟩ := kid_owns H hk h8 h4 r3 a1 a3 a4
      refine ⟨u, ys, ty, h9, by rw [List.getElem?_set, if_neg e]; exact a1, ?_, b1, b2⟩
      have := take_drop_get (xs := xs) (vs := vv.cells.toList) (off := i * (G.lay el).length) (p := i' * (G.lay el).length + ((G.lay el).length - 1)) (by rw [hvl2]; omega) (by
        rw [hvl2]
        rcases Nat.lt_or_ge i' i with q | q
        · have : (i' + 1) * (G.lay el).length ≤ i * (G.lay el).length := Nat.mul_le_mul_right _ q
          rw [Nat.add_mul] at this; omega
        · have : (i + 1) * (G.lay el).length ≤ i' * (G.lay el).length := Nat.mul_le_mul_right _ (by omega)
          rw [Nat.add_mul] at this; omega)
      rw [hvl2] at this
      show (xs.take (i * (G.lay el).length + 0) ++ vv.cells.toList ++ xs.drop (i * (G.lay el).length + 0 + (G.lay el).length))[i' * (G.lay el).length + ((G.lay el).length - 1)]? = _
      rw [Nat.add_zero, this]; exact a2) (fun g hg => by
    obtain ⟨q1, q2, q3, q4⟩ := kid_keep H hk h8 h4 r3 (hsub g hg)
    exact ⟨h3 g (by rw [h8]; exact List.mem_append_right _ (hsub g hg)), Nat.lt_of_lt_of_le q1 r3.size, q4⟩) (by
    rw [h8] at h4
    have h4' := (List.nodup_append.1 h4).2.1
    refine List.Nodup.sublist ?_ h4'
    exact set_nil_sublist us i)
  rw [List.set_set] at H3
  rw [show (G.bare rr).lay = G.lay from rfl, Nat.add_zero] at r1
  refine ⟨_, w', r1, H3, mv_dress hrn (fun g hg => by rw [h8]; exact List.mem_append_left _ hg) r3 (fun g hg => by simpa [Gh.bare] using hg) hrn fun g hg => .inl (by rw [h8]; exact List.mem_append_right _ (hsub g hg))⟩

theorem frzD_of {S : List Nat} {G : Gh} (hS : ∀ r ∈ S, Frz h r ∧ r < G.n) : ∀ r ∈ S, FrzD h r := fun r hr => .inl (hS r hr).1

theorem storeA_ok {B : Nat} {wB : World} {G : Gh} {w : World} (H : HRep G B h w) (hΛ : G.lay = Λ) (hb : Bel B wB w) {t : TypeId} {p v : AV} {b : Nat} {c : Blk} {S : List Nat} (hs : storeA P Λ h t p v = some (b, c, S)) {pv vv : Value} (hp : p.is G w pv) (hv : v.is G w vv) :
    ∃ G' w', (Instr.storeAt t pv vv).run P w = .ok () w' ∧ HRep G' B ((frzA h S).set b c) w' ∧ Mv B wB G w G' w' := by
  unfold storeA at hs
  split at hs
  · rename_i b' o
    simp only [AV.is] at hp
    obtain ⟨hbn, rfl⟩ := hp
    split at hs
    · rename_i el cs n hk hn
      split at hs
      · rename_i hc
        simp only [Bool.and_eq_true, beq_iff_eq, decide_eq_true_eq] at hc
        cases hs
        obtain ⟨w', h1, h2, h3⟩ := store_cells H hb hk hn hc.1.1 hc.1.2 hc.2 hv
        exact ⟨G, w', h1, h2, h3⟩
      · cases hs
    · cases hs
  · rename_i rr q m i o
    simp only [AV.is] at hp
    obtain ⟨hrn, _, _, hp⟩ := hp
    split at hs
    · rename_i el ver nb l n hk hn
      split at hs
      · rename_i hc
        obtain ⟨rfl, hm, hkn, hlen, hfit⟩ := hc
        split at hs
        · rename_i ds S' hds
          split at hs
          · cases hs
          · rename_i hns
            cases hs
            have hns' : b ∉ S := by simpa using hns
            obtain ⟨hver, hrow⟩ := H.blk b _ hk
            obtain ⟨g, nn, c, hrv, hin, rfl⟩ := hp hver
            subst hΛ
            obtain ⟨hvl, hv1⟩ := cells_is hkn hv
            obtain ⟨n1, f1, c1⟩ := cellsD_is (h := h) (fun k a d S v => asD_is H (Compat.refl h) rfl 4 k a d S v) _ _ ds S _ hds hvl
            obtain ⟨G1, H1, m1, s1, i1, f2, f3⟩ := freeze_mv H hb (frzD_of f1)
            have hk1 : (frzA h S)[b]? = some (.row el q nb l) := by rw [frzA_get S h b hns']; exact hk
            have e1 : G1.lay = G.lay := s1.lay
            have l2 := isL_len hvl
            have hfit' : o + n ≤ (G.lay el).length := by rw [← hm]; exact hfit
            have hvs : vv.cells.size = n := by rw [← hlen]; simpa using l2
            obtain ⟨w', h1, h2, h3, _⟩ := store_row H1 m1.below hk1 hn (by rw [s1.rv]; exact hrv) hin (ds := ds) (vv := vv) hvs (by rw [e1]; exact hfit') (by rw [n1]; simp; omega) (fun j d k hj hkk => by
              rw [e1] at hkk ⊢
              have hjn : j < n := by have := (List.getElem?_eq_some_iff.1 hj).1; rw [n1] at this; simp at this; omega
              obtain ⟨u, hu, hcr⟩ := c1 j d k hj (by rw [List.getElem?_take, if_pos hjn, List.getElem?_drop]; exact hkk)
              exact ⟨u, hu, hcr.mono (fun b o q => (i1 b o).2 q) (fun _ _ _ => rfl)⟩)
            rw [e1, ← hm] at h1
            have hil : i < l.length := by
              obtain ⟨hn, _⟩ := hrow.cells hrv
              omega
            have hgd : l.getD i [] = l[i] := by simp [List.getD_eq_getElem?_getD, hil]
            rw [atsRow_eq (List.getElem?_eq_getElem hil) m 0 (by rw [Nat.zero_add, hm]; exact (hrow.2.2.1 i _ (List.getElem?_eq_getElem hil)).symm), List.drop_zero, ← hgd]
            exact ⟨G1, w', h1, h2, m1.trans h3⟩
        · cases hs
      · cases hs
    · rename_i el ver l n hk hn
      split at hs
      · rename_i hc
        obtain ⟨rfl, hm, hkn, hlen, hfit⟩ := hc
        split at hs
        · rename_i ds hds
          cases hs
          obtain ⟨hver, hrow⟩ := H.blk b _ hk
          obtain ⟨g, nn, c, hrv, hin, rfl⟩ := hp hver
          subst hΛ
          obtain ⟨hvl, hv1⟩ := cells_is hkn hv
          obtain ⟨n1, f1, c1⟩ := cellsD_is (h := h) (fun k a d S v => asD_is H (Compat.refl h) rfl 4 k a d S v) _ _ ds [] _ hds hvl
          have l2 := isL_len hvl
          have hvs : vv.cells.size = n := by rw [← hlen]; simpa using l2
          obtain ⟨G', w', h1, h2, h3⟩ := store_trow H hb hk hn hrv hin (ds := ds) (vv := vv) (o := o) hvs (by rw [← hm]; exact hfit) (by rw [n1]; simp; omega) (fun j d k hj hkk => by
            have hjn : j < n := by have := (List.getElem?_eq_some_iff.1 hj).1; rw [n1] at this; simp at this; omega
            obtain ⟨u, hu, hcr⟩ := c1 j d k hj (by rw [List.getElem?_take, if_pos hjn, List.getElem?_drop]; exact hkk)
            exact ⟨u, hu, hcr.mono (fun b o q => by
              rcases q with q | ⟨r, hr, _⟩
              · exact q
              · cases hr) (fun _ _ _ => rfl)⟩)
          rw [← hm] at h1
          have hil : i < l.length := by
            obtain ⟨hn, _⟩ := hrow.row.cells hrv
            omega
          have hgd : l.getD i [] = l[i] := by simp [List.getD_eq_getElem?_getD, hil]
          rw [atsRow_eq (List.getElem?_eq_getElem hil) m 0 (by rw [Nat.zero_add, hm]; exact (hrow.1 i _ (List.getElem?_eq_getElem hil)).symm), List.drop_zero, ← hgd]
          exact ⟨G', w', h1, h2, h3⟩
        · cases hs
      · split at hs
        · rename_i hc
          obtain ⟨rfl, hm, hkn, hlen, rfl, hnm, hls, hnl⟩ := hc
          split at hs
          · rename_i ds S' hds
            split at hs
            · cases hs
            · rename_i hns
              cases hs
              have hns' : b ∉ S := by simpa using hns
              obtain ⟨hver, hrow⟩ := H.blk b _ hk
              obtain ⟨g, nn, c, hrv, hin, rfl⟩ := hp hver
              subst hΛ
              obtain ⟨hvl, hv1⟩ := cells_is hkn hv
              obtain ⟨n1, f1, c1⟩ := cellsD_is (h := h) (fun k a d S v => asD_is H (Compat.refl h) rfl 4 k a d S v) _ _ ds S _ hds hvl
              obtain ⟨G1, H1, m1, s1, i1, f2, f3⟩ := freeze_mv H hb (frzD_of f1)
              have hk1 : (frzA h S)[b]? = some (.trow el q l) := by rw [frzA_get S h b hns']; exact hk
              have e1 : G1.lay = G.lay := s1.lay
              have l2 := isL_len hvl
              have hvs : vv.cells.size = n := by rw [← hlen]; simpa using l2
              obtain ⟨ty', h9⟩ := lastSeq_is hls
              have hnil : vv.cells.toList[(G.lay el).length - 1]? = some (.slice none 0 0) := by
                rw [← hm]
                unfold isNilC at hnl
                split at hnl
                · rename_i hq
                  obtain ⟨u, hu, ha⟩ := isL_get hvl _ _ hq
                  simp only [AV.is] at ha
                  rw [hu, ha]
                · cases hnl
              obtain ⟨G', w', h1, h2, h3⟩ := store_trow_all H1 m1.below hk1 (t := t) (by rw [e1, hn, hnm, hm]) (by rw [s1.rv]; exact hrv) hin (ds := ds) (vv := vv) (by rw [e1, hvs, hnm, hm]) (by rw [e1]; exact n1) (fun j d k hj hkk => by
                rw [e1] at hkk ⊢
                obtain ⟨u, hu, hcr⟩ := c1 j d k hj hkk
                exact ⟨u, hu, hcr.mono (fun b o q => (i1 b o).2 q) (fun _ _ _ => rfl)⟩) (ty' := ty') (by rw [e1]; exact h9) (by rw [e1]; exact hnil)
              rw [e1, ← hm] at h1
              exact ⟨G', w', by simpa using h1, h2, m1.trans h3⟩
          · cases hs
        · cases hs
    · cases hs
  · cases hs

theorem append_runs (w : World) (base : Nat) (t ty e : TypeId) (i : TypeInfo) (z : Value) (size : Nat) (ht : P.underlying t = some (.slice e)) (hi : P.info? e = some i) (hz : i.zero = some z)
    (hsize : i.size = size) (hzs : z.cells.size = size) (hsz : 0 < size)
    (v : Value) (n : Nat) (xs : List Value) (hown : w.ownsRow base e size v n xs)
    (xv : Value) (m : Nat) (news : List Value) (hl : news.length = m * size) (hx : (m = 0 ∧ ∃ c, xv = .slice none 0 c) ∨ ∃ a c, xv = .slice (some a) m c ∧ ∀ j u, news[j]? = some u → w.cell? (a.add j) = some u) (h1 : ∀ u ∈ news, u.oneCell' = true)
    (h63 : n + m ≤ maxLen) (hbytes : (n + m) * i.bytes ≤ 140737488355328) (hbase : base ≤ w.heap.size) :
    ∃ v' w', (Builtin.append_ #[t, t] ty #[v, xv]).run P w = .ok v' w' ∧ w'.ownsRow base e size v' (n + m) (xs ++ news) ∧ w.grownBy w' v.ownBlock ∧
      (v' = .slice none 0 0 ↔ v = .slice none 0 0 ∧ m = 0) ∧ (v'.ownBlock = v.ownBlock ∨ v'.ownBlock = some w.heap.size ∧ ∀ k, k < w.heap.size → w'.heap[k]? = w.heap[k]?) := by
  subst hsize
  have hnil : m = 0 → xv = .slice none 0 0 ∨ (∃ c, xv = .slice none 0 c) ∨ True := fun _ => .inr (.inr trivial)
  rcases hx with ⟨rfl, c, rfl⟩ | ⟨a, c, rfl, hnews⟩
  · have hn : news = [] := List.eq_nil_of_length_eq_zero (by simpa using hl)
    subst hn
    have hle : ∃ ao cap, v = .slice ao n cap ∧ n ≤ cap := by
      rcases hown.2 with ⟨e1, e2⟩ | ⟨g, cap, cur, e1, _, _, e2, _⟩
      · exact ⟨none, 0, by rw [e1, e2], by omega⟩
      · exact ⟨_, cap, e1, e2⟩
    obtain ⟨ao, cap, rfl, hnc⟩ := hle
    refine ⟨.slice ao n cap, w, ?_, by simpa using hown, ⟨rfl, rfl, rfl, Nat.le_refl _, fun _ _ _ => rfl⟩, by simp, .inl rfl⟩
    cases ao <;> simp [Builtin.append_, run_underlying ht, sizeOf, typeInfo, hi, Builtin.lenOf, Builtin.firstCells, hnc, storeCells]
  · have hsmall : n + m ≤ 9223372036854775807 := by simp only [maxLen] at h63; omega
    have hlen : (xs ++ news).length = (n + m) * i.size := by rw [List.length_append, hown.1, hl, Nat.add_mul]
    have grown : ∀ (old : Nat), old < n + m → ∀ (row : Option Nat),
        (w.drew.alloc (.cells (xs.toArray ++ news.toArray ++ Builtin.zeroCells z.cells (grownCap w (n + m) old e - (n + m))) e)).ownsRow base e i.size
          (.slice (some ⟨w.heap.size, 0, none⟩) (n + m) (grownCap w (n + m) old e)) (n + m) (xs ++ news) ∧
        w.grownBy (w.drew.alloc (.cells (xs.toArray ++ news.toArray ++ Builtin.zeroCells z.cells (grownCap w (n + m) old e - (n + m))) e)) row := by
      intro old ho row
      have hge := grownCap_ge w (n + m) old e
      have hcm : grownCap w (n + m) old e ≤ maxLen := grownCap_le_maxLen w (n + m) old e h63
      refine ⟨⟨hlen, .inr ⟨w.heap.size, _, _, rfl, hbase, heap_alloc_new w.drew _, hge, hcm, ?_, ?_⟩⟩, ⟨rfl, rfl, rfl, by simp, fun k hk _ => Below.heap_alloc w.drew _ k hk⟩⟩
      · simp only [Array.size_append, List.size_toArray, size_zeroCells, hzs, hown.1, hl, ← Nat.add_mul]
        congr 1
        omega
      · simp only [Array.toList_append, List.append_assoc]
        rw [← List.append_assoc, ← hlen]
        exact List.take_left
    rcases hown.2 with ⟨rfl, rfl⟩ | ⟨g, cap, cur, rfl, hbg, hg, hnc, hcm, hcs, htake⟩
    · have hx : xs = [] := List.eq_nil_of_length_eq_zero (by simpa using hown.1)
      subst hx
      by_cases hm : m = 0
      · subst hm
        have hn : news = [] := List.eq_nil_of_length_eq_zero (by simpa using hl)
        subst hn
        refine ⟨.slice none 0 0, w, ?_, World.ownsRow_nil w base e i.size, ⟨rfl, rfl, rfl, Nat.le_refl _, fun _ _ _ => rfl⟩, by simp, .inl rfl⟩
        simp [Builtin.append_, run_underlying ht, sizeOf, typeInfo, hi, Builtin.lenOf, Builtin.firstCells, loadCells, loadCellsFrom]
      · have hr := run_append_nil (P := P) w t ty e i z ht hi hz a m c news hl hnews (by omega) (by omega) (by have hb := hbytes; simp only [Nat.zero_add] at hb; omega)
        have hgr := grown 0 (by omega) (Value.ownBlock (.slice none 0 0))
        simp only [Nat.zero_add, List.nil_append, Array.empty_append] at hgr ⊢
        exact ⟨_, _, hr, hgr.1, hgr.2, by simp [hm], .inr ⟨rfl, fun k hk => Below.heap_alloc w.drew _ k hk⟩⟩
    · by_cases hroom : n + m ≤ cap
      · have hfit : n * i.size + news.length ≤ cur.size := by rw [hl, hcs, ← Nat.add_mul]; exact Nat.mul_le_mul_right _ hroom
        have hr := run_append_room (P := P) w t ty e i ht hi g n cap cur hg a m c news hl hnews h1 hroom hfit
        refine ⟨_, _, hr, ⟨hlen, .inr ⟨g, cap, _, rfl, hbg, setRow_heap w g cur _ e _ hg, hroom, hcm, ?_, ?_⟩⟩, ⟨rfl, rfl, rfl, by simp, fun k _ hk => setRow_other w g k _ (fun e => hk (by simp [Value.ownBlock, e]))⟩, by simp, .inl rfl⟩
        · simp only [List.size_toArray, List.length_append, List.length_take, List.length_drop, Array.length_toList]
          omega
        · rw [htake, ← hlen]
          exact List.take_left
      · have holds : ∀ j u, xs[j]? = some u → w.cell? ((⟨g, 0, none⟩ : Addr).add j) = some u := hown.cells (g := g) rfl
        have hr := run_append_grow (P := P) w t ty e i z ht hi hz ⟨g, 0, none⟩ n cap xs hown.1 holds a m c news hl hnews (by omega) (by omega) (growslice_fits (by omega) hbytes)
        have hgr := grown cap (by omega) (Value.ownBlock (.slice (some ⟨g, 0, none⟩) n cap))
        exact ⟨_, _, hr, hgr.1, hgr.2, by simp, .inr ⟨rfl, fun k hk => Below.heap_alloc w.drew _ k hk⟩⟩

theorem append_run (w : World) (base : Nat) (t ty e : TypeId) (i : TypeInfo) (z : Value) (size : Nat) (ht : P.underlying t = some (.slice e)) (hi : P.info? e = some i) (hz : i.zero = some z)
    (hsize : i.size = size) (hzs : z.cells.size = size) (hsz : 0 < size)
    (v : Value) (n : Nat) (xs : List Value) (hown : w.ownsRow base e size v n xs)
    (xv : Value) (m : Nat) (news : List Value) (hl : news.length = m * size) (hx : (m = 0 ∧ ∃ c, xv = .slice none 0 c) ∨ ∃ a c, xv = .slice (some a) m c ∧ ∀ j u, news[j]? = some u → w.cell? (a.add j) = some u) (h1 : ∀ u ∈ news, u.oneCell' = true)
    (h63 : n + m ≤ maxLen) (hbytes : (n + m) * i.bytes ≤ 140737488355328) (hbase : base ≤ w.heap.size) :
    ∃ v' w', (Builtin.append_ #[t, t] ty #[v, xv]).run P w = .ok v' w' ∧ w'.ownsRow base e size v' (n + m) (xs ++ news) ∧ w.grownBy w' v.ownBlock ∧
      (v' = .slice none 0 0 ↔ v = .slice none 0 0 ∧ m = 0) ∧ (v'.ownBlock = v.ownBlock ∨ v'.ownBlock = some w.heap.size) := by
  obtain ⟨v', w', q1, q2, q3, q4, q5⟩ := append_runs (P := P) w base t ty e i z size ht hi hz hsize hzs hsz v n xs hown xv m news hl hx h1 h63 hbytes hbase
  exact ⟨v', w', q1, q2, q3, q4, q5.imp id And.left⟩

theorem crep_flat {lay : Nat → List CK} {imm : Nat → Nat → Prop} {w : World} {t : Nat} {m : List (List D)} {v : Value} (h : CRep lay imm w (.seq t) (.seq m) v) :
    ∃ news : List Value, news.length = m.length * (lay t).length ∧ ((m.length = 0 ∧ ∃ c, v = .slice none 0 c) ∨ ∃ a c, v = .slice (some a) m.length c ∧ ∀ j u, news[j]? = some u → w.cell? (a.add j) = some u) ∧ (∀ u ∈ news, u.oneCell' = true) ∧
      (∀ (i : Nat) (d : List D), m[i]? = some d → d.length = (lay t).length) ∧
      ∀ (i j : Nat) (x : List D) (d : D) (k : CK), m[i]? = some x → x[j]? = some d → (lay t)[j]? = some k → ∃ u, news[i * (lay t).length + j]? = some u ∧ CRep lay imm w k d u := by
  cases h
  case nil => exact ⟨[], by simp, .inl ⟨rfl, 0, rfl⟩, by simp, by simp, by simp⟩
  case seq b o cap u h1 h2 h3 h4 =>
    generalize hsz : (lay t).length = sz at *
    have hidx : ∀ p, p < m.length * sz → p / sz < m.length ∧ p % sz < sz ∧ (p / sz) * sz + p % sz = p := fun p hp => by
      have hpos : 0 < sz := Nat.pos_of_ne_zero fun q => by rw [q] at hp; simp at hp
      exact ⟨(Nat.div_lt_iff_lt_mul hpos).2 hp, Nat.mod_lt _ hpos, by rw [Nat.mul_comm]; exact Nat.div_add_mod p sz⟩
    have hij : ∀ i j, i < m.length → j < sz → i * sz + j < m.length * sz ∧ (i * sz + j) / sz = i ∧ (i * sz + j) % sz = j := fun i j hi hj => by
      refine ⟨?_, ?_, ?_⟩
      · have : (i + 1) * sz ≤ m.length * sz := Nat.mul_le_mul_right _ hi
        rw [Nat.add_mul] at this; omega
      · rw [Nat.mul_comm, Nat.mul_add_div (by omega), Nat.div_eq_of_lt hj]; rfl
      · rw [Nat.mul_comm, Nat.mul_add_mod, Nat.mod_eq_of_lt hj]
    refine ⟨(List.range (m.length * sz)).map fun p => u (p / sz) (p % sz), by simp, .inr ⟨⟨b, o, none⟩, cap, rfl, fun j v hj => ?_⟩, fun v hv => ?_, h2, fun i j x d k hx hd hk => ?_⟩
    · have hjl : j < m.length * sz := by have := (List.getElem?_eq_some_iff.1 hj).1; simpa using this
      rw [List.getElem?_map, List.getElem?_range hjl] at hj
      simp only [Option.map_some, Option.some.injEq] at hj
      subst hj
      obtain ⟨q1, q2, q3⟩ := hidx j hjl
      have := (h3 (j / sz) (j % sz) q1 q2).2
      rw [add_addr]
      rwa [Nat.add_assoc, q3] at this
    · obtain ⟨p, hp, rfl⟩ := List.mem_map.1 hv
      have hp := List.mem_range.1 hp
      obtain ⟨q1, q2, q3⟩ := hidx p hp
      have hx : m[p / sz]? = some m[p / sz] := List.getElem?_eq_getElem q1
      have hxl := h2 _ _ hx
      exact crep_one (h4 _ _ _ (m[p / sz]'q1)[p % sz] ((lay t)[p % sz]'(by omega)) hx (List.getElem?_eq_getElem (by omega)) (List.getElem?_eq_getElem (by omega)))
    · have hi : i < m.length := (List.getElem?_eq_some_iff.1 hx).1
      have hj : j < sz := by rw [← hsz]; exact (List.getElem?_eq_some_iff.1 hk).1
      obtain ⟨q1, q2, q3⟩ := hij i j hi hj
      exact ⟨u i j, by rw [List.getElem?_map, List.getElem?_range q1]; simp [q2, q3], h4 i j x d k hx hd hk⟩

theorem append_row {B : Nat} {wB : World} {G : Gh} {w : World} (H : HRep G B h w) (hb : Bel B wB w) {t ty e : TypeId} {ie : TypeInfo} {z : Value} (ht : P.underlying t = some (.slice e)) (hi : P.info? e = some ie) (hz : ie.zero = some z)
    (hsize : ie.size = (G.lay e).length) (hzs : z.cells.size = ie.size) (hpos : 0 < ie.size) (hby : ie.bytes ≤ 4096) {rr q : Nat} {nb : Bool} {l m : List (List D)} (hk : h[rr]? = some (.row e q nb l)) {xv : Value}
    (hx : CRep G.lay G.imm w (.seq e) (.seq m) xv) (hlen : l.length + m.length ≤ 1073741824) :
    ∃ v' w' G', (Builtin.append_ #[t, t] ty #[G.rv rr, xv]).run P w = .ok v' w' ∧ HRep G' B (h.set rr (.row e (q + 1) nb (l ++ m))) w' ∧ Mv B wB G w G' w' ∧ (AV.rs rr (q + 1)).is G' w' v' ∧ G'.n = G.n ∧ G'.lay = G.lay ∧
      ∃ news : List Value, news.length = m.length * (G.lay e).length ∧ (m.length = 0 ∨ ∃ a c, xv = .slice (some a) m.length c ∧ ∀ j u, news[j]? = some u → w.cell? (a.add j) = some u) ∧
        (∀ (i j : Nat) (x : List D) (d : D) (k : CK), m[i]? = some x → x[j]? = some d → (G.lay e)[j]? = some k → ∃ u, news[i * (G.lay e).length + j]? = some u ∧ CRep G.lay G.imm w k d u) ∧
        ∀ ys, w.ownsRow B e (G.lay e).length (G.rv rr) l.length ys → w'.ownsRow B e (G.lay e).length (G'.rv rr) (l ++ m).length (ys ++ news) := by
  obtain ⟨hver, hrow⟩ := H.blk rr _ hk
  have hrl : rr < G.n := by rw [← H.len]; exact (List.getElem?_eq_some_iff.1 hk).1
  obtain ⟨h1, h2, h3, xs, h4, h5⟩ := hrow
  obtain ⟨news, n1, n2, n3, n4, n5⟩ := crep_flat hx
  obtain ⟨v', w', hrun, hown, hgr, hnil, hblk⟩ := append_run (P := P) w B t ty e ie z (G.lay e).length ht hi hz hsize (by rw [hzs, hsize]) (by omega) (G.rv rr) l.length xs h4 xv m.length news n1 n2 n3
    (by simp only [maxLen]; omega) (by have : (l.length + m.length) * ie.bytes ≤ 1073741824 * 4096 := Nat.mul_le_mul hlen hby; omega) hb.size
  have hownk : ∀ k, (G.rv rr).ownBlock = some k → B ≤ k ∧ ∀ o, ¬ G.imm k o := fun k hkk => H.own rr _ hk rfl k (by rw [h1]; exact ownBlock_mem.2 hkk)
  have hgle : G.le w { G with rv := fun i => if i = rr then v' else G.rv i, ver := fun i => if i = rr then q + 1 else G.ver i, ft := fun i => if i = rr then v'.ownBlock.toList else G.ft i } w' := by
    refine ⟨Nat.le_refl _, fun _ _ => rfl, fun _ _ q => q, fun b o hbo => ?_, fun i _ => ?_, fun i _ e => ?_, rfl⟩
    · refine World.cell?_of_block (hgr.block b (H.imm b o hbo) fun e => ?_)
      exact (hownk b e.symm).2 o hbo
    · by_cases qi : i = rr
      · subst qi; simp only [if_true]; omega
      · simp only [if_neg qi]; exact Nat.le_refl _
    · by_cases qi : i = rr
      · subst qi; simp only [if_true] at e; omega
      · simp only [if_neg qi]
  obtain ⟨v'o, hv'⟩ : ∃ a n c, v' = .slice a n c := by
    rcases hown.2 with ⟨e, _⟩ | ⟨g, cap, cur, e, _⟩
    · exact ⟨_, _, _, e⟩
    · exact ⟨_, _, _, e⟩
  refine ⟨v', w', _, hrun, H.turn hrl _ hgle rfl rfl (fun j hj => ⟨rfl, by simp [hj], by simp [hj], by simp [hj]⟩) hgr.size (fun j hj hjr g hg => hgr.block g (H.lt j hj g hg) fun e => ?_) (fun g hg => ?_) (fun _ g hg => ?_) ⟨by simp, ?_⟩,
    .of hgle (hb.trans ⟨hgr.os, hgr.tape, hgr.output, hgr.size, fun k hkB => hgr.block k (Nat.lt_of_lt_of_le hkB hb.size) fun e => by have := (hownk k e.symm).1; omega⟩) rfl hgr.size (fun k hk hn => hgr.block k hk fun e => hn rr hrl (by rw [h1]; exact ownBlock_mem.2 e.symm)) (fun i hi g hg => ?_), ?_⟩
  rotate_right 2
  · by_cases qi : i = rr
    · subst qi
      simp only [if_true] at hg
      have hg' := ownBlock_mem.1 hg
      rcases hblk with e | e
      · exact .inl ⟨i, hrl, by rw [h1]; exact ownBlock_mem.2 (e ▸ hg')⟩
      · rw [e] at hg'; cases hg'; exact .inr (Nat.le_refl _)
    · simp only [if_neg qi] at hg; exact .inl ⟨i, hi, hg⟩
  rotate_left
  · exact H.inj j rr hj hrl hjr g hg (by rw [h1]; exact ownBlock_mem.2 e.symm)
  · simp only [if_true] at hg
    have hg' := ownBlock_mem.1 hg
    refine ⟨?_, (hown.lt g hg').2⟩
    rcases hblk with e | e
    · left; rw [h1]; exact ownBlock_mem.2 (e ▸ hg')
    · right; rw [e] at hg'; cases hg'; exact Nat.le_refl _
  · simp only [if_true] at hg
    have hg' := ownBlock_mem.1 hg
    refine ⟨(hown.lt g hg').1, fun o hbo => ?_⟩
    rcases hblk with e | e
    · exact (hownk g (e ▸ hg')).2 o hbo
    · rw [e] at hg'; cases hg'
      have := H.imm _ _ hbo; omega
  · refine ⟨by simp, fun e' => ?_, fun i d hd => ?_, xs ++ news, by simpa using hown, fun i j x d k hxx hd hkk => ?_⟩
    · simp only [if_true]
      rw [hnil, h2 e']
      constructor
      · rintro ⟨a, b⟩; rw [a, List.eq_nil_of_length_eq_zero b]; rfl
      · intro q; have := List.append_eq_nil_iff.1 q; exact ⟨this.1, by rw [this.2]; rfl⟩
    · rw [List.getElem?_append] at hd
      split at hd
      · exact h3 _ _ hd
      · exact n4 _ _ hd
    · have hxl : xs.length = l.length * (G.lay e).length := h4.1
      have hj : j < (G.lay e).length := (List.getElem?_eq_some_iff.1 hkk).1
      rw [List.getElem?_append] at hxx
      split at hxx
      · rename_i hil
        obtain ⟨u, hu, hc⟩ := h5 i j x d k hxx hd hkk
        have : i * (G.lay e).length + j < xs.length := (List.getElem?_eq_some_iff.1 hu).1
        exact ⟨u, by rw [List.getElem?_append_left this]; exact hu, hc.mono hgle.imm hgle.cell⟩
      · rename_i hil
        obtain ⟨u, hu, hc⟩ := n5 (i - l.length) j x d k hxx hd hkk
        have hmul : i * (G.lay e).length = l.length * (G.lay e).length + (i - l.length) * (G.lay e).length := by rw [← Nat.add_mul]; congr 1; omega
        refine ⟨u, ?_, hc.mono hgle.imm hgle.cell⟩
        show (xs ++ news)[i * (G.lay e).length + j]? = some u
        rw [List.getElem?_append_right (by rw [hxl]; omega), hxl, show i * (G.lay e).length + j - l.length * (G.lay e).length = (i - l.length) * (G.lay e).length + j by omega]
        exact hu
  · refine ⟨?_, rfl, rfl, news, n1, ?_, n5, fun ys hys => ?_⟩
    · simp only [AV.is]
      obtain ⟨n, c, e⟩ := hv'
      exact ⟨hrl, by simp, ⟨_, _, _, e⟩, fun _ => by simp⟩
    · rcases n2 with ⟨q, _⟩ | q
      · exact .inl q
      · exact .inr q
    · rw [ownsRow_unique hys h4]; simpa using hown

theorem reslice_row {B : Nat} {wB : World} {G : Gh} {w : World} (H : HRep G B h w) (hb : Bel B wB w) {t e : TypeId} (ht : P.underlying t = some (.slice e)) (hsz : szT P e = some (G.lay e).length)
    {rr q : Nat} {nb : Bool} {l : List (List D)} (hk : h[rr]? = some (.row e q nb l)) {ik : IntKind} {m : Int} (h0 : 0 ≤ m) (hm : m ≤ (l.length : Int)) :
    ∃ v' G', (Instr.sliceAt t (G.rv rr) none (some (.int ik m)) none).run P w = .ok v' w ∧ HRep G' B (h.set rr (.row e (q + 1) false (l.take m.toNat))) w ∧ Mv B wB G w G' w ∧ (AV.rs rr (q + 1)).is G' w v' ∧ G'.n = G.n ∧ G'.lay = G.lay ∧
      ∀ ys, w.ownsRow B e (G.lay e).length (G.rv rr) l.length ys → w.ownsRow B e (G.lay e).length (G'.rv rr) (l.take m.toNat).length (ys.take (m.toNat * (G.lay e).length)) := by
  obtain ⟨hver, hrow⟩ := H.blk rr _ hk
  have hrl : rr < G.n := by rw [← H.len]; exact (List.getElem?_eq_some_iff.1 hk).1
  obtain ⟨h1, h2, h3, xs, h4, h5⟩ := hrow
  have hlt : (l.take m.toNat).length = m.toNat := by rw [List.length_take]; omega
  have hrun : ∀ (a : Option Addr) (c : Nat), G.rv rr = .slice a l.length c → l.length ≤ c → (Instr.sliceAt t (G.rv rr) none (some (.int ik m)) none).run P w = .ok (.slice a m.toNat c) w := fun a c e1 hc => by
    have e2 := run_sliceBound (P := P) w ik m c .sliceAcap h0 (by omega)
    have eb : (Instr.sliceBounds true l.length c none (some (.int ik m)) none).run P w = .ok (0, m.toNat, c) w := by
      unfold Instr.sliceBounds
      simp only [Sem.run_bind, Sem.run_pure, Result.andThen_ok, e2, if_true, Option.isSome_none, Bool.false_eq_true, if_false]
    rw [e1]
    simp only [Instr.sliceAt, Instr.slice, Sem.run_bind, run_underlying ht, Result.andThen_ok, eb, Sem.run_pure, run_szT hsz w]
    cases a with
    | none => simp
    | some a => simp [Addr.add]
  obtain ⟨a, c, e1, hcl⟩ : ∃ a c, G.rv rr = .slice a l.length c ∧ l.length ≤ c := by
    rcases h4.2 with ⟨e, hz⟩ | ⟨g, cap, cur, e, _, _, hle, _⟩
    · exact ⟨none, 0, by rw [e, hz], by omega⟩
    · exact ⟨_, cap, e, hle⟩
  have hr := hrun a c e1 hcl
  have hown : w.ownsRow B e (G.lay e).length (.slice a m.toNat c) (l.take m.toNat).length (xs.take (m.toNat * (G.lay e).length)) := by
    have hxl := h4.1
    have hle : m.toNat * (G.lay e).length ≤ xs.length := by rw [hxl]; exact Nat.mul_le_mul_right _ (by omega)
    refine ⟨by rw [List.length_take, hlt]; omega, ?_⟩
    rcases h4.2 with ⟨e', hz⟩ | ⟨g, cap, cur, e', hg1, hg2, hle', hg3, hg4, hg5⟩
    · rw [e1] at e'
      obtain ⟨rfl, _, rfl⟩ : a = none ∧ l.length = 0 ∧ c = 0 := by simpa using e'
      have : m.toNat = 0 := by omega
      left; rw [hlt, this]; exact ⟨rfl, rfl⟩
    · rw [e1] at e'
      obtain ⟨rfl, _, rfl⟩ : a = some ⟨g, 0, none⟩ ∧ l.length = l.length ∧ c = cap := by simpa using e'
      right
      refine ⟨g, c, cur, by rw [hlt], hg1, hg2, by omega, hg3, hg4, ?_⟩
      rw [← hg5, List.take_take, hlt]
      congr 1
      exact (Nat.min_eq_left (Nat.mul_le_mul_right _ (by omega))).symm
  have hblk : (Value.slice a m.toNat c).ownBlock = (G.rv rr).ownBlock := by rw [e1]; cases a <;> rfl
  have hgle : G.le w { G with rv := fun i => if i = rr then .slice a m.toNat c else G.rv i, ver := fun i => if i = rr then q + 1 else G.ver i } w := by
    refine ⟨Nat.le_refl _, fun _ _ => rfl, fun _ _ q => q, fun _ _ _ => rfl, fun i _ => ?_, fun i _ e => ?_, rfl⟩
    · by_cases qi : i = rr
      · subst qi; simp only [if_true]; omega
      · simp only [if_neg qi]; exact Nat.le_refl _
    · by_cases qi : i = rr
      · subst qi; simp only [if_true] at e; omega
      · simp only [if_neg qi]
  refine ⟨_, _, hr, H.turn hrl _ hgle rfl rfl (fun j hj => ⟨rfl, by simp [hj], by simp [hj], rfl⟩) (Nat.le_refl _) (fun _ _ _ _ _ => rfl) (fun g hg => ⟨.inl hg, H.lt rr hrl g hg⟩) (fun _ g hg => H.own rr _ hk rfl g hg) ⟨by simp, ?_⟩,
    .of hgle hb rfl (Nat.le_refl _) (fun _ _ _ => rfl) (fun i hi g hg => .inl ⟨i, hi, hg⟩), ?_⟩
  · simp only [if_true]
    refine ⟨by rw [h1, hblk], (fun e => by cases e), fun i d hi => h3 i d ?_, _, hown, fun i j x d k q1 q2 q3 => ?_⟩
    · rw [List.getElem?_take] at hi
      split at hi
      · exact hi
      · cases hi
    · rw [List.getElem?_take] at q1
      split at q1
      · rename_i him
        obtain ⟨u, hu, hc⟩ := h5 i j x d k q1 q2 q3
        refine ⟨u, ?_, hc⟩
        have hj : j < (G.lay e).length := (List.getElem?_eq_some_iff.1 q3).1
        rw [List.getElem?_take, if_pos ?_]
        · exact hu
        · have e9 : i * (G.lay e).length + (G.lay e).length ≤ m.toNat * (G.lay e).length := by rw [← Nat.succ_mul]; exact Nat.mul_le_mul_right _ him
          exact Nat.lt_of_lt_of_le (Nat.add_lt_add_left hj _) e9
      · cases q1
  · refine ⟨?_, rfl, rfl, fun ys hys => ?_⟩
    · simp only [AV.is, if_true]
      refine ⟨hrl, Nat.le_refl _, ⟨_, _, _, rfl⟩, ?_⟩
      simp
    · rw [ownsRow_unique hys h4]; simpa using hown

theorem gle_is {G G' : Gh} {w : World} (hl : G.le w G' w) {a : AV} {v : Value} (h : a.is G w v) : a.is G' w v := AV.is_mono hl a v h

theorem get_snoc {α : Type} {l : List α} {x y : α} {i : Nat} (h : (l ++ [x])[i]? = some y) : (i < l.length ∧ l[i]? = some y) ∨ (i = l.length ∧ y = x) := by
  rw [List.getElem?_append] at h
  split at h
  · rename_i q; exact .inl ⟨q, h⟩
  · rename_i q
    cases e : i - l.length with
    | zero => rw [e] at h; simp at h; exact .inr ⟨by omega, h.symm⟩
    | succ n => rw [e] at h; simp at h

theorem append_trow {B : Nat} {wB : World} {G : Gh} {w : World} (H : HRep G B h w) (hb : Bel B wB w) {t ty e : TypeId} {ie : TypeInfo} {z : Value} (ht : P.underlying t = some (.slice e)) (hi : P.info? e = some ie) (hz : ie.zero = some z)
    (hsize : ie.size = (G.lay e).length) (hzs : z.cells.size = ie.size) (hpos : 0 < ie.size) (hby : ie.bytes ≤ 4096) {rr q : Nat} {l : List (List D)} {d : List D} (hk : h[rr]? = some (.trow e q l)) {xv : Value}
    (hx : CRep G.lay G.imm w (.seq e) (.seq [d]) xv) (hlen : l.length + 1 ≤ 1073741824) (hnil : ∀ a c, xv = .slice (some a) 1 c → w.cell? (a.add ((G.lay e).length - 1)) = some (.slice none 0 0)) {ty' : Nat} (h9 : (G.lay e).getLast? = some (.seq ty')) :
    ∃ v' w' G', (Builtin.append_ #[t, t] ty #[G.rv rr, xv]).run P w = .ok v' w' ∧ HRep G' B (h.set rr (.trow e (q + 1) (l ++ [d]))) w' ∧ Mv B wB G w G' w' ∧ (AV.rs rr (q + 1)).is G' w' v' := by
  have hrl : rr < h.length := (List.getElem?_eq_some_iff.1 hk).1
  have hrn : rr < G.n := by rw [← H.len]; exact hrl
  obtain ⟨hver, hT⟩ := H.blk rr _ hk
  obtain ⟨h1, h2, h3, h4, xs, us, h5, h6, h7, h8, h10⟩ := id hT
  have hk1 : (h.set rr (.row e q false l))[rr]? = some (.row e q false l) := by rw [List.getElem?_set, if_pos rfl, if_pos hrl]
  obtain ⟨v', w', G2, r1, r2, r3, r4, r5, r6, news, n1, n2, n3, r7⟩ := append_row (G := G.bare rr) (wB := wB) (ty := ty) (H.bare hk) hb ht hi hz hsize hzs hpos hby hk1 (m := [d]) hx hlen
  rw [List.set_set] at r2
  have hk2 : (h.set rr (.row e (q + 1) false (l ++ [d])))[rr]? = some (.row e (q + 1) false (l ++ [d])) := by rw [List.getElem?_set, if_pos rfl, if_pos hrl]
  have e2 : G2.lay = G.lay := r6
  have hown' := r7 xs h5
  rw [show (G.bare rr).lay = G.lay from rfl] at hown' n1 n3
  have hxs : xs.length = l.length * (G.lay e).length := h5.1
  have hkd : (G.lay e)[(G.lay e).length - 1]? = some (.seq ty') := by rw [← List.getLast?_eq_getElem?]; exact h9
  have hnews : news[(G.lay e).length - 1]? = some (.slice none 0 0) := by
    rcases n2 with q | ⟨a, c, hxe, hc⟩
    · simp at q
    · have hn := hnil a c hxe
      have hlt : (G.lay e).length - 1 < news.length := by rw [n1]; simp; omega
      have := hc ((G.lay e).length - 1) _ (List.getElem?_eq_getElem hlt)
      rw [hn] at this
      rw [List.getElem?_eq_getElem hlt, ← this]
  have hdl : d.length = (G.lay e).length := by
    obtain ⟨_, _, _, _, n4, _⟩ := crep_flat hx
    exact n4 0 d rfl
  have hdn : d.getD ((G.lay e).length - 1) (.int 0) = .seq [] := by
    have hlt : (G.lay e).length - 1 < d.length := by omega
    obtain ⟨u, hu, hc⟩ := n3 0 ((G.lay e).length - 1) d _ _ rfl (List.getElem?_eq_getElem hlt) hkd
    rw [Nat.zero_mul, Nat.zero_add, hnews] at hu
    cases hu
    rw [List.getD_eq_getElem?_getD, List.getElem?_eq_getElem hlt, Option.getD_some]
    generalize d[(G.lay e).length - 1] = dd at hc
    cases hc
    rfl
  have hflat : ((us ++ [Value.slice none 0 0]).flatMap fun u => u.ownBlock.toList) = us.flatMap fun u => u.ownBlock.toList := by simp [List.flatMap_append, Value.ownBlock]
  have H3 := HRep.dress (us := us ++ [.slice none 0 0]) r2 hk2 (by rw [e2]; exact hown') (by simp [h7]) (fun i x hx' => by
    rw [e2]
    rcases get_snoc hx' with ⟨hil, hx'⟩ | ⟨hil, rfl⟩
    · obtain ⟨u, ys, ty', h9, a1, a2, a3, a4⟩ := h10 i x hx'
      obtain ⟨b1, b2⟩ := kid_owns H hk h8 h4 r3 a1 a3 a4
      have := (List.getElem?_eq_some_iff.1 a1).1
      have := (List.getElem?_eq_some_iff.1 a2).1
      exact ⟨u, ys, ty', h9, by rw [List.getElem?_append_left (by omega)]; exact a1, by rw [List.getElem?_append_left (by omega)]; exact a2, b1, b2⟩
    · refine ⟨.slice none 0 0, [], ty', h9, by rw [hil, ← h7]; simp, ?_, ?_, fun g o hg => by simp [Value.ownBlock] at hg⟩
      · rw [hil, List.getElem?_append_right (by omega), hxs, show l.length * (G.lay e).length + ((G.lay e).length - 1) - l.length * (G.lay e).length = (G.lay e).length - 1 by omega]
        exact hnews
      · rw [hdn]; exact World.ownsRow_nil w' B ty' _) (fun g hg => by
    rw [hflat] at hg
    obtain ⟨q1, q2, q3, q4⟩ := kid_keep H hk h8 h4 r3 hg
    exact ⟨h3 g (by rw [h8]; exact List.mem_append_right _ hg), Nat.lt_of_lt_of_le q1 r3.size, q4⟩) (by rw [hflat]; rw [h8] at h4; exact (List.nodup_append.1 h4).2.1)
  rw [List.set_set] at H3
  obtain ⟨hv2, hR2⟩ := r2.blk rr _ hk2
  refine ⟨v', w', _, r1, H3, mv_dress hrn (fun g hg => by rw [h8]; exact List.mem_append_left _ hg) r3 (fun g hg => by rw [hR2.1]; exact hg) (by rw [r5]; exact hrn) fun g hg => ?_, gle_is (gle_dress _ _ _ _) r4⟩
  rw [hflat] at hg
  exact .inl (by rw [h8]; exact List.mem_append_right _ hg)

theorem flatMap_take_mem {us : List Value} {n g : Nat} (hg : g ∈ (us.take n).flatMap fun u => u.ownBlock.toList) : g ∈ us.flatMap fun u => u.ownBlock.toList := by
  obtain ⟨u, hu, hgu⟩ := List.mem_flatMap.1 hg
  exact List.mem_flatMap.2 ⟨u, List.mem_of_mem_take hu, hgu⟩

theorem reslice_trow {B : Nat} {wB : World} {G : Gh} {w : World} (H : HRep G B h w) (hb : Bel B wB w) {t e : TypeId} (ht : P.underlying t = some (.slice e)) (hsz : szT P e = some (G.lay e).length)
    {rr q : Nat} {l : List (List D)} (hk : h[rr]? = some (.trow e q l)) {ik : IntKind} {m : Int} (h0 : 0 ≤ m) (hm : m ≤ (l.length : Int)) :
    ∃ v' G', (Instr.sliceAt t (G.rv rr) none (some (.int ik m)) none).run P w = .ok v' w ∧ HRep G' B (h.set rr (.trow e (q + 1) (l.take m.toNat))) w ∧ Mv B wB G w G' w ∧ (AV.rs rr (q + 1)).is G' w v' := by
  have hrl : rr < h.length := (List.getElem?_eq_some_iff.1 hk).1
  have hrn : rr < G.n := by rw [← H.len]; exact hrl
  obtain ⟨hver, hT⟩ := H.blk rr _ hk
  obtain ⟨h1, h2, h3, h4, xs, us, h5, h6, h7, h8, h10⟩ := id hT
  have hk1 : (h.set rr (.row e q false l))[rr]? = some (.row e q false l) := by rw [List.getElem?_set, if_pos rfl, if_pos hrl]
  obtain ⟨v', G2, r1, r2, r3, r4, r5, r6, r7⟩ := reslice_row (G := G.bare rr) (wB := wB) (H.bare hk) hb ht hsz hk1 (ik := ik) h0 hm
  rw [List.set_set] at r2
  have hk2 : (h.set rr (.row e (q + 1) false (l.take m.toNat)))[rr]? = some (.row e (q + 1) false (l.take m.toNat)) := by rw [List.getElem?_set, if_pos rfl, if_pos hrl]
  have e2 : G2.lay = G.lay := r6
  have hown' := r7 xs h5
  rw [show (G.bare rr).lay = G.lay from rfl] at hown'
  have hsub : ((us.take m.toNat).flatMap fun u => u.ownBlock.toList).Sublist (us.flatMap fun u => u.ownBlock.toList) := by
    conv => rhs; rw [← List.take_append_drop m.toNat us, List.flatMap_append]
    exact List.sublist_append_left _ _
  have H3 := HRep.dress (us := us.take m.toNat) r2 hk2 (by rw [e2]; exact hown') (by simp [h7]) (fun i x hx' => by
    rw [e2]
    rw [List.getElem?_take] at hx'
    split at hx'
    · rename_i him
      obtain ⟨u, ys, ty', h9, a1, a2, a3, a4⟩ := h10 i x hx'
      have hpos : 0 < (G.lay e).length := by
        rcases Nat.eq_zero_or_pos (G.lay e).length with q | q
        · rw [List.eq_nil_of_length_eq_zero q] at h9; simp at h9
        · exact q
      obtain ⟨b1, b2⟩ := kid_owns H hk h8 h4 r3 a1 a3 a4
      refine ⟨u, ys, ty', h9, by rw [List.getElem?_take, if_pos him]; exact a1, ?_, b1, b2⟩
      have : (i + 1) * (G.lay e).length ≤ m.toNat * (G.lay e).length := Nat.mul_le_mul_right _ him
      rw [Nat.add_mul] at this
      rw [List.getElem?_take, if_pos (by omega)]
      exact a2
    · cases hx') (fun g hg => by
    have hg := flatMap_take_mem hg
    obtain ⟨q1, q2, q3, q4⟩ := kid_keep H hk h8 h4 r3 hg
    exact ⟨h3 g (by rw [h8]; exact List.mem_append_right _ hg), Nat.lt_of_lt_of_le q1 r3.size, q4⟩) (by rw [h8] at h4; exact hsub.nodup (List.nodup_append.1 h4).2.1)
  rw [List.set_set] at H3
  obtain ⟨hv2, hR2⟩ := r2.blk rr _ hk2
  refine ⟨v', _, r1, H3, mv_dress hrn (fun g hg => by rw [h8]; exact List.mem_append_left _ hg) r3 (fun g hg => by rw [hR2.1]; exact hg) (by rw [r5]; exact hrn) fun g hg => ?_, gle_is (gle_dress _ _ _ _) r4⟩
  exact .inl (by rw [h8]; exact List.mem_append_right _ (flatMap_take_mem hg))

end
end Go.Proofs.Qx
