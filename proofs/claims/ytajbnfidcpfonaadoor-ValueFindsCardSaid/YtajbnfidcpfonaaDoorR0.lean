/- A small machine beside the model: it runs a Go function's code over values that are written out (places of the call's own memory by their number),
   and answers in plain Lean. That what it answers is what the model does is proved in these texts, for any program. No condition of any statement stands here. -/
import Derived.RegionTactic
import Derived.LoopN
import Derived.Below
import Derived.Laws.StructEq
import Derived.Laws.Cells
import Derived.WalkKit
namespace Go.Proofs.Rx
open Go Go.RowKit
set_option linter.unusedVariables false
set_option linter.unusedSimpArgs false

/-! ### plain data of slices -/
/-- The kind of a cell. -/
inductive CK where
  | int (k : IntKind)
  | bool
  | str
  | seq (l : List CK)
  deriving Inhabited
/-- What a cell holds; a slice holds elements, each of as many cells. -/
inductive D where
  | int (n : Int)
  | bool (b : Bool)
  | str (s : ByteArray)
  | seq (l : List (List D))
  deriving Inhabited
def D.toInt : D → Int | .int n => n | _ => 0
def D.toBool : D → Bool | .bool b => b | _ => false
def D.toStr : D → ByteArray | .str s => s | _ => .empty
def D.toSeq : D → List (List D) | .seq l => l | _ => []

/-! ### values -/
inductive AV where
  | junk
  | int (k : IntKind) (n : Int)
  | bool (b : Bool)
  | str (s : ByteArray)
  | ptr (b o : Nat)
  | agg (l : List AV)
  | tup (l : List AV)
  | fn (f : Nat) (first cap : List AV)
  | val (v : Value)
  | seq (c : List CK) (l : List (List D))
  | sl (b o n c : Nat)
  deriving Inhabited

/-- Where the local blocks lie, how many there are; which cells are written no more. -/
structure Gh where
  at_ : Nat → Nat
  n : Nat
  imm : Nat → Nat → Prop

/-- A cell of that kind holds that datum. -/
inductive CRep (imm : Nat → Nat → Prop) (w : World) : CK → D → Value → Prop where
  | int (k : IntKind) (n : Int) : CRep imm w (.int k) (.int n) (.int k n)
  | bool (b : Bool) : CRep imm w .bool (.bool b) (.bool b)
  | str (s : ByteArray) : CRep imm w .str (.str s) (.string s)
  | nil (c : List CK) : CRep imm w (.seq c) (.seq []) (.slice none 0 0)
  | seq (c : List CK) (l : List (List D)) (b o cap : Nat) (u : Nat → Nat → Value) (hcap : l.length ≤ cap)
      (hel : ∀ (i : Nat) (e : List D), l[i]? = some e → e.length = c.length)
      (hat : ∀ (i j : Nat), i < l.length → j < c.length → imm b (o + i * c.length + j) ∧ w.cell? ⟨b, o + i * c.length + j, none⟩ = some (u i j))
      (hrep : ∀ (i j : Nat) (e : List D) (d : D) (k : CK), l[i]? = some e → e[j]? = some d → c[j]? = some k → CRep imm w k d (u i j)) :
      CRep imm w (.seq c) (.seq l) (.slice (some ⟨b, o, none⟩) l.length cap)

theorem CRep.mono {imm imm' : Nat → Nat → Prop} {w w' : World} (hi : ∀ b o, imm b o → imm' b o) (hw : ∀ b o, imm b o → w'.cell? ⟨b, o, none⟩ = w.cell? ⟨b, o, none⟩)
    {k : CK} {d : D} {v : Value} (h : CRep imm w k d v) : CRep imm' w' k d v := by
  induction h with
  | int k n => exact .int k n
  | bool b => exact .bool b
  | str s => exact .str s
  | nil c => exact .nil c
  | seq c l b o cap u hcap hel hat hrep ih =>
    exact .seq c l b o cap u hcap hel (fun i j h1 h2 => ⟨hi _ _ (hat i j h1 h2).1, by rw [hw _ _ (hat i j h1 h2).1]; exact (hat i j h1 h2).2⟩) ih

mutual
def AV.is (G : Gh) (w : World) : AV → Value → Prop
  | .junk, _ => True
  | .int k n, v => v = .int k n
  | .bool b, v => v = .bool b
  | .str s, v => v = .string s
  | .ptr b o, v => b < G.n ∧ v = .pointer (some ⟨G.at_ b, o, none⟩)
  | .agg l, v => ∃ a : Array Value, v = .agg a ∧ AV.isL G w l a.toList
  | .tup l, v => ∃ a : Array Value, v = .tuple a ∧ AV.isL G w l a.toList
  | .fn f l m, v => ∃ a b : Array Value, v = .func (.func f) a b ∧ AV.isL G w l a.toList ∧ AV.isL G w m b.toList
  | .val x, v => v = x
  | .seq c l, v => CRep G.imm w (.seq c) (.seq l) v
  | .sl b o n c, v => b < G.n ∧ v = .slice (some ⟨G.at_ b, o, none⟩) n c
def AV.isL (G : Gh) (w : World) : List AV → List Value → Prop
  | [], vs => vs = []
  | a :: l, vs => ∃ v r, vs = v :: r ∧ AV.is G w a v ∧ AV.isL G w l r
end

/-- More is known, and what is written no more reads as it did. -/
structure Gh.le (G : Gh) (w : World) (G' : Gh) (w' : World) : Prop where
  n : G.n ≤ G'.n
  at_ : ∀ i, i < G.n → G'.at_ i = G.at_ i
  imm : ∀ b o, G.imm b o → G'.imm b o
  cell : ∀ b o, G.imm b o → w'.cell? ⟨b, o, none⟩ = w.cell? ⟨b, o, none⟩

theorem Gh.le.refl (G : Gh) (w : World) : G.le w G w := ⟨Nat.le_refl _, fun _ _ => rfl, fun _ _ h => h, fun _ _ _ => rfl⟩
theorem Gh.le.trans {A B C : Gh} {a b c : World} (h : A.le a B b) (k : B.le b C c) : A.le a C c :=
  ⟨Nat.le_trans h.n k.n, fun i hi => (k.at_ i (Nat.lt_of_lt_of_le hi h.n)).trans (h.at_ i hi), fun _ _ hi => k.imm _ _ (h.imm _ _ hi),
    fun _ _ hi => (k.cell _ _ (h.imm _ _ hi)).trans (h.cell _ _ hi)⟩

mutual
theorem AV.is_mono {G G' : Gh} {w w' : World} (h : G.le w G' w') : ∀ (a : AV) (v : Value), a.is G w v → a.is G' w' v
  | .junk, _, _ => by simp [AV.is]
  | .int .., _, hv => by simpa [AV.is] using hv
  | .bool .., _, hv => by simpa [AV.is] using hv
  | .str .., _, hv => by simpa [AV.is] using hv
  | .ptr b o, v, hv => by
    simp only [AV.is] at hv ⊢
    exact ⟨Nat.lt_of_lt_of_le hv.1 h.n, by rw [h.at_ b hv.1]; exact hv.2⟩
  | .agg l, v, hv => by
    simp only [AV.is] at hv ⊢
    obtain ⟨a, e, hl⟩ := hv
    exact ⟨a, e, AV.isL_mono h l _ hl⟩
  | .tup l, v, hv => by
    simp only [AV.is] at hv ⊢
    obtain ⟨a, e, hl⟩ := hv
    exact ⟨a, e, AV.isL_mono h l _ hl⟩
  | .fn f l m, v, hv => by
    simp only [AV.is] at hv ⊢
    obtain ⟨a, b, e, hl, hm⟩ := hv
    exact ⟨a, b, e, AV.isL_mono h l _ hl, AV.isL_mono h m _ hm⟩
  | .val _, _, hv => by simpa [AV.is] using hv
  | .seq c l, v, hv => by
    simp only [AV.is] at hv ⊢
    exact hv.mono h.imm h.cell
  | .sl b o n c, v, hv => by
    simp only [AV.is] at hv ⊢
    exact ⟨Nat.lt_of_lt_of_le hv.1 h.n, by rw [h.at_ b hv.1]; exact hv.2⟩
theorem AV.isL_mono {G G' : Gh} {w w' : World} (h : G.le w G' w') : ∀ (l : List AV) (vs : List Value), AV.isL G w l vs → AV.isL G' w' l vs
  | [], vs, hv => by simpa [AV.isL] using hv
  | a :: l, vs, hv => by
    simp only [AV.isL] at hv ⊢
    obtain ⟨v, r, e, ha, hl⟩ := hv
    exact ⟨v, r, e, AV.is_mono h a v ha, AV.isL_mono h l r hl⟩
end

section
variable {G : Gh} {w : World}
theorem isL_len : ∀ {l : List AV} {vs : List Value}, AV.isL G w l vs → vs.length = l.length
  | [], vs, h => by simp [AV.isL] at h; simp [h]
  | a :: l, vs, h => by
    simp only [AV.isL] at h
    obtain ⟨v, r, rfl, _, hl⟩ := h
    simp [isL_len hl]

theorem isL_get : ∀ {l : List AV} {vs : List Value}, AV.isL G w l vs → ∀ (i : Nat) (a : AV), l[i]? = some a → ∃ v, vs[i]? = some v ∧ a.is G w v
  | [], vs, h, i, a, hi => by simp at hi
  | b :: l, vs, h, i, a, hi => by
    simp only [AV.isL] at h
    obtain ⟨v, r, rfl, ha, hl⟩ := h
    cases i with
    | zero => simp at hi; subst hi; exact ⟨v, rfl, ha⟩
    | succ i => simpa using isL_get hl i a (by simpa using hi)

theorem isL_of_get : ∀ {l : List AV} {vs : List Value}, vs.length = l.length → (∀ (i : Nat) (a : AV) (v : Value), l[i]? = some a → vs[i]? = some v → a.is G w v) → AV.isL G w l vs
  | [], vs, h, _ => by simp at h; simp [AV.isL, h]
  | a :: l, [], h, _ => by simp at h
  | a :: l, v :: r, h, k => by
    simp only [AV.isL]
    exact ⟨v, r, rfl, k 0 a v rfl rfl, isL_of_get (by simpa using h) (fun i b u hb hu => k (i + 1) b u (by simpa using hb) (by simpa using hu))⟩

theorem isL_append : ∀ {l m : List AV} {vs us : List Value}, AV.isL G w l vs → AV.isL G w m us → AV.isL G w (l ++ m) (vs ++ us)
  | [], m, vs, us, h, k => by simp [AV.isL] at h; simpa [h] using k
  | a :: l, m, vs, us, h, k => by
    simp only [AV.isL] at h
    obtain ⟨v, r, rfl, ha, hl⟩ := h
    simp only [List.cons_append, AV.isL]
    exact ⟨v, r ++ us, rfl, ha, isL_append hl k⟩

theorem isL_take : ∀ {l : List AV} {vs : List Value}, AV.isL G w l vs → ∀ n, AV.isL G w (l.take n) (vs.take n)
  | [], vs, h, n => by simp [AV.isL] at h; simp [h, AV.isL]
  | a :: l, vs, h, n => by
    simp only [AV.isL] at h
    obtain ⟨v, r, rfl, ha, hl⟩ := h
    cases n with
    | zero => simp [AV.isL]
    | succ n => simp only [List.take_succ_cons, AV.isL]; exact ⟨v, _, rfl, ha, isL_take hl n⟩

theorem isL_drop : ∀ {l : List AV} {vs : List Value}, AV.isL G w l vs → ∀ n, AV.isL G w (l.drop n) (vs.drop n)
  | [], vs, h, n => by simp [AV.isL] at h; simp [h, AV.isL]
  | a :: l, vs, h, n => by
    simp only [AV.isL] at h
    obtain ⟨v, r, rfl, ha, hl⟩ := h
    cases n with
    | zero => simp only [List.drop_zero, AV.isL]; exact ⟨v, r, rfl, ha, hl⟩
    | succ n => simpa using isL_drop hl n

theorem isL_set {l : List AV} {vs : List Value} (h : AV.isL G w l vs) (i : Nat) {a : AV} {v : Value} (hv : a.is G w v) : AV.isL G w (l.set i a) (vs.set i v) := by
  refine isL_of_get (by simp [isL_len h]) fun j b u hb hu => ?_
  rw [List.getElem?_set] at hb hu
  by_cases e : i = j
  · subst e
    have hl := isL_len h
    by_cases q : i < l.length
    · rw [if_pos rfl, if_pos q] at hb
      rw [if_pos rfl, if_pos (by omega)] at hu
      cases hb; cases hu; exact hv
    · rw [if_pos rfl, if_neg q] at hb; cases hb
  · rw [if_neg e] at hb hu
    obtain ⟨u', e', k⟩ := isL_get h j b hb
    rw [hu] at e'; cases e'; exact k
end

/-- A value of the program's text. -/
def ofC : Value → AV
  | .int k n => .int k n
  | .bool b => .bool b
  | .string s => .str s
  | v => .val v
def ofV : Value → AV
  | .agg a => .agg (a.toList.map ofC)
  | .tuple a => .tup (a.toList.map ofC)
  | v => ofC v

theorem ofC_is (G : Gh) (w : World) (v : Value) : (ofC v).is G w v := by cases v <;> simp [ofC, AV.is]
theorem ofCs_is (G : Gh) (w : World) : ∀ (l : List Value), AV.isL G w (l.map ofC) l
  | [] => by simp [AV.isL]
  | v :: l => by simp only [List.map_cons, AV.isL]; exact ⟨v, l, rfl, ofC_is G w v, ofCs_is G w l⟩
theorem ofV_is (G : Gh) (w : World) (v : Value) : (ofV v).is G w v := by
  cases v
  case agg a => simp only [ofV, AV.is]; exact ⟨_, rfl, ofCs_is G w _⟩
  case tuple a => simp only [ofV, AV.is]; exact ⟨_, rfl, ofCs_is G w _⟩
  all_goals (simp only [ofV]; exact ofC_is G w _)

/-- The cells of a value. -/
def AV.cells : AV → List AV
  | .agg l => l
  | v => [v]
/-- It is known to be the value of one cell. -/
def AV.one : AV → Bool
  | .int .. | .bool .. | .str .. | .ptr .. | .fn .. | .seq .. | .sl .. => true
  | .val v => v.oneCell'
  | _ => false
/-- What it is is known: as cells. -/
def AV.known : AV → Bool
  | .agg l => l.all AV.one
  | v => v.one

theorem AV.one_is {G : Gh} {w : World} {a : AV} {v : Value} (h : a.one = true) (hv : a.is G w v) : v.oneCell' = true := by
  cases a <;> simp only [AV.one, AV.is] at h hv
  case int => subst hv; rfl
  case bool => subst hv; rfl
  case str => subst hv; rfl
  case ptr => obtain ⟨_, rfl⟩ := hv; rfl
  case sl => obtain ⟨_, rfl⟩ := hv; rfl
  case fn => obtain ⟨_, _, rfl, _⟩ := hv; rfl
  case val => subst hv; exact h
  case seq => cases hv <;> rfl
  all_goals simp at h

theorem cells_is {G : Gh} {w : World} {a : AV} {v : Value} (h : a.known = true) (hv : a.is G w v) : AV.isL G w a.cells v.cells.toList ∧ ∀ u ∈ v.cells.toList, u.oneCell' = true := by
  have single : a.one = true → AV.isL G w [a] v.cells.toList ∧ ∀ u ∈ v.cells.toList, u.oneCell' = true := fun h1 => by
    have o := AV.one_is h1 hv
    have e : v.cells.toList = [v] := by cases v <;> first | rfl | simp [Value.oneCell'] at o
    rw [e]
    exact ⟨by simp only [AV.isL]; exact ⟨v, [], rfl, hv, rfl⟩, fun u hu => by simp at hu; subst hu; exact o⟩
  cases a
  case agg l =>
    simp only [AV.is] at hv
    obtain ⟨b, rfl, hl⟩ := hv
    refine ⟨hl, fun u hu => ?_⟩
    simp only [AV.known, List.all_eq_true] at h
    obtain ⟨i, hi⟩ := List.mem_iff_getElem?.1 hu
    have hlt : i < l.length := by
      have := isL_len hl
      rcases Nat.lt_or_ge i b.toList.length with q | q
      · simpa [← this] using q
      · rw [show (Value.agg b).cells.toList = b.toList from rfl, List.getElem?_eq_none q] at hi; cases hi
    obtain ⟨u', e, k⟩ := isL_get hl i l[i] (List.getElem?_eq_getElem hlt)
    rw [show (Value.agg b).cells.toList = b.toList from rfl] at hi
    rw [hi] at e; cases e
    exact AV.one_is (h _ (List.getElem_mem hlt)) k
  all_goals exact single h

/-! ### memory -/
structure Blk where
  elem : TypeId
  cells : List AV
  own : Bool
  deriving Inhabited

structure HRep (G : Gh) (B : Nat) (h : List Blk) (w : World) : Prop where
  len : h.length = G.n
  blk : ∀ i b, h[i]? = some b → (∃ c : Array Value, w.heap[G.at_ i]? = some (.cells c b.elem (0, 0)) ∧ AV.isL G w b.cells c.toList) ∧ (b.own = true → B ≤ G.at_ i ∧ ∀ o, ¬ G.imm (G.at_ i) o)
  inj : ∀ i j, i < G.n → j < G.n → G.at_ i = G.at_ j → i = j
  imm : ∀ b o, G.imm b o → b < w.heap.size

theorem HRep.lt {G : Gh} {B : Nat} {h : List Blk} {w : World} (H : HRep G B h w) {i : Nat} (hi : i < G.n) : G.at_ i < w.heap.size := by
  have hl : i < h.length := by rw [H.len]; exact hi
  obtain ⟨⟨c, e, _⟩, _⟩ := H.blk i h[i] (List.getElem?_eq_getElem hl)
  rcases Nat.lt_or_ge (G.at_ i) w.heap.size with q | q
  · exact q
  · rw [Array.getElem?_eq_none q] at e; cases e

/-- Another call made memory, and perhaps more that is written no more. -/
theorem HRep.after {G G' : Gh} {B : Nat} {h : List Blk} {w w' : World} (H : HRep G B h w) (hb : Below w.heap.size w w') (hn : G'.n = G.n) (ha : G'.at_ = G.at_)
    (hi : ∀ b o, G.imm b o → G'.imm b o) (hold : ∀ b o, b < w.heap.size → G'.imm b o → G.imm b o) (hnew : ∀ b o, G'.imm b o → b < w'.heap.size) : HRep G' B h w' ∧ G.le w G' w' := by
  have hle : G.le w G' w' := ⟨by omega, fun i _ => by rw [ha], hi, fun b o q => by
    have := hb.cell (p := ⟨b, o, none⟩) (H.imm b o q)
    exact this⟩
  refine ⟨⟨by rw [hn]; exact H.len, fun i b hib => ?_, ?_, hnew⟩, hle⟩
  · have hl : i < G.n := by rw [← H.len]; exact (List.getElem?_eq_some_iff.1 hib).1
    obtain ⟨⟨c, e, k⟩, o⟩ := H.blk i b hib
    rw [ha]
    exact ⟨⟨c, by rw [hb.block _ (H.lt hl)]; exact e, AV.isL_mono hle _ _ k⟩, fun ho => ⟨(o ho).1, fun x q => (o ho).2 x (hold _ _ (H.lt hl) q)⟩⟩
  · rw [hn, ha]; exact H.inj

theorem HRep.below {G : Gh} {B : Nat} {h : List Blk} {w w' : World} (H : HRep G B h w) (hb : Below w.heap.size w w') : HRep G B h w' ∧ G.le w G w' :=
  H.after hb rfl rfl (fun _ _ q => q) (fun _ _ _ q => q) (fun b o q => Nat.lt_of_lt_of_le (H.imm b o q) hb.size)

def Gh.push (G : Gh) (b : Nat) : Gh := ⟨fun i => if i = G.n then b else G.at_ i, G.n + 1, G.imm⟩
theorem Gh.le_push {G : Gh} {B : Nat} {h : List Blk} {w : World} (H : HRep G B h w) (b : Nat) (o : Obj) : G.le w (G.push b) (w.alloc o) :=
  ⟨Nat.le_succ _, fun i hi => by simp [Gh.push, Nat.ne_of_lt hi], fun _ _ q => q, fun b' o' q => World.cell?_alloc_lt _ _ _ (H.imm _ _ q)⟩

theorem HRep.alloc {G : Gh} {B : Nat} {h : List Blk} {w : World} (H : HRep G B h w) (hB : B ≤ w.heap.size) {t : TypeId} {l : List AV} {c : Array Value} (hl : AV.isL G w l c.toList) :
    HRep (G.push w.heap.size) B (h ++ [⟨t, l, true⟩]) (w.alloc (.cells c t)) := by
  have hle := Gh.le_push H w.heap.size (.cells c t)
  refine ⟨by simp [Gh.push, H.len], fun i b hi => ?_, fun i j hi hj e => ?_, fun b o q => by have := H.imm b o q; simp; omega⟩
  · rw [List.getElem?_append] at hi
    by_cases q : i < h.length
    · rw [if_pos q] at hi
      have hn : i < G.n := by rw [← H.len]; exact q
      obtain ⟨⟨c', e, k⟩, o⟩ := H.blk i b hi
      have ea : (G.push w.heap.size).at_ i = G.at_ i := hle.at_ i hn
      rw [ea]
      refine ⟨⟨c', ?_, AV.isL_mono hle _ _ k⟩, o⟩
      rw [Below.heap_alloc _ _ _ (H.lt hn)]; exact e
    · rw [if_neg q] at hi
      have e0 : i = h.length := by
        rcases Nat.lt_or_ge (i - h.length) 1 with z | z
        · omega
        · rw [List.getElem?_eq_none (by simpa using z)] at hi; cases hi
      subst e0
      simp at hi; subst hi
      have ea : (G.push w.heap.size).at_ h.length = w.heap.size := by simp [Gh.push, H.len]
      rw [ea]
      refine ⟨⟨c, ?_, AV.isL_mono hle _ _ hl⟩, fun _ => ⟨hB, fun o q => ?_⟩⟩
      · show (w.heap.push _)[w.heap.size]? = _
        simp
      · have := H.imm _ _ q; omega
  · have key : ∀ i, ((G.push w.heap.size).at_ i = if i = G.n then w.heap.size else G.at_ i) := fun i => rfl
    rw [key i, key j] at e
    simp only [Gh.push] at hi hj
    by_cases qi : i = G.n <;> by_cases qj : j = G.n
    · omega
    · rw [if_pos qi, if_neg qj] at e
      have := H.lt (i := j) (by omega)
      omega
    · rw [if_neg qi, if_pos qj] at e
      have := H.lt (i := i) (by omega)
      omega
    · rw [if_neg qi, if_neg qj] at e
      exact H.inj i j (by omega) (by omega) e

/-- Cells of one of the call's own blocks are written. -/
theorem HRep.store {G : Gh} {B : Nat} {h : List Blk} {w : World} (H : HRep G B h w) {i : Nat} {b : Blk} (hi : h[i]? = some b) (ho : b.own = true) {l : List AV} {c : Array Value}
    (hl : AV.isL G w l c.toList) : HRep G B (h.set i ⟨b.elem, l, true⟩) (w.setRow (G.at_ i) c) ∧ G.le w G (w.setRow (G.at_ i) c) := by
  have hlt : i < h.length := (List.getElem?_eq_some_iff.1 hi).1
  obtain ⟨⟨c0, e0, k0⟩, o0⟩ := H.blk i b hi
  have hrow := setRow_heap w (G.at_ i) c0 c b.elem (0, 0) e0
  have hother : ∀ k, k ≠ G.at_ i → (w.setRow (G.at_ i) c).heap[k]? = w.heap[k]? := fun k hk => by
    simp only [World.setRow, Array.getElem?_modify]
    rw [if_neg (by omega)]
  have hle : G.le w G (w.setRow (G.at_ i) c) := ⟨Nat.le_refl _, fun _ _ => rfl, fun _ _ q => q, fun b' o' q => by
    have hne : b' ≠ G.at_ i := fun e => (o0 ho).2 o' (e ▸ q)
    exact World.cell?_of_block (hother b' hne)⟩
  refine ⟨⟨by simpa using H.len, fun j b' hj => ?_, H.inj, fun b' o' q => by simpa [World.setRow] using H.imm b' o' q⟩, hle⟩
  rw [List.getElem?_set] at hj
  by_cases q : i = j
  · subst q
    rw [if_pos rfl, if_pos hlt] at hj
    cases hj
    exact ⟨⟨c, hrow, AV.isL_mono hle _ _ hl⟩, fun _ => o0 ho⟩
  · rw [if_neg q] at hj
    obtain ⟨⟨c', e, k⟩, o⟩ := H.blk j b' hj
    have hjn : j < G.n := by rw [← H.len]; exact (List.getElem?_eq_some_iff.1 hj).1
    have hne : G.at_ j ≠ G.at_ i := fun e => q (H.inj i j (by rw [← H.len]; exact hlt) hjn e.symm)
    exact ⟨⟨c', by rw [hother _ hne]; exact e, AV.isL_mono hle _ _ k⟩, o⟩

end Go.Proofs.Rx
