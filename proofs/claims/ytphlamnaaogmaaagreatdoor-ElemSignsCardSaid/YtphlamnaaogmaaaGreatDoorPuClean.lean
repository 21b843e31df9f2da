namespace Go.Proofs.El
set_option linter.unusedVariables false

abbrev Bs := List UInt8

inductive El where
  | mk (name : Bs) (attrs : List (Bs × Bs)) (text : Bs) (kids : List El)
  deriving Inhabited
def El.name : El → Bs | .mk n _ _ _ => n
def El.attrs : El → List (Bs × Bs) | .mk _ a _ _ => a
def El.text : El → Bs | .mk _ _ t _ => t
def El.kids : El → List El | .mk _ _ _ k => k
def El.none : El := .mk [] [] [] []

def part0 (c : UInt8) : Bool := (65 ≤ c && c ≤ 90) || (97 ≤ c && c ≤ 122) || c == 95
def part (c : UInt8) : Bool := part0 c || (48 ≤ c && c ≤ 57) || c == 45 || c == 46 || c == 58
def name : Bs → Bool
  | [] => false
  | c :: l => part0 c && l.all part && decide (l.length < 60)
def blank (c : UInt8) : Bool := c == 9 || c == 10 || c == 13 || c == 32

def lead (c : UInt8) : Option (Nat × UInt8 × UInt8) :=
  if 194 ≤ c && c ≤ 223 then some (0, 128, 191)
  else if c == 224 then some (1, 160, 191)
  else if c == 237 then some (1, 128, 159)
  else if 225 ≤ c && c ≤ 239 then some (1, 128, 191)
  else if c == 240 then some (2, 144, 191)
  else if c == 244 then some (2, 128, 143)
  else if 241 ≤ c && c ≤ 243 then some (2, 128, 191)
  else none
def textS : Option (Nat × UInt8 × UInt8) → Bs → Bool
  | .none, [] => true
  | .some _, [] => false
  | .none, c :: l => if c < 128 then (decide (32 ≤ c) || blank c) && textS .none l else match lead c with
    | .some s => textS (.some s) l
    | .none => false
  | .some (k, lo, hi), c :: l => decide (lo ≤ c) && decide (c ≤ hi) && (match k with
    | 0 => textS .none l
    | k + 1 => textS (.some (k, 128, 191)) l)
def text (l : Bs) : Bool := textS .none l

def attrsOk : List (Bs × Bs) → Bool
  | [] => true
  | a :: l => name a.1 && text a.2 && l.all (fun b => !(b.1 == a.1)) && attrsOk l

mutual
def El.right (d : Nat) : El → Bool
  | .mk n a t k => decide (0 < d) && name n && attrsOk a && text t && (t.isEmpty || k.isEmpty) && rights (d - 1) k
def rights (d : Nat) : List El → Bool
  | [] => true
  | e :: l => e.right d && rights d l
end
def esc1 (c : UInt8) : Bs :=
  if c == 38 then [38, 97, 109, 112, 59] else if c == 60 then [38, 108, 116, 59] else if c == 62 then [38, 103, 116, 59] else if c == 34 then [38, 113, 117, 111, 116, 59] else [c]
def esc (l : Bs) : Bs := l.flatMap esc1
def layA (a : Bs × Bs) : Bs := 32 :: a.1 ++ [61, 34] ++ esc a.2 ++ [34]
mutual
def El.lay : El → Bs
  | .mk n a t k => 60 :: n ++ a.flatMap layA ++ (if t.isEmpty && k.isEmpty then [47, 62] else 62 :: esc t ++ lays k ++ [60, 47] ++ n ++ [62])
def lays : List El → Bs
  | [] => []
  | e :: l => e.lay ++ lays l
end
def head : Bs := [60, 63, 120, 109, 108, 32, 118, 101, 114, 115, 105, 111, 110, 61, 34, 49, 46, 48, 34, 32, 101, 110, 99, 111, 100, 105, 110, 103, 61, 34, 85, 84, 70, 45, 56, 34, 63, 62, 10]
def print (e : El) : Option Bs := if e.right 40 then some (head ++ e.lay ++ [10]) else .none

def starts (sg l : Bs) : Option Bs := if sg.isPrefixOf l then some (l.drop sg.length) else .none
def find (sg : Bs) : Bs → Option Bs
  | [] => .none
  | c :: l => if sg.isPrefixOf (c :: l) then some ((c :: l).drop sg.length) else find sg l
def blanks (l : Bs) : Bs := l.dropWhile blank
def rdName (l : Bs) : Option (Bs × Bs) := if name (l.takeWhile part) then some (l.takeWhile part, l.dropWhile part) else .none

def digit (c : UInt8) : Nat := if 48 ≤ c && c ≤ 57 then c.toNat - 48 else if 97 ≤ c && c ≤ 102 then c.toNat - 87 else if 65 ≤ c && c ≤ 70 then c.toNat - 55 else 16
def number (base : Nat) : Nat → Bs → Option Nat
  | n, [] => some n
  | n, c :: l => if digit c < base then number base (base * n + digit c) l else .none
def digits (l : Bs) (base most : Nat) : Option Nat := if l.isEmpty || decide (most < l.length) then .none else number base 0 l
def sign (n : Nat) : Option Bs :=
  if n > 1114111 || (55296 ≤ n && n ≤ 57343) || (n < 32 && !(n == 9) && !(n == 10) && !(n == 13)) then .none
  else if n < 128 then some [UInt8.ofNat n]
  else if n < 2048 then some [UInt8.ofNat (192 + n / 64), UInt8.ofNat (128 + n % 64)]
  else if n < 65536 then some [UInt8.ofNat (224 + n / 4096), UInt8.ofNat (128 + n / 64 % 64), UInt8.ofNat (128 + n % 64)]
  else some [UInt8.ofNat (240 + n / 262144), UInt8.ofNat (128 + n / 4096 % 64), UInt8.ofNat (128 + n / 64 % 64), UInt8.ofNat (128 + n % 64)]
def entNum : Bs → Option Bs
  | 35 :: 120 :: l => (digits l 16 6).bind sign
  | 35 :: l => (digits l 10 7).bind sign
  | _ => .none
def entity (l : Bs) : Option Bs :=
  if l == [97, 109, 112] then some [38] else if l == [108, 116] then some [60] else if l == [103, 116] then some [62] else if l == [113, 117, 111, 116] then some [34] else if l == [97, 112, 111, 115] then some [39]
  else entNum l
def meantS : Option Bs → Bs → Option Bs
  | .none, [] => some []
  | .some _, [] => .none
  | .none, c :: l => if c == 38 then meantS (.some []) l else (meantS .none l).map (c :: ·)
  | .some x, c :: l => if c == 59 then (entity x.reverse).bind fun t => (meantS .none l).map (t ++ ·) else meantS (.some (c :: x)) l
def meant (l : Bs) : Option Bs := (meantS .none l).bind fun t => if text t then some t else .none

def rdAttr (l : Bs) : Option ((Bs × Bs) × Bs) :=
  (rdName l).bind fun x => match blanks x.2 with
    | 61 :: l => match blanks l with
      | q :: l => if q == 34 || q == 39 then match l.dropWhile (fun c => !(c == q) && !(c == 60)) with
          | c :: r => if c == q then (meant (l.takeWhile fun c => !(c == q) && !(c == 60))).map fun v => ((x.1, v), r) else .none
          | [] => .none
        else .none
      | [] => .none
    | _ => .none
def rdAttrs : Nat → List (Bs × Bs) → Bs → Option (List (Bs × Bs) × Bool × Bs)
  | 0, _, _ => .none
  | k + 1, acc, l => match starts [47, 62] (blanks l) with
    | some r => if attrsOk acc then some (acc, false, r) else .none
    | .none => match starts [62] (blanks l) with
      | some r => if attrsOk acc then some (acc, true, r) else .none
      | .none => if (blanks l).length = l.length then .none else (rdAttr (blanks l)).bind fun x => rdAttrs k (acc ++ [x.1]) x.2
def rdBegin (l : Bs) : Option (El × Bool × Bs) := (rdName l).bind fun x => (rdAttrs (x.2.length + 1) [] x.2).map fun y => (.mk x.1 y.1 [] [], y.2)

structure St where
  st : List El
  root : Option El
  deriving Inhabited
def put : List El → El → St
  | [], e => ⟨[], some e⟩
  | .mk n a t k :: s, e => ⟨.mk n a t (k ++ [e]) :: s, .none⟩
def element (x : St) (l : Bs) : Option (St × Bs) :=
  if x.root.isSome || decide (40 ≤ x.st.length) then .none else (rdBegin l).bind fun y => match x.st with
    | .mk n a t k :: s => if t.all blank then some (if y.2.1 then ⟨y.1 :: .mk n a [] k :: s, .none⟩ else put (.mk n a [] k :: s) y.1, y.2.2) else .none
    | [] => some (if y.2.1 then ⟨[y.1], .none⟩ else put [] y.1, y.2.2)
def ending (x : St) (l : Bs) : Option (St × Bs) :=
  (rdName l).bind fun y => match x.st with
    | [] => .none
    | e :: s => if e.name == y.1 then (starts [62] (blanks y.2)).map fun r => (put s e, r) else .none
def texts (x : St) (s : Bs) : Option St :=
  (meant s).bind fun t => match x.st with
    | .mk n a u [] :: r => some ⟨.mk n a (u ++ t) [] :: r, x.root⟩
    | _ => if t.all blank then some x else .none
def piece (x : St) (l : Bs) : Option (St × Bs) :=
  match starts [60, 33, 45, 45] l with
  | some r => (find [45, 45, 62] r).map fun r => (x, r)
  | .none => match starts [60, 63] l with
    | some r => (find [63, 62] r).map fun r => (x, r)
    | .none => match starts [60, 33, 68, 79, 67, 84, 89, 80, 69] l with
      | some r => if x.st.isEmpty && x.root.isNone then (find [62] r).map fun r => (x, r) else .none
      | .none => match starts [60, 47] l with
        | some r => ending x r
        | .none => match starts [60] l with
          | some r => element x r
          | .none => (texts x (l.takeWhile fun c => !(c == 60))).map fun y => (y, l.dropWhile fun c => !(c == 60))
def parseN : Nat → St → Bs → Except Bs El
  | _, x, [] => match x.root with
    | some e => .ok e
    | .none => .error []
  | 0, _, l => .error l
  | k + 1, x, c :: l => match piece x (c :: l) with
    | .none => .error (c :: l)
    | some (y, r) => parseN k y r
def parse (x : St) (l : Bs) : Except Bs El := parseN l.length x l
def St.new : St := ⟨[], .none⟩

end Go.Proofs.El

namespace Go.Proofs.El
set_option linter.unusedVariables false
set_option linter.unusedSimpArgs false

theorem starts_some {sg l r : Bs} (h : starts sg l = some r) : l = sg ++ r := by
  unfold starts at h
  split at h
  · rename_i hp
    cases h
    obtain ⟨t, rfl⟩ := List.isPrefixOf_iff_prefix.1 hp
    simp
  · cases h
theorem starts_app (sg r : Bs) : starts sg (sg ++ r) = some r := by
  unfold starts
  rw [if_pos (List.isPrefixOf_iff_prefix.2 ⟨r, rfl⟩)]
  simp
theorem find_some {sg : Bs} (hs : sg ≠ []) : ∀ {l r : Bs}, find sg l = some r → ∃ p, l = p ++ sg ++ r
  | [], r, h => by simp [find] at h
  | c :: l, r, h => by
    unfold find at h
    split at h
    · rename_i hp
      cases h
      obtain ⟨t, ht⟩ := List.isPrefixOf_iff_prefix.1 hp
      exact ⟨[], by rw [← ht]; simp⟩
    · obtain ⟨p, rfl⟩ := find_some hs h
      exact ⟨c :: p, by simp⟩
theorem blanks_le (l : Bs) : (blanks l).length ≤ l.length := by unfold blanks; exact (List.dropWhile_suffix _).length_le
theorem rdName_some {l n r : Bs} (h : rdName l = some (n, r)) : l = n ++ r ∧ name n = true := by
  unfold rdName at h
  split at h
  · cases h; rename_i hn; exact ⟨(List.takeWhile_append_dropWhile).symm, hn⟩
  · cases h
theorem rdAttr_lt {l : Bs} {a : Bs × Bs} {r : Bs} (h : rdAttr l = some (a, r)) : r.length < l.length := by
  unfold rdAttr at h
  rw [Option.bind_eq_some_iff] at h
  obtain ⟨⟨n, l1⟩, h1, h⟩ := h
  obtain ⟨rfl, hn⟩ := rdName_some h1
  have b1 := blanks_le l1
  dsimp only at h
  split at h
  · rename_i l2 e2
    rw [e2] at b1
    have b2 := blanks_le l2
    split at h
    · rename_i q l3 e3
      rw [e3] at b2
      split at h
      · split at h
        · rename_i c r' e4
          have b4 := (List.dropWhile_suffix (fun c => !(c == q) && !(c == 60)) (l := l3)).length_le
          rw [e4] at b4
          split at h
          · rw [Option.map_eq_some_iff] at h
            obtain ⟨v, _, e⟩ := h
            cases e
            simp at b1 b2 b4 ⊢
            omega
          · cases h
        · cases h
      · cases h
    · cases h
  · cases h
theorem rdAttrs_lt : ∀ (k : Nat) (acc : List (Bs × Bs)) (l : Bs) {y : List (Bs × Bs) × Bool × Bs}, rdAttrs k acc l = some y → y.2.2.length < l.length
  | 0, acc, l, y, h => by simp [rdAttrs] at h
  | k + 1, acc, l, y, h => by
    have b := blanks_le l
    unfold rdAttrs at h
    split at h
    · rename_i r e
      have := starts_some e
      split at h
      · cases h; rw [this] at b; simp at b ⊢; omega
      · cases h
    · split at h
      · rename_i r e
        have := starts_some e
        split at h
        · cases h; rw [this] at b; simp at b ⊢; omega
        · cases h
      · split at h
        · cases h
        · rw [Option.bind_eq_some_iff] at h
          obtain ⟨⟨a, r⟩, h1, h2⟩ := h
          have h4 := rdAttr_lt h1
          have h3 := rdAttrs_lt k _ _ h2
          dsimp only at h3 h4
          omega
theorem rdBegin_lt {l : Bs} {y : El × Bool × Bs} (h : rdBegin l = some y) : y.2.2.length < l.length := by
  unfold rdBegin at h
  rw [Option.bind_eq_some_iff] at h
  obtain ⟨⟨n, r⟩, h1, h⟩ := h
  rw [Option.map_eq_some_iff] at h
  obtain ⟨z, h2, rfl⟩ := h
  have := rdAttrs_lt _ _ _ h2
  obtain ⟨rfl, _⟩ := rdName_some h1
  simp at this ⊢
  omega
theorem element_lt {x y : St} {l r : Bs} (h : element x l = some (y, r)) : r.length < l.length := by
  unfold element at h
  split at h
  · cases h
  · rw [Option.bind_eq_some_iff] at h
    obtain ⟨z, h1, h⟩ := h
    have := rdBegin_lt h1
    split at h
    · split at h
      · cases h; exact this
      · cases h
    · cases h; exact this
theorem ending_lt {x y : St} {l r : Bs} (h : ending x l = some (y, r)) : r.length < l.length := by
  unfold ending at h
  rw [Option.bind_eq_some_iff] at h
  obtain ⟨⟨n, l1⟩, h1, h⟩ := h
  obtain ⟨rfl, hn⟩ := rdName_some h1
  dsimp only at h
  split at h
  · cases h
  · split at h
    · rw [Option.map_eq_some_iff] at h
      obtain ⟨r', h2, e⟩ := h
      cases e
      have b := blanks_le l1
      have := starts_some h2
      rw [this] at b
      simp at b ⊢
      omega
    · cases h
theorem piece_lt {x y : St} {l r : Bs} (hl : l ≠ []) (h : piece x l = some (y, r)) : r.length < l.length := by
  unfold piece at h
  split at h
  · rename_i r1 e
    rw [Option.map_eq_some_iff] at h
    obtain ⟨r2, h2, e2⟩ := h
    cases e2
    obtain ⟨p, h3⟩ := find_some (by simp) h2
    have := starts_some e
    subst h3 this
    simp; omega
  · split at h
    · rename_i r1 e
      rw [Option.map_eq_some_iff] at h
      obtain ⟨r2, h2, e2⟩ := h
      cases e2
      obtain ⟨p, h3⟩ := find_some (by simp) h2
      have := starts_some e
      subst h3 this
      simp; omega
    · split at h
      · rename_i r1 e
        split at h
        · rw [Option.map_eq_some_iff] at h
          obtain ⟨r2, h2, e2⟩ := h
          cases e2
          obtain ⟨p, h3⟩ := find_some (by simp) h2
          have := starts_some e
          subst h3 this
          simp; omega
        · cases h
      · split at h
        · rename_i r1 e
          have := starts_some e
          have h2 := ending_lt h
          subst this
          simp; omega
        · split at h
          · rename_i r1 e
            have := starts_some e
            have h2 := element_lt h
            subst this
            simp; omega
          · rename_i hn
            rw [Option.map_eq_some_iff] at h
            obtain ⟨z, h2, e2⟩ := h
            cases e2
            cases l with
            | nil => exact absurd rfl hl
            | cons c l =>
              have hc : c ≠ 60 := fun e => by subst e; simp [starts, List.isPrefixOf] at hn
              rw [List.dropWhile_cons_of_pos (by simpa using hc)]
              have := (List.dropWhile_suffix (fun c => !(c == 60)) (l := l)).length_le
              simp; omega

theorem parseN_eq : ∀ (n k : Nat) (x : St) (l : Bs), l.length ≤ n → l.length ≤ k → parseN n x l = parseN k x l := by
  intro n
  induction n with
  | zero =>
    intro k x l hn hk
    have : l = [] := List.eq_nil_of_length_eq_zero (by omega)
    subst this
    cases k <;> simp [parseN]
  | succ n ih =>
    intro k x l hn hk
    cases l with
    | nil => cases k <;> simp [parseN]
    | cons c l =>
      cases k with
      | zero => simp at hk
      | succ k =>
        simp only [parseN]
        cases hp : piece x (c :: l) with
        | none => rfl
        | some z =>
          obtain ⟨y, r⟩ := z
          have := piece_lt (by simp) hp
          simp at this hn hk
          exact ih k y r (by omega) (by omega)
theorem parse_piece {x y : St} {l r : Bs} (hl : l ≠ []) (h : piece x l = some (y, r)) : parse x l = parse y r := by
  have := piece_lt hl h
  cases l with
  | nil => exact absurd rfl hl
  | cons c l =>
    unfold parse
    simp only [List.length_cons, parseN, h]
    exact parseN_eq _ _ _ _ (by simp at this; omega) (Nat.le_refl _)
theorem parse_none {x : St} {l : Bs} (hl : l ≠ []) (h : piece x l = none) : parse x l = .error l := by
  cases l with
  | nil => exact absurd rfl hl
  | cons c l => unfold parse; simp only [List.length_cons, parseN, h]
end Go.Proofs.El

namespace Go.Proofs.El
set_option linter.unusedVariables false
set_option linter.unusedSimpArgs false

theorem span_app {p : UInt8 → Bool} : ∀ {a : Bs}, (∀ c ∈ a, p c = true) → ∀ {r : Bs}, (∀ c, r.head? = some c → p c = false) → (a ++ r).takeWhile p = a ∧ (a ++ r).dropWhile p = r
  | [], _, r, hr => by
    cases r with
    | nil => simp
    | cons c r => have := hr c rfl; simp [this]
  | b :: a, ha, r, hr => by
    have hb := ha b (by simp)
    obtain ⟨h1, h2⟩ := span_app (a := a) (r := r) (fun c hc => ha c (List.mem_cons_of_mem _ hc)) hr
    simp [hb, h1, h2]

theorem part_of0 {c : UInt8} (h : part0 c = true) : part c = true := by simp [part, h]
theorem name_part {n : Bs} (h : name n = true) : ∀ c ∈ n, part c = true := by
  cases n with
  | nil => simp [name] at h
  | cons c l =>
    simp only [name, Bool.and_eq_true, List.all_eq_true] at h
    intro d hd
    rcases List.mem_cons.1 hd with rfl | hd
    · exact part_of0 h.1.1
    · exact h.1.2 d hd
theorem rdName_app {n r : Bs} (hn : name n = true) (hr : ∀ c, r.head? = some c → part c = false) : rdName (n ++ r) = some (n, r) := by
  obtain ⟨h1, h2⟩ := span_app (name_part hn) hr
  unfold rdName
  rw [h1, h2, if_pos hn]

theorem meantS_esc : ∀ (v l : Bs), meantS none (esc v ++ l) = (meantS none l).map (v ++ ·)
  | [], l => by simp [esc]
  | c :: v, l => by
    have ih := meantS_esc v l
    have e : esc (c :: v) ++ l = esc1 c ++ (esc v ++ l) := by simp [esc]
    rw [e]
    unfold esc1
    split
    · rename_i h
      simp only [beq_iff_eq] at h
      subst h
      simp [meantS, entity, ih, Option.map_map, Function.comp_def]
    · split
      · rename_i h
        simp only [beq_iff_eq] at h
        subst h
        simp [meantS, entity, ih, Option.map_map, Function.comp_def]
      · split
        · rename_i h
          simp only [beq_iff_eq] at h
          subst h
          simp [meantS, entity, ih, Option.map_map, Function.comp_def]
        · split
          · rename_i h
            simp only [beq_iff_eq] at h
            subst h
            simp [meantS, entity, ih, Option.map_map, Function.comp_def]
          · rename_i h _ _ _
            simp [meantS, h, ih, Option.map_map, Function.comp_def]
theorem meant_esc {v : Bs} (h : text v = true) : meant (esc v) = some v := by
  have := meantS_esc v []
  simp only [List.append_nil] at this
  unfold meant
  rw [this]
  simp [meantS, h]
theorem esc_free : ∀ (v : Bs), ∀ c ∈ esc v, (c == 60) = false ∧ (c == 34) = false ∧ (c == 62) = false := by
  intro v c hc
  simp only [esc, List.mem_flatMap] at hc
  obtain ⟨d, _, hd⟩ := hc
  unfold esc1 at hd
  split at hd
  · simp at hd; rcases hd with rfl | rfl | rfl | rfl | rfl <;> decide
  · split at hd
    · simp at hd; rcases hd with rfl | rfl | rfl | rfl <;> decide
    · split at hd
      · simp at hd; rcases hd with rfl | rfl | rfl | rfl <;> decide
      · split at hd
        · simp at hd; rcases hd with rfl | rfl | rfl | rfl | rfl | rfl <;> decide
        · rename_i h1 h2 h3 h4
          simp at hd h1 h2 h3 h4
          subst hd
          simp [h1, h2, h3, h4]
theorem rdAttr_lay {n v r : Bs} (hn : name n = true) (hv : text v = true) : rdAttr (n ++ [61, 34] ++ esc v ++ [34] ++ r) = some ((n, v), r) := by
  unfold rdAttr
  have e : n ++ [61, 34] ++ esc v ++ [34] ++ r = n ++ (61 :: 34 :: (esc v ++ (34 :: r))) := by simp
  rw [e, rdName_app hn (by intro c hc; cases hc; decide)]
  have b1 : blanks (61 :: 34 :: (esc v ++ (34 :: r))) = 61 :: 34 :: (esc v ++ (34 :: r)) := by simp [blanks, blank]
  have b2 : blanks (34 :: (esc v ++ (34 :: r))) = 34 :: (esc v ++ (34 :: r)) := by simp [blanks, blank]
  obtain ⟨s1, s2⟩ := span_app (p := fun c => !(c == 34) && !(c == 60)) (a := esc v) (r := 34 :: r) (fun c hc => by have := esc_free v c hc; simp only [this.1, this.2.1]; rfl) (by intro c hc; cases hc; rfl)
  simp only [Option.bind_some, b1, b2, s1, s2, meant_esc hv, Option.map_some]
  rfl
theorem part0_not {c : UInt8} (h : part0 c = true) : blank c = false ∧ c ≠ 47 ∧ c ≠ 62 ∧ c ≠ 33 ∧ c ≠ 63 ∧ c ≠ 60 := by
  refine ⟨?_, ?_, ?_, ?_, ?_, ?_⟩
  · cases hb : blank c with
    | false => rfl
    | true =>
      simp only [blank, Bool.or_eq_true, beq_iff_eq] at hb
      rcases hb with ((rfl | rfl) | rfl) | rfl <;> exact absurd h (by decide)
  all_goals (rintro rfl; exact absurd h (by decide))
theorem blanks_cons {c : UInt8} {l : Bs} (h : blank c = false) : blanks (c :: l) = c :: l := by simp [blanks, h]
theorem blanks_sp {c : UInt8} {l : Bs} (h : blank c = true) : blanks (c :: l) = blanks l := by simp [blanks, h]
theorem starts_no {s c : UInt8} {sg l : Bs} (h : c ≠ s) : starts (s :: sg) (c :: l) = none := by
  unfold starts
  rw [if_neg]
  simp [List.isPrefixOf, Ne.symm h]

theorem rdAttrs_lay {e : Bs} {b : Bool} {r : Bs} (he : (e = [47, 62] ++ r ∧ b = false) ∨ (e = [62] ++ r ∧ b = true)) : ∀ (a acc : List (Bs × Bs)) (k : Nat), a.length < k → attrsOk (acc ++ a) = true → (∀ x ∈ a, name x.1 = true ∧ text x.2 = true) →
    rdAttrs k acc (a.flatMap layA ++ e) = some (acc ++ a, b, r)
  | [], acc, 0, hk, _, _ => by simp at hk
  | [], acc, k + 1, hk, hok, _ => by
    simp only [List.append_nil] at hok
    rcases he with ⟨rfl, rfl⟩ | ⟨rfl, rfl⟩
    · have : blanks (47 :: 62 :: r) = 47 :: 62 :: r := blanks_cons (by decide)
      simp only [List.flatMap_nil, List.nil_append, rdAttrs, List.cons_append, this, List.append_nil, hok, if_true]
      rw [show starts [47, 62] (47 :: 62 :: r) = some r from starts_app [47, 62] r]
    · have : blanks (62 :: r) = 62 :: r := blanks_cons (by decide)
      simp only [List.flatMap_nil, List.nil_append, rdAttrs, List.cons_append, this, List.append_nil, hok, if_true]
      rw [starts_no (by decide), show starts [62] (62 :: r) = some r from starts_app [62] r]
  | x :: a, acc, 0, hk, _, _ => by simp at hk
  | x :: a, acc, k + 1, hk, hok, hall => by
    obtain ⟨n, v⟩ := x
    obtain ⟨hn, hv⟩ := hall (n, v) (by simp)
    have ih := rdAttrs_lay he a (acc ++ [(n, v)]) k (by simpa using hk) (by simpa using hok) fun y hy => hall y (by simp [hy])
    simp only [List.append_assoc, List.singleton_append] at ih
    cases n with
    | nil => simp [name] at hn
    | cons c n =>
      have h0 : part0 c = true := by simp only [name, Bool.and_eq_true] at hn; exact hn.1.1
      obtain ⟨p1, p2, p3, _⟩ := part0_not h0
      have e1 : (((c :: n, v) :: a).flatMap layA ++ e) = 32 :: ((c :: n) ++ [61, 34] ++ esc v ++ [34] ++ (a.flatMap layA ++ e)) := by simp [layA]
      have e2 : blanks (32 :: ((c :: n) ++ [61, 34] ++ esc v ++ [34] ++ (a.flatMap layA ++ e))) = (c :: n) ++ [61, 34] ++ esc v ++ [34] ++ (a.flatMap layA ++ e) := by
        rw [blanks_sp (by decide)]; exact blanks_cons p1
      rw [e1]
      unfold rdAttrs
      rw [e2, rdAttr_lay hn hv]
      have e3 : (c :: n) ++ [61, 34] ++ esc v ++ [34] ++ (a.flatMap layA ++ e) = c :: (n ++ [61, 34] ++ esc v ++ [34] ++ (a.flatMap layA ++ e)) := by simp
      rw [e3, starts_no p2, starts_no p3]
      simp only [List.length_cons, Option.bind_some, ih]
      rw [if_neg (by omega)]

theorem attrsOk_mem : ∀ {a : List (Bs × Bs)}, attrsOk a = true → ∀ x ∈ a, name x.1 = true ∧ text x.2 = true
  | [], _, x, hx => by simp at hx
  | y :: a, h, x, hx => by
    simp only [attrsOk, Bool.and_eq_true] at h
    rcases List.mem_cons.1 hx with rfl | hx
    · exact ⟨h.1.1.1, h.1.1.2⟩
    · exact attrsOk_mem h.2 x hx
theorem flat_head {a : List (Bs × Bs)} {e : Bs} (he : ∀ c, e.head? = some c → part c = false) : ∀ c, (a.flatMap layA ++ e).head? = some c → part c = false := by
  cases a with
  | nil => simpa using he
  | cons x a => intro c hc; simp [layA] at hc; subst hc; decide
theorem flat_len (a : List (Bs × Bs)) : a.length ≤ (a.flatMap layA).length := by
  induction a with
  | nil => simp
  | cons x a ih => simp [layA] at ih ⊢; omega
theorem rdBegin_lay {n : Bs} {a : List (Bs × Bs)} {e r : Bs} {b : Bool} (he : (e = [47, 62] ++ r ∧ b = false) ∨ (e = [62] ++ r ∧ b = true)) (hn : name n = true) (ha : attrsOk a = true) : rdBegin (n ++ (a.flatMap layA ++ e)) = some (.mk n a [] [], b, r) := by
  unfold rdBegin
  rw [rdName_app hn (flat_head (by rcases he with ⟨rfl, _⟩ | ⟨rfl, _⟩ <;> (intro c hc; cases hc; decide)))]
  simp only [Option.bind_some]
  rw [rdAttrs_lay he a [] _ (by have := flat_len a; rw [List.length_append]; omega) (by simpa using ha) (attrsOk_mem ha)]
  simp

def bare : List El → List El
  | [] => []
  | .mk n a t k :: s => .mk n a [] k :: s
def topWhite : List El → Bool
  | [] => true
  | .mk n a t k :: s => t.all blank
theorem piece_element {x : St} {c : UInt8} {l : Bs} (h0 : part0 c = true) : piece x (60 :: c :: l) = element x (c :: l) := by
  obtain ⟨_, p2, p3, p4, p5, _⟩ := part0_not h0
  have a1 : starts [60, 33, 45, 45] (60 :: c :: l) = none := by unfold starts; rw [if_neg]; simp [List.isPrefixOf, Ne.symm p4]
  have a2 : starts [60, 63] (60 :: c :: l) = none := by unfold starts; rw [if_neg]; simp [List.isPrefixOf, Ne.symm p5]
  have a3 : starts [60, 33, 68, 79, 67, 84, 89, 80, 69] (60 :: c :: l) = none := by unfold starts; rw [if_neg]; simp [List.isPrefixOf, Ne.symm p4]
  have a4 : starts [60, 47] (60 :: c :: l) = none := by unfold starts; rw [if_neg]; simp [List.isPrefixOf, Ne.symm p2]
  have a5 : starts [60] (60 :: c :: l) = some (c :: l) := starts_app [60] (c :: l)
  unfold piece
  simp only [a1, a2, a3, a4, a5]
theorem piece_ending {x : St} {l : Bs} : piece x (60 :: 47 :: l) = ending x l := by
  have a1 : starts [60, 33, 45, 45] (60 :: 47 :: l) = none := by unfold starts; rw [if_neg]; simp [List.isPrefixOf]
  have a2 : starts [60, 63] (60 :: 47 :: l) = none := by unfold starts; rw [if_neg]; simp [List.isPrefixOf]
  have a3 : starts [60, 33, 68, 79, 67, 84, 89, 80, 69] (60 :: 47 :: l) = none := by unfold starts; rw [if_neg]; simp [List.isPrefixOf]
  have a4 : starts [60, 47] (60 :: 47 :: l) = some l := starts_app [60, 47] l
  unfold piece
  simp only [a1, a2, a3, a4]
theorem piece_text {x : St} {c : UInt8} {l : Bs} (hc : c ≠ 60) : piece x (c :: l) = (texts x ((c :: l).takeWhile fun c => !(c == 60))).map fun y => (y, (c :: l).dropWhile fun c => !(c == 60)) := by
  unfold piece
  simp only [starts_no hc]
theorem element_lay {st : List El} {n : Bs} {a : List (Bs × Bs)} {e r : Bs} {b : Bool} (he : (e = [47, 62] ++ r ∧ b = false) ∨ (e = [62] ++ r ∧ b = true)) (hn : name n = true) (ha : attrsOk a = true) (hs : st.length < 40) (hw : topWhite st = true) :
    piece ⟨st, none⟩ (60 :: (n ++ (a.flatMap layA ++ e))) = some (if b then ⟨.mk n a [] [] :: bare st, none⟩ else put (bare st) (.mk n a [] []), r) := by
  have hb := rdBegin_lay he hn ha
  cases n with
  | nil => simp [name] at hn
  | cons c n =>
    have h0 : part0 c = true := by simp only [name, Bool.and_eq_true] at hn; exact hn.1.1
    have e1 : (60 :: (c :: n ++ (a.flatMap layA ++ e))) = 60 :: c :: (n ++ (a.flatMap layA ++ e)) := by simp
    have e2 : c :: n ++ (a.flatMap layA ++ e) = c :: (n ++ (a.flatMap layA ++ e)) := by simp
    rw [e1, piece_element h0, ← e2]
    unfold element
    rw [hb, if_neg (by simp; omega)]
    cases st with
    | nil => cases b <;> simp [bare]
    | cons p s =>
      obtain ⟨m, aa, t, k⟩ := p
      simp only [topWhite] at hw
      cases b <;> simp [bare, hw]
theorem ending_lay {st : List El} {n : Bs} {a : List (Bs × Bs)} {t : Bs} {k : List El} {r : Bs} (hn : name n = true) : piece ⟨.mk n a t k :: st, none⟩ ([60, 47] ++ n ++ [62] ++ r) = some (put st (.mk n a t k), r) := by
  have e : [60, 47] ++ n ++ [62] ++ r = 60 :: 47 :: (n ++ (62 :: r)) := by simp
  rw [e, piece_ending]
  unfold ending
  rw [rdName_app hn (by intro c hc; cases hc; decide)]
  simp only [Option.bind_some, El.name, beq_self_eq_true, if_true, blanks_cons (show blank 62 = false by decide)]
  rw [show starts [62] (62 :: r) = some r from starts_app [62] r]
  rfl
end Go.Proofs.El

namespace Go.Proofs.El
set_option linter.unusedVariables false
set_option linter.unusedSimpArgs false

theorem blanks_suf (l : Bs) : ∃ p, l = p ++ blanks l := ⟨_, (List.takeWhile_append_dropWhile (p := blank)).symm⟩
theorem rdAttr_suf {l : Bs} {a : Bs × Bs} {r : Bs} (h : rdAttr l = some (a, r)) : ∃ p, l = p ++ r := by
  unfold rdAttr at h
  rw [Option.bind_eq_some_iff] at h
  obtain ⟨⟨n, l1⟩, h1, h⟩ := h
  obtain ⟨rfl, hn⟩ := rdName_some h1
  dsimp only at h
  split at h
  · rename_i l2 e2
    obtain ⟨p1, b1⟩ := blanks_suf l1
    rw [e2] at b1
    split at h
    · rename_i q l3 e3
      obtain ⟨p2, b2⟩ := blanks_suf l2
      rw [e3] at b2
      split at h
      · split at h
        · rename_i c r' e4
          have b4 := (List.takeWhile_append_dropWhile (p := fun c => !(c == q) && !(c == 60)) (l := l3)).symm
          rw [e4] at b4
          split at h
          · rw [Option.map_eq_some_iff] at h
            obtain ⟨v, _, e⟩ := h
            cases e
            rw [b1, b2]
            generalize List.takeWhile (fun c => !(c == q) && !(c == 60)) l3 = z at b4
            subst b4
            exact ⟨n ++ p1 ++ [61] ++ p2 ++ [q] ++ z ++ [c], by simp⟩
          · cases h
        · cases h
      · cases h
    · cases h
  · cases h
theorem rdAttrs_suf : ∀ (k : Nat) (acc : List (Bs × Bs)) (l : Bs) {y : List (Bs × Bs) × Bool × Bs}, rdAttrs k acc l = some y → ∃ p, l = p ++ y.2.2
  | 0, acc, l, y, h => by simp [rdAttrs] at h
  | k + 1, acc, l, y, h => by
    obtain ⟨p, b⟩ := blanks_suf l
    unfold rdAttrs at h
    split at h
    · rename_i r e
      have := starts_some e
      split at h
      · cases h; rw [this] at b; exact ⟨p ++ [47, 62], by rw [b]; simp⟩
      · cases h
    · split at h
      · rename_i r e
        have := starts_some e
        split at h
        · cases h; rw [this] at b; exact ⟨p ++ [62], by rw [b]; simp⟩
        · cases h
      · split at h
        · cases h
        · rw [Option.bind_eq_some_iff] at h
          obtain ⟨⟨a, r⟩, h1, h2⟩ := h
          obtain ⟨p1, h3⟩ := rdAttr_suf h1
          obtain ⟨p2, h4⟩ := rdAttrs_suf k _ _ h2
          dsimp only at h4
          exact ⟨p ++ p1 ++ p2, by rw [b, h3, h4]; simp⟩
theorem rdBegin_suf {l : Bs} {y : El × Bool × Bs} (h : rdBegin l = some y) : ∃ p, l = p ++ y.2.2 := by
  unfold rdBegin at h
  rw [Option.bind_eq_some_iff] at h
  obtain ⟨⟨n, r⟩, h1, h⟩ := h
  rw [Option.map_eq_some_iff] at h
  obtain ⟨z, h2, rfl⟩ := h
  obtain ⟨p, h3⟩ := rdAttrs_suf _ _ _ h2
  obtain ⟨rfl, _⟩ := rdName_some h1
  dsimp only at h3 ⊢
  exact ⟨n ++ p, by rw [h3]; simp⟩
theorem element_suf {x y : St} {l r : Bs} (h : element x l = some (y, r)) : ∃ p, l = p ++ r := by
  unfold element at h
  split at h
  · cases h
  · rw [Option.bind_eq_some_iff] at h
    obtain ⟨z, h1, h⟩ := h
    have := rdBegin_suf h1
    split at h
    · split at h
      · cases h; exact this
      · cases h
    · cases h; exact this
theorem ending_suf {x y : St} {l r : Bs} (h : ending x l = some (y, r)) : ∃ p, l = p ++ r := by
  unfold ending at h
  rw [Option.bind_eq_some_iff] at h
  obtain ⟨⟨n, l1⟩, h1, h⟩ := h
  obtain ⟨rfl, hn⟩ := rdName_some h1
  dsimp only at h
  split at h
  · cases h
  · split at h
    · rw [Option.map_eq_some_iff] at h
      obtain ⟨r', h2, e⟩ := h
      cases e
      obtain ⟨p, b⟩ := blanks_suf l1
      have := starts_some h2
      rw [this] at b
      exact ⟨n ++ p ++ [62], by rw [b]; simp⟩
    · cases h
theorem piece_suffix {x y : St} {l r : Bs} (h : piece x l = some (y, r)) : ∃ p, l = p ++ r := by
  unfold piece at h
  split at h
  · rename_i r1 e
    rw [Option.map_eq_some_iff] at h
    obtain ⟨r2, h2, e2⟩ := h
    cases e2
    obtain ⟨p, h3⟩ := find_some (by simp) h2
    have := starts_some e
    subst h3 this
    exact ⟨[60, 33, 45, 45] ++ p ++ [45, 45, 62], by simp⟩
  · split at h
    · rename_i r1 e
      rw [Option.map_eq_some_iff] at h
      obtain ⟨r2, h2, e2⟩ := h
      cases e2
      obtain ⟨p, h3⟩ := find_some (by simp) h2
      have := starts_some e
      subst h3 this
      exact ⟨[60, 63] ++ p ++ [63, 62], by simp⟩
    · split at h
      · rename_i r1 e
        split at h
        · rw [Option.map_eq_some_iff] at h
          obtain ⟨r2, h2, e2⟩ := h
          cases e2
          obtain ⟨p, h3⟩ := find_some (by simp) h2
          have := starts_some e
          subst h3 this
          exact ⟨[60, 33, 68, 79, 67, 84, 89, 80, 69] ++ p ++ [62], by simp⟩
        · cases h
      · split at h
        · rename_i r1 e
          have := starts_some e
          obtain ⟨p, h2⟩ := ending_suf h
          subst this h2
          exact ⟨[60, 47] ++ p, by simp⟩
        · split at h
          · rename_i r1 e
            have := starts_some e
            obtain ⟨p, h2⟩ := element_suf h
            subst this h2
            exact ⟨[60] ++ p, by simp⟩
          · rw [Option.map_eq_some_iff] at h
            obtain ⟨z, h2, e2⟩ := h
            cases e2
            exact ⟨_, (List.takeWhile_append_dropWhile).symm⟩
end Go.Proofs.El

namespace Go.Proofs.El
set_option linter.unusedVariables false
set_option linter.unusedSimpArgs false

theorem drop_nil {p : UInt8 → Bool} : ∀ {l : Bs}, l.dropWhile p = [] → ∀ c ∈ l, p c = true
  | [], _, c, hc => by simp at hc
  | d :: l, h, c, hc => by
    by_cases hd : p d = true
    · rw [List.dropWhile_cons_of_pos hd] at h
      rcases List.mem_cons.1 hc with rfl | hc
      · exact hd
      · exact drop_nil h c hc
    · rw [List.dropWhile_cons_of_neg hd] at h; cases h
theorem put_inv (s : List El) (e : El) : (put s e).root.isSome → (put s e).st = [] := by
  cases s with
  | nil => intro _; rfl
  | cons p s => obtain ⟨n, a, t, k⟩ := p; intro h; cases h
theorem piece_inv {x y : St} {l r : Bs} (h0 : x.root.isSome → x.st = []) (h : piece x l = some (y, r)) : y.root.isSome → y.st = [] := by
  unfold piece at h
  split at h
  · rw [Option.map_eq_some_iff] at h
    obtain ⟨_, _, e⟩ := h
    cases e; exact h0
  · split at h
    · rw [Option.map_eq_some_iff] at h
      obtain ⟨_, _, e⟩ := h
      cases e; exact h0
    · split at h
      · split at h
        · rw [Option.map_eq_some_iff] at h
          obtain ⟨_, _, e⟩ := h
          cases e; exact h0
        · cases h
      · split at h
        · unfold ending at h
          rw [Option.bind_eq_some_iff] at h
          obtain ⟨z, h1, h⟩ := h
          split at h
          · cases h
          · split at h
            · rw [Option.map_eq_some_iff] at h
              obtain ⟨r', h2, e2⟩ := h
              cases e2; exact put_inv _ _
            · cases h
        · split at h
          · unfold element at h
            split at h
            · cases h
            · rw [Option.bind_eq_some_iff] at h
              obtain ⟨z, h1, h⟩ := h
              split at h
              · split at h
                · cases h
                  split
                  · intro h; cases h
                  · exact put_inv _ _
                · cases h
              · cases h
                split
                · intro h; cases h
                · exact put_inv _ _
          · rw [Option.map_eq_some_iff] at h
            obtain ⟨z, hz, e⟩ := h
            cases e
            unfold texts at hz
            rw [Option.bind_eq_some_iff] at hz
            obtain ⟨t, _, hz⟩ := hz
            split at hz
            · rename_i hx
              cases hz
              intro hr
              rw [hx] at h0
              exact absurd (h0 hr) (by simp)
            · split at hz
              · cases hz; exact h0
              · cases hz

end Go.Proofs.El

namespace Go.Proofs.El
set_option linter.unusedVariables false
set_option linter.unusedSimpArgs false

theorem meantS_plain : ∀ (w l : Bs), (∀ c ∈ w, c ≠ 38) → meantS none (w ++ l) = (meantS none l).map (w ++ ·)
  | [], l, _ => by simp
  | c :: w, l, h => by
    have hc := h c (by simp)
    rw [List.cons_append, meantS, if_neg (by simpa using hc), meantS_plain w l fun d hd => h d (by simp [hd])]
    simp [Option.map_map, Function.comp_def]
end Go.Proofs.El

namespace Go.Proofs.El
set_option linter.unusedVariables false
set_option linter.unusedSimpArgs false

end Go.Proofs.El

namespace Go.Proofs.El
set_option linter.unusedVariables false
set_option linter.unusedSimpArgs false

theorem u8_le {a b : Nat} (ha : a < 256) (hb : b < 256) : (UInt8.ofNat a ≤ UInt8.ofNat b) = (a ≤ b) := by
  rw [UInt8.le_iff_toNat_le, UInt8.toNat_ofNat', UInt8.toNat_ofNat', Nat.mod_eq_of_lt ha, Nat.mod_eq_of_lt hb]
def leadN (a : Nat) : Option (Nat × UInt8 × UInt8) :=
  if 194 ≤ a ∧ a ≤ 223 then some (0, 128, 191) else if a = 224 then some (1, 160, 191) else if a = 237 then some (1, 128, 159) else if 225 ≤ a ∧ a ≤ 239 then some (1, 128, 191) else if a = 240 then some (2, 144, 191) else if a = 244 then some (2, 128, 143) else if 241 ≤ a ∧ a ≤ 243 then some (2, 128, 191) else none
set_option maxRecDepth 10000 in
theorem lead_n : ∀ a, a < 256 → lead (UInt8.ofNat a) = leadN a := by decide
theorem lt_128 {a : Nat} (h : a < 256) : (UInt8.ofNat a < 128) = (a < 128) := by
  rw [UInt8.lt_iff_toNat_lt, UInt8.toNat_ofNat', Nat.mod_eq_of_lt h]; rfl
theorem textS_low {a : Nat} {l : Bs} (h : a < 128) (h2 : 32 ≤ a ∨ a = 9 ∨ a = 10 ∨ a = 13) : textS none (UInt8.ofNat a :: l) = textS none l := by
  rw [textS, if_pos (by rw [lt_128 (by omega)]; exact h)]
  have : (decide (32 ≤ UInt8.ofNat a) || blank (UInt8.ofNat a)) = true := by
    rcases h2 with h2 | rfl | rfl | rfl
    · have : 32 ≤ UInt8.ofNat a := by rw [show (32 : UInt8) = UInt8.ofNat 32 from rfl, u8_le (by omega) (by omega)]; exact h2
      simp [this]
    all_goals decide
  rw [this, Bool.true_and]
theorem textS_high {a : Nat} {l : Bs} (h : a < 256) (h1 : 128 ≤ a) : textS none (UInt8.ofNat a :: l) = (match leadN a with | some s => textS (some s) l | none => false) := by
  rw [textS, if_neg (by rw [lt_128 h]; omega), lead_n a h]
  all_goals rfl
theorem textS_next {k a lo hi : Nat} {l : Bs} (h : a < 256) (hl : lo < 256) (hh : hi < 256) (h1 : lo ≤ a) (h2 : a ≤ hi) : textS (some (k, UInt8.ofNat lo, UInt8.ofNat hi)) (UInt8.ofNat a :: l) = (match k with | 0 => textS none l | k + 1 => textS (some (k, 128, 191)) l) := by
  cases k <;> rw [textS, decide_eq_true (show UInt8.ofNat lo ≤ UInt8.ofNat a by rw [u8_le hl h]; exact h1), decide_eq_true (show UInt8.ofNat a ≤ UInt8.ofNat hi by rw [u8_le h hh]; exact h2)] <;> rfl
theorem sign_text {n : Nat} {v : Bs} (h : sign n = some v) : text v = true := by
  unfold sign at h
  split at h
  · cases h
  · rename_i h0
    simp only [Bool.or_eq_true, decide_eq_true_eq, Bool.and_eq_true, Bool.not_eq_true', beq_eq_false_iff_ne, not_or, not_and] at h0
    unfold text
    split at h
    · cases h
      rw [textS_low (by assumption) (by omega)]; rfl
    · split at h
      · cases h
        have q : n / 64 < 32 := by omega
        have q2 : 2 ≤ n / 64 := by omega
        have q3 : n % 64 < 64 := Nat.mod_lt _ (by omega)
        generalize n / 64 = x at q q2
        generalize n % 64 = y at q3
        rw [textS_high (by omega) (by omega)]
        have e : leadN (192 + x) = some (0, UInt8.ofNat 128, UInt8.ofNat 191) := by unfold leadN; rw [if_pos (by omega)]; rfl
        rw [e]
        dsimp only
        rw [textS_next (by omega) (by omega) (by omega) (by omega) (by omega)]; rfl
      · split at h
        · cases h
          have q : n / 4096 < 16 := by omega
          have q4 : n / 64 % 64 < 64 := Nat.mod_lt _ (by omega)
          have q5 : n % 64 < 64 := Nat.mod_lt _ (by omega)
          have q6 : n / 4096 = 0 → 32 ≤ n / 64 % 64 := by omega
          have q7 : n / 4096 = 13 → n / 64 % 64 < 32 := by omega
          generalize n / 4096 = x at q q6 q7
          generalize n / 64 % 64 = y at q4 q6 q7
          generalize n % 64 = z at q5
          rw [textS_high (by omega) (by omega)]
          have e : ∃ lo hi : Nat, leadN (224 + x) = some (1, UInt8.ofNat lo, UInt8.ofNat hi) ∧ lo ≤ 128 + y ∧ 128 + y ≤ hi ∧ hi < 256 := by
            unfold leadN
            rw [if_neg (by omega)]
            by_cases h1 : x = 0
            · subst h1; exact ⟨160, 191, by simp, by have := q6 rfl; omega, by omega, by omega⟩
            · rw [if_neg (by omega)]
              by_cases h2 : x = 13
              · subst h2; exact ⟨128, 159, by simp, by omega, by have := q7 rfl; omega, by omega⟩
              · rw [if_neg (by omega), if_pos (by omega)]; exact ⟨128, 191, rfl, by omega, by omega, by omega⟩
          obtain ⟨lo, hi, e, e1, e2, e3⟩ := e
          rw [e]
          dsimp only
          rw [textS_next (by omega) (by omega) e3 e1 e2]
          dsimp only
          rw [show (some (0, (128 : UInt8), (191 : UInt8)) : Option (Nat × UInt8 × UInt8)) = some (0, UInt8.ofNat 128, UInt8.ofNat 191) from rfl, textS_next (by omega) (by omega) (by omega) (by omega) (by omega)]; rfl
        · cases h
          have q : n / 262144 ≤ 4 := by omega
          have q4 : n / 4096 % 64 < 64 := Nat.mod_lt _ (by omega)
          have q5 : n / 64 % 64 < 64 := Nat.mod_lt _ (by omega)
          have q8 : n % 64 < 64 := Nat.mod_lt _ (by omega)
          have q6 : n / 262144 = 0 → 16 ≤ n / 4096 % 64 := by omega
          have q7 : n / 262144 = 4 → n / 4096 % 64 < 16 := by omega
          generalize n / 262144 = x at q q6 q7
          generalize n / 4096 % 64 = y at q4 q6 q7
          generalize n / 64 % 64 = z at q5
          generalize n % 64 = u at q8
          rw [textS_high (by omega) (by omega)]
          have e : ∃ lo hi : Nat, leadN (240 + x) = some (2, UInt8.ofNat lo, UInt8.ofNat hi) ∧ lo ≤ 128 + y ∧ 128 + y ≤ hi ∧ hi < 256 := by
            unfold leadN
            rw [if_neg (by omega), if_neg (by omega), if_neg (by omega), if_neg (by omega)]
            by_cases h1 : x = 0
            · subst h1; exact ⟨144, 191, by simp, by have := q6 rfl; omega, by omega, by omega⟩
            · rw [if_neg (by omega)]
              by_cases h2 : x = 4
              · subst h2; exact ⟨128, 143, by simp, by omega, by have := q7 rfl; omega, by omega⟩
              · rw [if_neg (by omega), if_pos (by omega)]; exact ⟨128, 191, rfl, by omega, by omega, by omega⟩
          obtain ⟨lo, hi, e, e1, e2, e3⟩ := e
          rw [e]
          dsimp only
          rw [textS_next (by omega) (by omega) e3 e1 e2]
          dsimp only
          rw [show (some (1, (128 : UInt8), (191 : UInt8)) : Option (Nat × UInt8 × UInt8)) = some (1, UInt8.ofNat 128, UInt8.ofNat 191) from rfl, textS_next (by omega) (by omega) (by omega) (by omega) (by omega)]
          dsimp only
          rw [show (some (0, (128 : UInt8), (191 : UInt8)) : Option (Nat × UInt8 × UInt8)) = some (0, UInt8.ofNat 128, UInt8.ofNat 191) from rfl, textS_next (by omega) (by omega) (by omega) (by omega) (by omega)]; rfl

theorem meantS_in : ∀ (a x l : Bs), (∀ c ∈ a, c ≠ 59) → meantS (some x) (a ++ 59 :: l) = (entity (x.reverse ++ a)).bind fun t => (meantS none l).map (t ++ ·)
  | [], x, l, _ => by simp [meantS]
  | c :: a, x, l, h => by
    have hc := h c (by simp)
    rw [List.cons_append, meantS, if_neg (by simpa using hc), meantS_in a (c :: x) l fun d hd => h d (by simp [hd])]
    simp
theorem meant_ent {a : Bs} (h : ∀ c ∈ a, c ≠ 59) : meant (38 :: (a ++ [59])) = (entity a).bind fun t => if text t then some t else none := by
  unfold meant
  rw [meantS, if_pos (by decide), meantS_in a [] [] h]
  simp only [List.reverse_nil, List.nil_append]
  cases entity a with
  | none => rfl
  | some v => simp [meantS]

def digs (dg : Nat → UInt8) (b : Nat) : Nat → Nat → Bs
  | 0, _ => []
  | k + 1, n => if n < b then [dg n] else digs dg b k (n / b) ++ [dg (n % b)]
def dec10 (d : Nat) : UInt8 := UInt8.ofNat (48 + d)
def dec16 (d : Nat) : UInt8 := ([48, 49, 50, 51, 52, 53, 54, 55, 56, 57, 97, 66, 99, 68, 101, 70] : Bs).getD d 0
theorem number_app (b : Nat) : ∀ (x : Bs) (n : Nat) (y : Bs), number b n (x ++ y) = (number b n x).bind fun m => number b m y
  | [], n, y => rfl
  | c :: x, n, y => by
    rw [List.cons_append, number, number]
    split
    · exact number_app b x _ y
    · rfl
theorem digs_number {dg : Nat → UInt8} {b : Nat} (hb : 2 ≤ b) (hd : ∀ d, d < b → digit (dg d) = d) : ∀ (k n : Nat), n < b ^ k → number b 0 (digs dg b k n) = some n ∧ (digs dg b k n).length ≤ k ∧ (0 < k → digs dg b k n ≠ [])
  | 0, n, h => by simp at h; subst h; exact ⟨rfl, Nat.le_refl _, fun h => absurd h (by omega)⟩
  | k + 1, n, h => by
    unfold digs
    split
    · rename_i hn
      refine ⟨?_, by simp, by simp⟩
      simp [number, hd n hn, hn]
    · rename_i hn
      have h1 : n / b < b ^ k := by rw [Nat.div_lt_iff_lt_mul (by omega)]; rw [Nat.pow_succ] at h; exact h
      obtain ⟨i1, i2, i3⟩ := digs_number hb hd k (n / b) h1
      refine ⟨?_, by simp; omega, by simp⟩
      have hm : n % b < b := Nat.mod_lt _ (by omega)
      rw [number_app, i1]
      simp only [Option.bind_some, number, hd _ hm, hm, if_true]
      rw [Nat.div_add_mod]
theorem digs_mem {dg : Nat → UInt8} {b : Nat} (hb : 0 < b) {P : UInt8 → Prop} (hd : ∀ d, d < b → P (dg d)) : ∀ (k n : Nat), ∀ c ∈ digs dg b k n, P c
  | 0, n, c, hc => by simp [digs] at hc
  | k + 1, n, c, hc => by
    unfold digs at hc
    split at hc
    · rename_i hn; simp at hc; subst hc; exact hd n hn
    · rw [List.mem_append] at hc
      rcases hc with hc | hc
      · exact digs_mem hb hd k _ c hc
      · simp at hc; subst hc; exact hd _ (Nat.mod_lt _ hb)
def isDig (c : UInt8) : Bool := c ≠ 59 && c ≠ 60 && c ≠ 39 && c ≠ 120
theorem dec10_ok : ∀ d, d < 10 → digit (dec10 d) = d ∧ isDig (dec10 d) = true := by decide
theorem dec16_ok : ∀ d, d < 16 → digit (dec16 d) = d ∧ isDig (dec16 d) = true := by decide
def decS (n : Nat) : Bs := digs dec10 10 7 n
def hexS (n : Nat) : Bs := digs dec16 16 6 n
theorem ent_dec {n : Nat} (h : n < 10 ^ 7) : entity (35 :: decS n) = sign n := by
  obtain ⟨h1, h2, h3⟩ := digs_number (by omega) (fun d hd => (dec10_ok d hd).1) 7 n h
  have h4 := digs_mem (P := fun c => isDig c = true) (b := 10) (by omega) (fun d hd => (dec10_ok d hd).2) 7 n
  change number 10 0 (decS n) = some n at h1
  change (decS n).length ≤ 7 at h2
  change 0 < 7 → decS n ≠ [] at h3
  change ∀ c ∈ decS n, isDig c = true at h4
  generalize decS n = l at h1 h2 h3 h4
  cases l with
  | nil => exact absurd rfl (h3 (by omega))
  | cons c l =>
    have hc : c ≠ 120 := by
      have := h4 c (by simp)
      simp only [isDig, Bool.and_eq_true, decide_eq_true_eq] at this
      exact this.2
    unfold entity
    have e : ∀ x : Bs, x.head? ≠ some 35 → ((35 :: c :: l == x) = false) := fun x hx => by
      cases x with
      | nil => rfl
      | cons d x =>
        cases hq : (35 :: c :: l == d :: x) with
        | false => rfl
        | true => simp only [List.cons_beq_cons, Bool.and_eq_true, beq_iff_eq] at hq; exact absurd (by rw [← hq.1]; rfl) hx
    rw [e _ (by decide), e _ (by decide), e _ (by decide), e _ (by decide), e _ (by decide)]
    simp only [Bool.false_eq_true, if_false]
    unfold entNum
    split
    · rename_i heq; cases heq; exact absurd rfl hc
    · rename_i heq
      cases heq
      unfold digits
      rw [if_neg (by simp at h2 ⊢; omega), h1]
      rfl
    · rename_i h5 h6; exact absurd rfl (h6 _)
theorem ent_hex {n : Nat} (h : n < 16 ^ 6) : entity (35 :: 120 :: hexS n) = sign n := by
  obtain ⟨h1, h2, h3⟩ := digs_number (by omega) (fun d hd => (dec16_ok d hd).1) 6 n h
  change number 16 0 (hexS n) = some n at h1
  change (hexS n).length ≤ 6 at h2
  change 0 < 6 → hexS n ≠ [] at h3
  generalize hexS n = l at h1 h2 h3
  cases l with
  | nil => exact absurd rfl (h3 (by omega))
  | cons c l =>
    unfold entity
    have e : ∀ x : Bs, x.head? ≠ some 35 → ((35 :: 120 :: c :: l == x) = false) := fun x hx => by
      cases x with
      | nil => rfl
      | cons d x =>
        cases hq : (35 :: 120 :: c :: l == d :: x) with
        | false => rfl
        | true => simp only [List.cons_beq_cons, Bool.and_eq_true, beq_iff_eq] at hq; exact absurd (by rw [← hq.1]; rfl) hx
    rw [e _ (by decide), e _ (by decide), e _ (by decide), e _ (by decide), e _ (by decide)]
    simp only [Bool.false_eq_true, if_false, entNum]
    unfold digits
    rw [if_neg (by simp at h2 ⊢; omega), h1]
    rfl
theorem mem_dec (n : Nat) : ∀ c ∈ 38 :: (35 :: decS n ++ [59]), c ≠ 60 ∧ c ≠ 39 := fun c hc => by
  have h4 := digs_mem (P := fun c => isDig c = true) (b := 10) (by omega) (fun d hd => (dec10_ok d hd).2) 7 n
  simp only [List.cons_append, List.mem_cons, List.mem_append, List.mem_nil_iff, or_false] at hc
  rcases hc with rfl | rfl | hc | rfl
  · decide
  · decide
  · have := h4 c hc
    simp only [isDig, Bool.and_eq_true, decide_eq_true_eq] at this
    exact ⟨this.1.1.2, this.1.2⟩
  · decide
theorem mem_hex (n : Nat) : ∀ c ∈ 38 :: (35 :: 120 :: hexS n ++ [59]), c ≠ 60 := fun c hc => by
  have h4 := digs_mem (P := fun c => isDig c = true) (b := 16) (by omega) (fun d hd => (dec16_ok d hd).2) 6 n
  simp only [List.cons_append, List.mem_cons, List.mem_append, List.mem_nil_iff, or_false] at hc
  rcases hc with rfl | rfl | rfl | hc | rfl
  · decide
  · decide
  · decide
  · have := h4 c hc
    simp only [isDig, Bool.and_eq_true, decide_eq_true_eq] at this
    exact this.1.1.2
  · decide
theorem meant_dec {n : Nat} (h : n < 10 ^ 7) : meant (38 :: (35 :: decS n ++ [59])) = sign n := by
  have h4 := digs_mem (P := fun c => isDig c = true) (b := 10) (by omega) (fun d hd => (dec10_ok d hd).2) 7 n
  rw [meant_ent (a := 35 :: decS n), ent_dec h]
  · cases hs : sign n with
    | none => rfl
    | some v => simp [sign_text hs]
  · intro c hc
    rcases List.mem_cons.1 hc with rfl | hc
    · decide
    · have := h4 c hc
      simp only [isDig, Bool.and_eq_true, decide_eq_true_eq] at this
      exact this.1.1.1
theorem meant_hex {n : Nat} (h : n < 16 ^ 6) : meant (38 :: (35 :: 120 :: hexS n ++ [59])) = sign n := by
  have h4 := digs_mem (P := fun c => isDig c = true) (b := 16) (by omega) (fun d hd => (dec16_ok d hd).2) 6 n
  rw [meant_ent (a := 35 :: 120 :: hexS n), ent_hex h]
  · cases hs : sign n with
    | none => rfl
    | some v => simp [sign_text hs]
  · intro c hc
    rcases List.mem_cons.1 hc with rfl | hc
    · decide
    · rcases List.mem_cons.1 hc with rfl | hc
      · decide
      · have := h4 c hc
        simp only [isDig, Bool.and_eq_true, decide_eq_true_eq] at this
        exact this.1.1.1

theorem text_a {m : Bs} {b : List (Bs × Bs)} (hm : ∀ c ∈ m, c ≠ 60) (hne : m ≠ []) : parse ⟨[.mk [97] b [] []], none⟩ (m ++ [60, 47, 97, 62]) = (match meant m with | some v => .ok (.mk [97] b v []) | none => .error (m ++ [60, 47, 97, 62])) := by
  cases m with
  | nil => exact absurd rfl hne
  | cons c m =>
    obtain ⟨s1, s2⟩ := span_app (p := fun c => !(c == 60)) (a := c :: m) (r := [60, 47, 97, 62]) (fun d hd => by simpa using hm d hd) (by intro d hd; cases hd; rfl)
    have hp : piece ⟨[.mk [97] b [] []], none⟩ (c :: m ++ [60, 47, 97, 62]) = (meant (c :: m)).map fun v => (⟨[.mk [97] b v []], none⟩, [60, 47, 97, 62]) := by
      rw [List.cons_append, piece_text (hm c (by simp)), ← List.cons_append, s1, s2]
      unfold texts
      cases meant (c :: m) <;> simp
    cases hv : meant (c :: m) with
    | none => rw [hv] at hp; exact parse_none (by simp) hp
    | some v =>
      rw [hv] at hp
      rw [parse_piece (by simp) hp, show ([60, 47, 97, 62] : Bs) = [60, 47] ++ [97] ++ [62] ++ [] from rfl, parse_piece (by simp) (ending_lay (by decide))]
      rfl
theorem sign_text_read {n : Nat} (h : n < 10 ^ 7) : (∀ v, sign n = some v → parse St.new ([60, 97, 62, 38, 35] ++ decS n ++ [59, 60, 47, 97, 62]) = .ok (.mk [97] [] v [])) ∧ (sign n = none → ∃ r, parse St.new ([60, 97, 62, 38, 35] ++ decS n ++ [59, 60, 47, 97, 62]) = .error r) := by
  have e1 : [60, 97, 62, 38, 35] ++ decS n ++ [59, 60, 47, 97, 62] = [60, 97, 62] ++ ((38 :: (35 :: decS n ++ [59])) ++ [60, 47, 97, 62]) := by simp
  have h1 : ∀ r, parse St.new ([60, 97, 62] ++ r) = parse ⟨[.mk [97] [] [] []], none⟩ r := fun r =>
    parse_piece (by simp) (element_lay (st := []) (n := [97]) (a := []) (e := [62] ++ r) (r := r) (b := true) (.inr ⟨rfl, rfl⟩) (by decide) rfl (by simp) rfl)
  rw [e1, h1, text_a (fun c hc => (mem_dec n c hc).1) (by simp), meant_dec h]
  exact ⟨fun v hv => by rw [hv], fun hv => ⟨_, by rw [hv]⟩⟩
theorem sign_both_read {n : Nat} (h : n < 10 ^ 7) (h6 : n < 16 ^ 6) : (∀ v, sign n = some v → parse St.new ([60, 97, 32, 98, 61, 39, 38, 35] ++ decS n ++ [59, 39, 62, 38, 35, 120] ++ hexS n ++ [59, 60, 47, 97, 62]) = .ok (.mk [97] [([98], v)] v [])) ∧
    (sign n = none → ∃ r, parse St.new ([60, 97, 32, 98, 61, 39, 38, 35] ++ decS n ++ [59, 39, 62, 38, 35, 120] ++ hexS n ++ [59, 60, 47, 97, 62]) = .error r) := by
  have e1 : [60, 97, 32, 98, 61, 39, 38, 35] ++ decS n ++ [59, 39, 62, 38, 35, 120] ++ hexS n ++ [59, 60, 47, 97, 62] = 60 :: 97 :: (32 :: 98 :: 61 :: 39 :: ((38 :: (35 :: decS n ++ [59])) ++ (39 :: (62 :: ((38 :: (35 :: 120 :: hexS n ++ [59])) ++ [60, 47, 97, 62]))))) := by simp
  rw [e1]
  generalize hR : (38 :: (35 :: 120 :: hexS n ++ [59])) ++ [60, 47, 97, 62] = R
  obtain ⟨s1, s2⟩ := span_app (p := fun c => !(c == 39) && !(c == 60)) (a := 38 :: (35 :: decS n ++ [59])) (r := 39 :: (62 :: R)) (fun d hd => by have := mem_dec n d hd; simp [this.1, this.2]) (by intro d hd; cases hd; rfl)
  have ha : rdAttr (98 :: 61 :: 39 :: ((38 :: (35 :: decS n ++ [59])) ++ (39 :: (62 :: R)))) = (sign n).map fun v => (([98], v), 62 :: R) := by
    have hn : rdName (98 :: 61 :: 39 :: ((38 :: (35 :: decS n ++ [59])) ++ (39 :: (62 :: R)))) = some ([98], 61 :: 39 :: ((38 :: (35 :: decS n ++ [59])) ++ (39 :: (62 :: R)))) := rdName_app (n := [98]) (by decide) (by intro c hc; cases hc; decide)
    unfold rdAttr
    rw [hn]
    simp only [Option.bind_some, blanks_cons (show blank 61 = false by decide), blanks_cons (show blank 39 = false by decide), s1, s2, meant_dec h]
    rfl
  have hb : rdBegin (97 :: (32 :: 98 :: 61 :: 39 :: ((38 :: (35 :: decS n ++ [59])) ++ (39 :: (62 :: R))))) = (sign n).map fun v => (.mk [97] [([98], v)] [] [], true, R) := by
    have hn : rdName (97 :: (32 :: 98 :: 61 :: 39 :: ((38 :: (35 :: decS n ++ [59])) ++ (39 :: (62 :: R))))) = some ([97], 32 :: 98 :: 61 :: 39 :: ((38 :: (35 :: decS n ++ [59])) ++ (39 :: (62 :: R)))) := rdName_app (n := [97]) (by decide) (by intro c hc; cases hc; decide)
    unfold rdBegin
    rw [hn]
    simp only [Option.bind_some]
    rw [rdAttrs, blanks_sp (show blank 32 = true by decide), blanks_cons (show blank 98 = false by decide), starts_no (by decide), starts_no (by decide)]
    dsimp only
    rw [if_neg (by simp), ha]
    cases hs : sign n with
    | none => rfl
    | some v =>
      simp only [Option.map_some, Option.bind_some, List.nil_append]
      have : (32 :: 98 :: 61 :: 39 :: ((38 :: (35 :: decS n ++ [59])) ++ (39 :: (62 :: R)))).length = ((30 : Nat) - 30) + ((32 :: 98 :: 61 :: 39 :: ((38 :: (35 :: decS n ++ [59])) ++ (39 :: (62 :: R)))).length - 1) + 1 := by simp
      rw [this, rdAttrs, blanks_cons (show blank 62 = false by decide), starts_no (by decide), show starts [62] (62 :: R) = some R from starts_app [62] R]
      simp [attrsOk, name, part0, sign_text hs]
  have hp : piece St.new (60 :: 97 :: (32 :: 98 :: 61 :: 39 :: ((38 :: (35 :: decS n ++ [59])) ++ (39 :: (62 :: R))))) = (sign n).map fun v => (⟨[.mk [97] [([98], v)] [] []], none⟩, R) := by
    rw [piece_element (by decide)]
    unfold element
    rw [hb]
    cases sign n <;> simp [St.new]
  refine ⟨fun v hv => ?_, fun hv => ?_⟩
  · rw [hv] at hp
    rw [parse_piece (by simp) hp, ← hR, text_a (mem_hex n) (by simp), meant_hex h6, hv]
  · rw [hv] at hp
    exact ⟨_, parse_none (by simp) hp⟩
end Go.Proofs.El
