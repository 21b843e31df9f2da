/- What the reference finds, and splits, is what the program does. -/
import Derived.Test.YtajbnfidcpfonaaGreatDoorZ3
import Derived.Test.YtajbnfidcpfonaaGreatDoorM9
import Derived.Test.YtajbnfidcpfonaaGreatDoorPureRefVal
set_option linter.unusedVariables false
set_option linter.unusedSimpArgs false
namespace Go.Proofs.YtajbnfidcpfonaaGreatDoor.Pure
open Go.RowKit Go.Proofs.Qx Go.Proofs.YtajbnfidcpfonaaGreatDoor.M Go.Proofs.YtajbnfidcpfonaaGreatDoorW.PrintWords Go.Proofs.YtajbnfidcpfonaaGreatDoorW.PrintLast Go.Proofs.YtajbnfidcpfonaaGreatDoorW.PrintMore
set_option maxRecDepth 100000

/-! ### Find: both look in one order -/
def mt (a0 a1 b d n m : Int) : Bool := (ofS (lnum d n m) (lden b d n)).1 == a0 && (ofS (lnum d n m) (lden b d n)).2.1 == a1
def rowM (a0 a1 b n m : Int) : Nat → Int → Option Int
  | 0, _ => none
  | j + 1, d => if mt a0 a1 b d n m = true then some d else rowM a0 a1 b n m j (d + 1)
def blkM (a0 a1 n m : Int) : Nat → Int → Option (Int × Int)
  | 0, _ => none
  | j + 1, b => match rowM a0 a1 b n m 3 0 with
    | some d => some (b, d)
    | none => blkM a0 a1 n m j (b + 1)
def kndM (a0 a1 : Int) : Nat → Int → Option (Int × Int × Int × Int)
  | 0, _ => none
  | j + 1, i => match blkM a0 a1 (kNum i) (kDen i) 7 0 with
    | some (b, d) => some (b, d, kNum i, kDen i)
    | none => kndM a0 a1 j (i + 1)
def fnd (a0 a1 : Int) : Int × Int × Int × Int × Bool := match kndM a0 a1 4 0 with
  | some (b, d, n, m) => (b, d, n, m, true)
  | none => (0, 0, 0, 0, false)
def Kn (n m : Int) : Prop := (n = 0 ∧ m = 0) ∨ (2 ≤ n ∧ n ≤ 15 ∧ 1 ≤ m ∧ m ≤ 15 ∧ n ≠ m)
theorem kn_of {i : Int} (h : 0 ≤ i ∧ i < 4) : Kn (kNum i) (kDen i) := by
  have : i = 0 ∨ i = 1 ∨ i = 2 ∨ i = 3 := by omega
  rcases this with rfl | rfl | rfl | rfl <;> unfold Kn <;> decide
theorem f1_l2 {a0 a1 n m i b : Int} {k : Nat} (hk : 150 ≤ k) (hb : 0 ≤ b ∧ b < 7) (hn : Kn n m) {R : Option (Int × Int × Int × Int × Bool)} (next : ∀ x y, value_Find.l1 k i (b + 1) a0 a1 x y n m = R) :
    ∀ (j : Nat) (d : Int), d + j = 3 → 0 ≤ d → ∀ x y, value_Find.l2 (k + j + 1) b i b d a0 a1 x y n m = match rowM a0 a1 b n m j d with
      | some d' => some (b, d', n, m, true)
      | none => R := by
  intro j
  induction j with
  | zero =>
    intro d hd h0 x y
    rw [value_Find.l2, if_neg (by omega), wrS (x := b + 1) (by omega) (by omega)]
    exact next x y
  | succ j ih =>
    intro d hd h0 x y
    have hv : VR b d n m := ⟨by omega, by omega, by omega, by omega, hn⟩
    rw [show k + (j + 1) + 1 = (k + j + 1) + 1 from by omega, value_Find.l2, if_pos (by omega), Length_eq (by omega) hv, Option.bind_some, rowM, wrS (x := d + 1) (by omega) (by omega)]
    unfold mt
    split
    · rfl
    · exact ih (d + 1) (by omega) (by omega) _ _
theorem f1_l1 {a0 a1 n m i : Int} {k : Nat} (hk : 150 ≤ k) (hi : 0 ≤ i ∧ i < 4) (hn : Kn n m) {R : Option (Int × Int × Int × Int × Bool)} (next : value_Find.l0 k (i + 1) a0 a1 = R) :
    ∀ (j : Nat) (b : Int), b + j = 7 → 0 ≤ b → ∀ x y, value_Find.l1 (k + 5 * j + 1) i b a0 a1 x y n m = match blkM a0 a1 n m j b with
      | some (b', d') => some (b', d', n, m, true)
      | none => R := by
  intro j
  induction j with
  | zero =>
    intro b hb h0 x y
    rw [show k + 5 * 0 + 1 = k + 1 from rfl, value_Find.l1, if_neg (by omega), wrS (x := i + 1) (by omega) (by omega)]
    exact next
  | succ j ih =>
    intro b hb h0 x y
    rw [show k + 5 * (j + 1) + 1 = (k + 5 * j + 1 + 3 + 1) + 1 from by omega, value_Find.l1, if_pos (by omega), f1_l2 (by omega) ⟨h0, by omega⟩ hn (fun x y => ih (b + 1) (by omega) (by omega) x y) 3 0 rfl (by decide), blkM]
    cases rowM a0 a1 b n m 3 0 <;> rfl
theorem f1_l0 (a0 a1 : Int) {k : Nat} (hk : 150 ≤ k) : ∀ (j : Nat) (i : Int), i + j = 4 → 0 ≤ i → value_Find.l0 (k + 37 * j + 1) i a0 a1 = some (match kndM a0 a1 j i with
      | some (b, d, n, m) => (b, d, n, m, true)
      | none => (0, 0, 0, 0, false)) := by
  intro j
  induction j with
  | zero =>
    intro i hi h0
    rw [show k + 37 * 0 + 1 = k + 1 from rfl, value_Find.l0, if_neg (by omega)]
    rfl
  | succ j ih =>
    intro i hi h0
    rw [show k + 37 * (j + 1) + 1 = (k + 37 * j + 1 + 5 * 7 + 1) + 1 from by omega, value_Find.l0, if_pos (by omega)]
    unfold value_kindsAt.f
    rw [if_pos ⟨by omega, by omega⟩, Option.bind_some, f1_l1 (by omega) ⟨h0, by omega⟩ (kn_of ⟨h0, by omega⟩) (ih (i + 1) (by omega) (by omega)) 7 0 rfl (by decide), kndM]
    cases h : blkM a0 a1 (kNum i) (kDen i) 7 0 with
    | none => rfl
    | some p => obtain ⟨b, d⟩ := p; rfl
theorem find1 {k : Nat} (hk : 299 ≤ k) (a0 a1 : Int) : value_Find.f k a0 a1 = some (fnd a0 a1) := by
  have h := f1_l0 a0 a1 (k := k - 149) (by omega) 4 0 rfl (by decide)
  rw [show k - 149 + 37 * 4 + 1 = k from by omega] at h
  unfold value_Find.f value_kindsAll.f fnd
  rw [Option.bind_some]
  exact h
abbrev F9 (K : Nat) := r4_Find.L9 K (r4_Length.f K) (r4_kinds.f K)
abbrev F6 (K : Nat) := r4_Find.L6 K (r4_Length.f K) (r4_kinds.f K)
abbrev F3 (K : Nat) := r4_Find.L3 K (r4_Length.f K) (r4_kinds.f K)
theorem f4_l9 {K : Nat} (hK : 150 ≤ K) {a0 a1 n m b : Int} {i : Nat} (hi : i < 4) (hnn : (D.at kin i 2).toInt = n) (hmm : (D.at kin i 3).toInt = m) (hb : 0 ≤ b ∧ b < 7) (hn : Kn n m) (z1 z2 z3 z4 : Int) :
    ∀ (j : Nat) (d : Int) (k : Nat), d + j = 3 → 0 ≤ d → j < k → F9 K k (false, kin, (i : Int), b, d, a0, a1, z1, z2, z3, z4) = some (match rowM a0 a1 b n m j d with
      | some d' => .inr (true, b, d', n, m)
      | none => .inl (false, kin, (i : Int), b, 3, a0, a1, z1, z2, z3, z4)) := by
  intro j
  induction j with
  | zero =>
    intro d k hd h0 hk
    obtain ⟨k, rfl⟩ : ∃ m, k = m + 1 := ⟨k - 1, by omega⟩
    obtain rfl : d = 3 := by omega
    rw [F9, r4_Find.L9]
    rfl
  | succ j ih =>
    intro d k hd h0 hk
    obtain ⟨k, rfl⟩ : ∃ m, k = m + 1 := ⟨k - 1, by omega⟩
    have hv : VR b d n m := ⟨by omega, by omega, by omega, by omega, hn⟩
    have hcc : (0 : Int) ≤ (i : Int) ∧ (i : Int) < (kin.length : Int) := ⟨by omega, by show (i : Int) < ((4 : Nat) : Int); omega⟩
    rw [F9, r4_Find.L9]
    dsimp only
    rw [r4_Find.L9.S, decide_eq_true (by omega), cond_true, if_pos hcc, if_pos hcc, Int.toNat_natCast, hnn, hmm, Length4 hK, Option.bind_some, if_pos hv, rowM, wrI (x := d + 1) (by omega) (by omega), Bool.and_true]
    unfold mt
    by_cases e : ((ofS (lnum d n m) (lden b d n)).1 == a0 && (ofS (lnum d n m) (lden b d n)).2.1 == a1) = true
    · rw [if_pos e, e, cond_true]
    · rw [if_neg e, Bool.eq_false_iff.2 e, cond_false]
      exact ih (d + 1) k (by omega) (by omega) (by omega)
theorem f4_l6 {K : Nat} (hK : 150 ≤ K) {a0 a1 n m : Int} {i : Nat} (hi : i < 4) (hnn : (D.at kin i 2).toInt = n) (hmm : (D.at kin i 3).toInt = m) (hn : Kn n m) (z1 z2 z3 z4 : Int) :
    ∀ (j : Nat) (b : Int) (k : Nat), b + j = 7 → 0 ≤ b → j < k → F6 K k (false, kin, (i : Int), b, a0, a1, z1, z2, z3, z4) = some (match blkM a0 a1 n m j b with
      | some (b', d') => .inr (true, b', d', n, m)
      | none => .inl (false, kin, (i : Int), 7, a0, a1, z1, z2, z3, z4)) := by
  intro j
  induction j with
  | zero =>
    intro b k hb h0 hk
    obtain ⟨k, rfl⟩ : ∃ m, k = m + 1 := ⟨k - 1, by omega⟩
    obtain rfl : b = 7 := by omega
    rw [F6, r4_Find.L6]
    rfl
  | succ j ih =>
    intro b k hb h0 hk
    obtain ⟨k, rfl⟩ : ∃ m, k = m + 1 := ⟨k - 1, by omega⟩
    have h9 := f4_l9 hK (a0 := a0) (a1 := a1) hi hnn hmm ⟨h0, by omega⟩ hn z1 z2 z3 z4 3 0 K rfl (by decide) (by omega)
    rw [F6, r4_Find.L6]
    dsimp only
    rw [r4_Find.L6.S, decide_eq_true (by omega), cond_true]
    show (F9 K K (false, kin, (i : Int), b, 0, a0, a1, z1, z2, z3, z4)).bind _ = _
    rw [h9, Option.bind_some, blkM]
    cases rowM a0 a1 b n m 3 0 with
    | none =>
      dsimp only [Sum.elim_inl]
      rw [wrI (x := b + 1) (by omega) (by omega)]
      exact ih (b + 1) k (by omega) (by omega) (by omega)
    | some d => rfl
theorem f4_l3 {K : Nat} (hK : 150 ≤ K) (a0 a1 z1 z2 z3 z4 : Int) :
    ∀ (j i k : Nat), i + j = 4 → j < k → F3 K k (false, kin, (i : Int), a0, a1, z1, z2, z3, z4) = some (match kndM a0 a1 j (i : Int) with
      | some (b, d, n, m) => .inr (true, b, d, n, m)
      | none => .inl (false, z1, z2, z3, z4)) := by
  intro j
  induction j with
  | zero =>
    intro i k hi hk
    obtain ⟨k, rfl⟩ : ∃ m, k = m + 1 := ⟨k - 1, by omega⟩
    obtain rfl : i = 4 := by omega
    rw [F3, r4_Find.L3]
    rfl
  | succ j ih =>
    intro i k hi hk
    obtain ⟨k, rfl⟩ : ∃ m, k = m + 1 := ⟨k - 1, by omega⟩
    have hkk : (D.at kin i 2).toInt = kNum i ∧ (D.at kin i 3).toInt = kDen i := by
      have : i = 0 ∨ i = 1 ∨ i = 2 ∨ i = 3 := by omega
      rcases this with rfl | rfl | rfl | rfl <;> exact ⟨by decide, by decide⟩
    have h6 := f4_l6 hK (a0 := a0) (a1 := a1) (i := i) (by omega) hkk.1 hkk.2 (kn_of ⟨by omega, by omega⟩) z1 z2 z3 z4 7 0 K rfl (by decide) (by omega)
    rw [F3, r4_Find.L3]
    dsimp only
    rw [r4_Find.L3.S, decide_eq_true (show (i : Int) < (kin.length : Int) by show (i : Int) < ((4 : Nat) : Int); omega), cond_true]
    show (F6 K K (false, kin, (i : Int), 0, a0, a1, z1, z2, z3, z4)).bind _ = _
    rw [h6, Option.bind_some, kndM]
    cases blkM a0 a1 (kNum i) (kDen i) 7 0 with
    | none =>
      dsimp only [Sum.elim_inl]
      rw [wrI (x := (i : Int) + 1) (by omega) (by omega)]
      exact ih (i + 1) k (by omega) (by omega)
    | some p => obtain ⟨b, d⟩ := p; rfl
theorem find4 {k : Nat} (hk : 150 ≤ k) (a0 a1 : Int) : r4_Find.f k a0 a1 = some (fnd a0 a1) := by
  have h := f4_l3 hk a0 a1 0 0 0 0 4 0 k rfl (by omega)
  unfold r4_Find.f r4_Find.t fnd
  rw [show r4_kinds.f k = some kin from rfl, Option.bind_some]
  show (F3 k k (false, kin, ((0 : Nat) : Int), a0, a1, 0, 0, 0, 0)).bind _ = _
  rw [h, Option.bind_some, show ((0 : Nat) : Int) = 0 from rfl]
  cases kndM a0 a1 4 0 with
  | none => rfl
  | some p => obtain ⟨b, d, n, m⟩ := p; rfl

/-! ### split -/
theorem same_run (K : Nat) (f17 : Int → Int → Option (Int × Int × Int × Int × Bool)) (f18 : Int → Int → Option (List (List D) × Int)) (f30 : Int → Int → Option (Int × Int × Int × Int × Bool)) (f31 : Int → Int → Option (List (List D) × Int)) (l : List (List D)) (hl : l.length ≤ 1000000) :
    ∀ (j i k : Nat), i + j = l.length → j < k → z_split.L8 K f17 f18 f30 f31 k (false, l, l, (i : Int)) = some (.inl false) := by
  intro j
  induction j with
  | zero =>
    intro i k hi hk
    obtain ⟨k, rfl⟩ : ∃ m, k = m + 1 := ⟨k - 1, by omega⟩
    rw [z_split.L8]
    dsimp only
    rw [z_split.L8.S, decide_eq_false (by omega), cond_false]
  | succ j ih =>
    intro i k hi hk
    obtain ⟨k, rfl⟩ : ∃ m, k = m + 1 := ⟨k - 1, by omega⟩
    rw [z_split.L8]
    dsimp only
    have hc : (0 : Int) ≤ (i : Int) ∧ (i : Int) < (l.length : Int) := ⟨by omega, by omega⟩
    rw [z_split.L8.S, decide_eq_true hc.2, cond_true, if_pos hc, if_pos hc]
    simp only [beq_self_eq_true, Bool.and_self, Bool.not_true, cond_false]
    rw [wrI (x := (i : Int) + 1) (by omega) (by omega)]
    exact ih (i + 1) k (by omega) (by omega)
theorem split_both {k : Nat} (hk : 40000 ≤ k) {p q : Int} (hp : I64 p) (hq : I64 q) : z_split.f k p q = some true := by
  unfold z_split.f z_split.t
  rw [find1 (by omega), Option.bind_some, find4 (by omega), Option.bind_some]
  show ((value_Split.f k p q).map (fun r => (r.1.map row23, r.2))).bind _ = _
  rw [split1 hk hp hq, Option.bind_some, split4 hk hp hq, Option.bind_some]
  generalize hL : (if Rt p q ∧ 0 < p ∧ p ≤ 64 * q then ((spl p q).1.map row23, (spl p q).2) else ([], 41)) = L
  have hlen : L.1.length ≤ 28672 := by
    rw [← hL]
    split
    · rename_i h
      rw [List.length_map]
      exact spl_len h.2.1 h.2.2 (by have := h.1.1; omega)
    · exact Nat.zero_le _
  simp only [beq_self_eq_true, Bool.and_self, Bool.not_true, cond_false]
  have h8 := same_run k (value_Find.f k) (fun a0 a1 => (value_Split.f k a0 a1).map fun r => (r.1.map row23, r.2)) (r4_Find.f k) (r4_Split.f k) L.1 (by omega) L.1.length 0 k (by omega) (by omega)
  rw [show (0 : Int) = ((0 : Nat) : Int) from rfl, h8, Option.bind_some]
  rfl

end Go.Proofs.YtajbnfidcpfonaaGreatDoor.Pure
