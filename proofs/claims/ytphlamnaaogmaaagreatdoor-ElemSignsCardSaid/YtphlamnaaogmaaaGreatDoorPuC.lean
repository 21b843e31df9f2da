import Derived.Test.YtphlamnaaogmaaaGreatDoorPuB
import Derived.Test.YtphlamnaaogmaaaGreatDoorE13
namespace Go.Proofs.YtphlamnaaogmaaaGreatDoor.M
open Go Go.RowKit Go.Proofs Go.Proofs.Qx Go.Proofs.El
set_option linter.unusedVariables false
set_option linter.unusedSimpArgs false

section
variable (fr : Int) (c3 : ByteArray) (c4 : List (List D)) (c5 : ByteArray) (c6 : List (List D)) (c7 : Bool) (c8 : List (List D))

theorem ex_drop (l : Bs) (i : Nat) : (tb l).extract i (tb l).size = tb (l.drop i) := by
  rw [tb_extract, size_tb]
  exact congrArg tb (List.take_of_length_le (by simp))
theorem if_szsz {α : Type} (s : ByteArray) (x y : Option α) : (if (0 : Int) ≤ (s.size : Int) ∧ (s.size : Int) ≤ (s.size : Int) then x else y) = x := if_pos (by omega)
theorem begins_eq (k : Nat) (sg l : Bs) (i : Nat) (hi : i ≤ l.length) : zO.f k (tb sg, tb l, fr, (i : Int), c3, c4, c5, c6, c7, c8) = some (sg.isPrefixOf (l.drop i), tb l, fr, (i : Int), c3, c4, c5, c6, c7, c8) := by
  show zO.t k _ _ _ _ _ _ _ _ _ _ _ = _
  unfold zO.t
  have h2 : ∀ x y : Option (Bool × Dc), (if (0 : Int) ≤ (i : Int) ∧ (i : Int) ≤ ((tb l).size : Int) then x else y) = x := fun x y => if_pos (by rw [size_tb]; omega)
  dsimp only
  rw [if_szsz, h2]
  simp only [Int.toNat_natCast, ex_drop, strings_HasPrefix.f, Lib.hasPrefix, Option.bind_some]
  rfl
theorem has_eq (k : Nat) (sg l : Bs) (i : Nat) (hi : i ≤ l.length) (hl : l.length ≤ 1000000000) (hs : sg.length ≤ 100) : zN.f k (tb sg, tb l, fr, (i : Int), c3, c4, c5, c6, c7, c8) =
    some (bif sg.isPrefixOf (l.drop i) then (true, tb l, fr, ((i + sg.length : Nat) : Int), c3, c4, c5, c6, c7, c8) else (false, tb l, fr, (i : Int), c3, c4, c5, c6, c7, c8)) := by
  show zN.t k _ _ _ _ _ _ _ _ _ _ _ = _
  unfold zN.t
  dsimp only
  rw [begins_eq fr c3 c4 c5 c6 c7 c8 k sg l i hi]
  simp only [Option.bind_some, Prod.q1, Prod.q2, Prod.q3, Prod.q4, Prod.q5, Prod.q6, Prod.q7, Prod.q8, Prod.r9, size_tb]
  cases sg.isPrefixOf (l.drop i) with
  | false => rfl
  | true =>
    have : IntKind.i64.wrap ((i : Int) + (sg.length : Int)) = ((i + sg.length : Nat) : Int) := by rw [wrI (by omega) (by omega)]; simp
    rw [this]; rfl
theorem index_fit {sg : Bs} (hs : sg ≠ []) : ∀ (l : Bs), 0 ≤ Lib.index l sg → Lib.index l sg + (sg.length : Int) ≤ (l.length : Nat)
  | [], h => by
    cases sg with
    | nil => exact absurd rfl hs
    | cons c sg => simp [Lib.index] at h
  | c :: l, h => by
    by_cases hp : sg.isPrefixOf (c :: l) = true
    · have e : Lib.index (c :: l) sg = 0 := by simp only [Lib.index, if_pos hp]
      have := (List.isPrefixOf_iff_prefix.1 hp).length_le
      rw [e]; omega
    · rcases index_ne (l := l) (p := sg) with q | q
      · have e : Lib.index (c :: l) sg = -1 := by simp only [Lib.index, if_neg hp]; rw [if_pos (beq_iff_eq.2 q)]
        omega
      · have e : Lib.index (c :: l) sg = Lib.index l sg + 1 := by
          simp only [Lib.index, if_neg hp]; rw [if_neg (by simp; omega)]
        have := index_fit hs l q
        rw [e, List.length_cons]; omega
theorem past_eq (k : Nat) (sg l : Bs) (i : Nat) (hi : i ≤ l.length) (hl : l.length ≤ 1000000000) (hs : sg.length ≤ 100) (hne : sg ≠ []) : zR.f k (tb sg, tb l, fr, (i : Int), c3, c4, c5, c6, c7, c8) =
    some (match find sg (l.drop i) with | some r => .inl (tb l, fr, ((l.length - r.length : Nat) : Int), c3, c4, c5, c6, c7, c8) | none => .inr (tb l, fr, (i : Int), c3, c4, c5, c6, c7, c8)) := by
  show zR.t k _ _ _ _ _ _ _ _ _ _ _ _ = _
  unfold zR.t
  have h2 : ∀ x y : Option (Dc ⊕ Dc), (if (0 : Int) ≤ (i : Int) ∧ (i : Int) ≤ ((tb l).size : Int) then x else y) = x := fun x y => if_pos (by rw [size_tb]; omega)
  dsimp only
  rw [if_szsz, h2]
  have hix : strings_Index.f (tb (l.drop i)) (tb sg) = some (Lib.index (l.drop i) sg) := by
    unfold strings_Index.f
    rw [if_pos (by rw [size_tb]; simp; omega)]; rfl
  simp only [Int.toNat_natCast, ex_drop, hix, Option.bind_some, must_eq]
  simp only [size_tb]
  rw [find_index hne]
  by_cases q : 0 ≤ Lib.index (l.drop i) sg
  · rw [if_pos q, decide_eq_true (show Lib.index (l.drop i) sg ≥ 0 from q)]
    have hf := find_index hne (l.drop i)
    rw [if_pos q] at hf
    have hdl := index_fit hne (l.drop i) q
    rw [List.length_drop] at hdl
    have e1 : IntKind.i64.wrap (Lib.index (l.drop i) sg + (sg.length : Int)) = Lib.index (l.drop i) sg + (sg.length : Int) := wrI (by omega) (by omega)
    have e2 : IntKind.i64.wrap ((i : Int) + (Lib.index (l.drop i) sg + (sg.length : Int))) = ((l.length - ((l.drop i).drop ((Lib.index (l.drop i) sg).toNat + sg.length)).length : Nat) : Int) := by
      rw [wrI (by omega) (by omega)]
      simp only [List.length_drop]
      omega
    rw [e1, e2]; rfl
  · rw [if_neg q, decide_eq_false (show ¬ Lib.index (l.drop i) sg ≥ 0 from q)]; rfl

theorem dec_sz {i : Nat} {l : Bs} (h : i < l.length) : decide ((i : Int) < ((tb l).size : Int)) = true := by rw [size_tb]; exact dec_lt h
theorem dec_nsz {i : Nat} {l : Bs} (h : l.length ≤ i) : decide ((i : Int) < ((tb l).size : Int)) = false := by rw [size_tb]; exact dec_nlt h
theorem in_sz {α : Type} {i : Nat} {l : Bs} (h : i < l.length) (x y : Option α) : (if (0 : Int) ≤ (i : Int) ∧ (i : Int) < ((tb l).size : Int) then x else y) = x := if_pos (by rw [size_tb]; omega)
theorem add1 (i n : Nat) : i + 1 + n = i + (n + 1) := by omega
theorem tw_cons (p : UInt8 → Bool) {l : Bs} {i : Nat} (h : i < l.length) : (l.drop i).takeWhile p = bif p (l.getD i 0) then l.getD i 0 :: (l.drop (i + 1)).takeWhile p else [] := by
  rw [drop_cons h]
  cases hp : p (l.getD i 0) with
  | true => rw [List.takeWhile_cons_of_pos hp]; rfl
  | false => rw [List.takeWhile_cons_of_neg (by rw [hp]; exact Bool.false_ne_true)]; rfl
theorem blank_loop {f : ByteArray → Int → Option Int} (hf : ∀ c : UInt8, ∃ n : Int, f (ByteArray.mk #[9, 10, 13, 32]) (c.toNat : Int) = some n ∧ decide (n ≥ 0) = El.blank c) (l : Bs) (hl : l.length ≤ 1000000000) (x0 : ByteArray) (x1 : Int) (K : Nat) : ∀ (k i : Nat), i ≤ l.length → l.length < i + k →
    zF.L59_2 K f k (x0, x1, tb l, fr, (i : Int), c3, c4, c5, c6, c7, c8) = some (x0, x1, tb l, fr, ((i + ((l.drop i).takeWhile El.blank).length : Nat) : Int), c3, c4, c5, c6, c7, c8)
  | 0, i, hi, hk => by omega
  | k + 1, i, hi, hk => by
    simp only [zF.L59_2, zF.L59_2.S]
    by_cases h : i < l.length
    · obtain ⟨n, h1, h2⟩ := hf (l.getD i 0)
      simp only [dec_sz h, cond_true, in_sz h, byteAt_bl, bl_tb, h1, Option.bind_some, h2, wr1 h (by omega)]
      rw [tw_cons El.blank h]
      cases El.blank (l.getD i 0) with
      | true => simp only [cond_true]; rw [blank_loop hf l hl x0 x1 K k (i + 1) (by omega) (by omega)]; simp only [List.length_cons, add1]
      | false => rfl
    · simp only [dec_nsz (show l.length ≤ i by omega), cond_false]
      rw [List.drop_eq_nil_of_le (by omega)]; simp
theorem name_loop {f41 : Bool → Option (Unit ⊕ Unit)} {f47 : ByteArray → Option Bool} {f : Int → Bool → Option Bool} (hf : ∀ (c : UInt8) b, f (c.toNat : Int) b = some (parts b c)) (l : Bs) (hl : l.length ≤ 1000000000) (x0 : ByteArray) (x1 : Int) (K : Nat) : ∀ (k i : Nat), i ≤ l.length → l.length < i + k →
    zG.L59_2 K f41 f47 f k (x0, x1, tb l, fr, (i : Int), c3, c4, c5, c6, c7, c8) = some (x0, x1, tb l, fr, ((i + ((l.drop i).takeWhile El.part).length : Nat) : Int), c3, c4, c5, c6, c7, c8)
  | 0, i, hi, hk => by omega
  | k + 1, i, hi, hk => by
    simp only [zG.L59_2, zG.L59_2.S]
    by_cases h : i < l.length
    · simp only [dec_sz h, cond_true, in_sz h, byteAt_bl, bl_tb, hf, Option.bind_some, parts, cond_false, wr1 h (by omega)]
      rw [tw_cons El.part h]
      cases El.part (l.getD i 0) with
      | true => simp only [cond_true]; rw [name_loop hf l hl x0 x1 K k (i + 1) (by omega) (by omega)]; simp only [List.length_cons, add1]
      | false => rfl
    · simp only [dec_nsz (show l.length ≤ i by omega), cond_false]
      rw [List.drop_eq_nil_of_le (by omega)]; simp
theorem value_loop {f41 : Bool → Option (Unit ⊕ Unit)} {f85 : ByteArray → Option (ByteArray ⊕ Unit)} {f54 f78 : ByteArray × Dc → Option (Bool × Dc)} (q : UInt8) (l : Bs) (hl : l.length ≤ 1000000000) (x0 : ByteArray) (x1 : Int) (K : Nat) : ∀ (k i : Nat), i ≤ l.length → l.length < i + k →
    zE.L59_2 K f41 f85 f54 f78 k (x0, x1, tb l, fr, (i : Int), c3, c4, c5, c6, c7, c8, (q.toNat : Int)) = some (x0, x1, tb l, fr, ((i + ((l.drop i).takeWhile fun c => !(c == q) && !(c == 60)).length : Nat) : Int), c3, c4, c5, c6, c7, c8, (q.toNat : Int))
  | 0, i, hi, hk => by omega
  | k + 1, i, hi, hk => by
    simp only [zE.L59_2, zE.L59_2.S]
    by_cases h : i < l.length
    · have e1 : (((l.getD i 0).toNat : Int) == (q.toNat : Int)) = (l.getD i 0 == q) := by rw [beq_cast, Bool.eq_iff_iff, beq_iff_eq, beq_iff_eq]; exact UInt8.toNat_inj
      have e2 : (((l.getD i 0).toNat : Int) == 60) = (l.getD i 0 == 60) := by
        have : (((l.getD i 0).toNat : Int) == (((60 : UInt8).toNat : Nat) : Int)) = (l.getD i 0 == 60) := by rw [beq_cast, Bool.eq_iff_iff, beq_iff_eq, beq_iff_eq]; exact UInt8.toNat_inj
        exact this
      simp only [dec_sz h, cond_true, in_sz h, byteAt_bl, bl_tb, e1, e2, wr1 h (by omega)]
      rw [tw_cons (fun c => !(c == q) && !(c == 60)) h]
      cases l.getD i 0 == q with
      | true => simp
      | false =>
        cases l.getD i 0 == 60 with
        | true => simp
        | false => simp only [Bool.not_false, cond_true, Bool.and_true]; rw [value_loop q l hl x0 x1 K k (i + 1) (by omega) (by omega)]; simp only [List.length_cons, add1]
    · simp only [dec_nsz (show l.length ≤ i by omega), cond_false]
      rw [List.drop_eq_nil_of_le (by omega)]; simp
theorem indexByte_blank (c : UInt8) : ∃ n : Int, strings_IndexByte.f (ByteArray.mk #[9, 10, 13, 32]) (c.toNat : Int) = some n ∧ decide (n ≥ 0) = El.blank c := by
  refine ⟨_, rfl, ?_⟩
  revert c
  refine u8_all ?_
  decide +kernel
theorem tw_le (p : UInt8 → Bool) (l : Bs) (i : Nat) (hi : i ≤ l.length) : i + ((l.drop i).takeWhile p).length ≤ l.length := by
  have := (List.takeWhile_prefix p (l := l.drop i)).length_le
  rw [List.length_drop] at this; omega
theorem take_tw (p : UInt8 → Bool) : ∀ l : Bs, l.take (l.takeWhile p).length = l.takeWhile p
  | [] => rfl
  | c :: l => by
    cases h : p c with
    | true => rw [List.takeWhile_cons_of_pos h, List.length_cons, List.take_succ_cons, take_tw p l]
    | false => rw [List.takeWhile_cons_of_neg (by rw [h]; exact Bool.false_ne_true)]; rfl
theorem drop_tw' (p : UInt8 → Bool) : ∀ l : Bs, l.drop (l.takeWhile p).length = l.dropWhile p
  | [] => rfl
  | c :: l => by
    cases h : p c with
    | true => rw [List.takeWhile_cons_of_pos h, List.dropWhile_cons_of_pos h, List.length_cons, List.drop_succ_cons, drop_tw' p l]
    | false => rw [List.takeWhile_cons_of_neg (by rw [h]; exact Bool.false_ne_true), List.dropWhile_cons_of_neg (by rw [h]; exact Bool.false_ne_true)]; rfl
theorem ex_tw (p : UInt8 → Bool) (l : Bs) (i : Nat) (hi : i ≤ l.length) : (tb l).extract i (i + ((l.drop i).takeWhile p).length) = tb ((l.drop i).takeWhile p) := by
  rw [tb_extract, Nat.add_sub_cancel_left]
  exact congrArg tb (take_tw p (l.drop i))
theorem drop_tw (p : UInt8 → Bool) (l : Bs) (i : Nat) : (l.drop i).dropWhile p = l.drop (i + ((l.drop i).takeWhile p).length) := by
  rw [← List.drop_drop]
  exact (drop_tw' p (l.drop i)).symm
theorem rblank_eq (k : Nat) (l : Bs) (i : Nat) (hi : i ≤ l.length) (hl : l.length ≤ 1000000000) (hk : l.length < k) : zF.f k (tb l, fr, (i : Int), c3, c4, c5, c6, c7, c8) =
    some (!((l.drop i).takeWhile El.blank).isEmpty, tb l, fr, ((i + ((l.drop i).takeWhile El.blank).length : Nat) : Int), c3, c4, c5, c6, c7, c8) := by
  show zF.t k _ _ _ _ _ _ _ _ _ _ = _
  unfold zF.t
  dsimp only
  rw [blank_loop fr c3 c4 c5 c6 c7 c8 indexByte_blank l hl (ByteArray.mk #[]) (i : Int) k k i hi (by omega)]
  have h1 := tw_le El.blank l i hi
  simp only [Option.bind_some, Prod.q1, Prod.q2, Prod.q3, Prod.q4, Prod.q5, Prod.q6, Prod.q7, Prod.q8, Prod.q9, Prod.r10, size_tb]
  rw [if_pos (by omega), if_pos (by omega)]
  simp only [Int.toNat_natCast, ex_tw El.blank l i hi, emptyB]
theorem rname_eq (k : Nat) (l : Bs) (i : Nat) (hi : i ≤ l.length) (hl : l.length ≤ 1000000000) (hk : l.length < k) : ∃ z : Dc, z.2.1 = fr ∧ zG.f k (tb l, fr, (i : Int), c3, c4, c5, c6, c7, c8) =
    some (match rdName (l.drop i) with | some (n, r) => .inl (tb n, tb l, fr, ((l.length - r.length : Nat) : Int), c3, c4, c5, c6, c7, c8) | none => .inr z) := by
  show ∃ z : Dc, z.2.1 = fr ∧ zG.t k _ _ _ _ _ _ _ _ _ _ _ _ = _
  unfold zG.t
  dsimp only
  rw [name_loop fr c3 c4 c5 c6 c7 c8 (elem_part_eq k) l hl (ByteArray.mk #[]) (i : Int) k k i hi (by omega)]
  have h1 := tw_le El.part l i hi
  simp only [Option.bind_some, Prod.q1, Prod.q2, Prod.q3, Prod.q4, Prod.q5, Prod.q6, Prod.q7, Prod.q8, Prod.q9, Prod.r10, size_tb]
  rw [if_pos (by omega), if_pos (by omega)]
  simp only [Int.toNat_natCast, ex_tw El.part l i hi]
  rw [elem_name_eq k _ (by rw [size_tb]; omega) (by rw [size_tb]; omega), bl_tb]
  simp only [Option.bind_some, must_eq]
  refine ⟨(tb l, fr, ((i + ((l.drop i).takeWhile El.part).length : Nat) : Int), c3, c4, c5, c6, c7, c8), rfl, ?_⟩
  unfold rdName
  cases hn : El.name ((l.drop i).takeWhile El.part) with
  | false => rfl
  | true =>
    have hd := drop_tw El.part l i
    simp only [cond_true, if_true, Option.bind_some, Sum.elim_inl]
    have : l.length - ((l.drop i).dropWhile El.part).length = i + ((l.drop i).takeWhile El.part).length := by rw [hd, List.length_drop]; omega
    rw [this]
end
end Go.Proofs.YtphlamnaaogmaaaGreatDoor.M

namespace Go.Proofs.YtphlamnaaogmaaaGreatDoor.M
open Go Go.RowKit Go.Proofs Go.Proofs.Qx Go.Proofs.El
set_option linter.unusedVariables false
set_option linter.unusedSimpArgs false

def moreL : Option Bs → Nat
  | none => 0
  | some x => x.length + 1
theorem meantS_le : ∀ (l : Bs) (s : Option Bs) (t : Bs), meantS s l = some t → t.length ≤ l.length + moreL s
  | [], none, t, h => by cases h; simp
  | [], some x, t, h => by cases h
  | c :: l, none, t, h => by
    unfold meantS at h
    split at h
    · have := meantS_le l _ _ h
      simp [moreL] at this ⊢; omega
    · rw [Option.map_eq_some_iff] at h
      obtain ⟨u, hu, e⟩ := h
      have := meantS_le l _ _ hu
      subst e
      simp [moreL] at this ⊢; omega
  | c :: l, some x, t, h => by
    unfold meantS at h
    split at h
    · rw [Option.bind_eq_some_iff] at h
      obtain ⟨e, he, h⟩ := h
      rw [Option.map_eq_some_iff] at h
      obtain ⟨u, hu, e'⟩ := h
      have h1 := meantS_le l _ _ hu
      have h2 := entity_len he
      subst e'
      simp [moreL] at h1 h2 ⊢; omega
    · have := meantS_le l _ _ h
      simp [moreL] at this ⊢; omega
theorem meant_le {l t : Bs} (h : meant l = some t) : t.length ≤ l.length := by
  unfold meant at h
  rw [Option.bind_eq_some_iff] at h
  obtain ⟨u, hu, h⟩ := h
  split at h
  · cases h; exact meantS_le l none _ hu
  · cases h
theorem read_eq (k : Nat) (l : Bs) (hk : l.length + 6 < k) (hl : l.length ≤ 1000000000) : zX.f k (tb l) = some (signS (meant l)) :=
  elem_read_eq k l hk hl fun t ht => by have := meantS_le l none t ht; simp [moreL] at this; omega

def notQ (q : UInt8) (c : UInt8) : Bool := !(c == q) && !(c == 60)
def rdVal : Bs → Option (Bs × Bs)
  | q :: l => if q == 34 || q == 39 then match l.dropWhile (notQ q) with
      | c :: r => if c == q then (meant (l.takeWhile (notQ q))).map fun v => (v, r) else none
      | [] => none
    else none
  | [] => none
theorem rdAttr_val (l : Bs) : rdAttr l = (rdName l).bind fun x => match blanks x.2 with
    | 61 :: l => (rdVal (blanks l)).map fun y => ((x.1, y.1), y.2)
    | _ => none := by
  unfold rdAttr
  congr 1
  funext x
  split
  · rename_i m e
    simp only [e]
    cases blanks m with
    | nil => rfl
    | cons q l =>
      simp only [rdVal]
      split
      · rename_i hq
        change _ = Option.map _ (match l.dropWhile (fun c => !(c == q) && !(c == 60)) with | c :: r => if c == q then (meant (l.takeWhile (notQ q))).map fun v => (v, r) else none | [] => none)
        cases l.dropWhile (fun c => !(c == q) && !(c == 60)) with
        | nil => rfl
        | cons c r =>
          dsimp only
          split
          · rw [Option.map_map]; rfl
          · rfl
      · rfl
  · rename_i hne
    split
    · rename_i e; exact (hne _ e).elim
    · rfl

section
variable (fr : Int) (c3 : ByteArray) (c4 : List (List D)) (c5 : ByteArray) (c6 : List (List D)) (c7 : Bool) (c8 : List (List D))
theorem enc_q {q : UInt8} (h : q = 34 ∨ q = 39) : Utf8.encode (q.toNat : Int) = tb [q] := by
  rcases h with rfl | rfl
  · exact encode_sign (n := 34) rfl
  · exact encode_sign (n := 39) rfl
theorem in_le_sz {α : Type} {i : Nat} {l : Bs} (h : i ≤ l.length) (x y : Option α) : (if (0 : Int) ≤ (i : Int) ∧ (i : Int) ≤ ((tb l).size : Int) then x else y) = x := if_pos (by rw [size_tb]; omega)
theorem in_le' {α : Type} {i n : Nat} (h : i ≤ n) (x y : Option α) : (if (0 : Int) ≤ (i : Int) ∧ (i : Int) ≤ (n : Int) then x else y) = x := if_pos (by omega)
theorem begins1 (q : UInt8) (l : Bs) : [q].isPrefixOf l = (match l with | [] => false | c :: _ => q == c) := by cases l <;> simp [List.isPrefixOf]
theorem value_eq (k : Nat) (l : Bs) (i : Nat) (hi : i ≤ l.length) (hl : l.length ≤ 1000000000) (hk : l.length + 6 < k) : ∃ z : Dc, z.2.1 = fr ∧ zE.f k (tb l, fr, (i : Int), c3, c4, c5, c6, c7, c8) =
    some (match rdVal (l.drop i) with | some (v, r) => .inr (tb v, tb l, fr, ((l.length - r.length : Nat) : Int), c3, c4, c5, c6, c7, c8) | none => .inl z) := by
  show ∃ z : Dc, z.2.1 = fr ∧ zE.t k _ _ _ _ _ _ _ _ _ _ _ _ _ = _
  unfold zE.t
  dsimp only
  have b1 := begins_eq fr c3 c4 c5 c6 c7 c8 k [34] l i hi
  have b2 := begins_eq fr c3 c4 c5 c6 c7 c8 k [39] l i hi
  rw [show ByteArray.mk #[34] = tb [34] from rfl, show ByteArray.mk #[39] = tb [39] from rfl, b1]
  simp only [Option.bind_some, Prod.q1, Prod.q2, Prod.q3, Prod.q4, Prod.q5, Prod.q6, Prod.q7, Prod.q8, Prod.r9]
  rw [b2]
  simp only [Option.bind_some, begins1]
  by_cases hlt : i < l.length
  · rw [drop_cons hlt]
    simp only []
    have blk : ∀ q : UInt8, (q = 34 ∨ q = 39) → l.getD i 0 = q → (rdVal (q :: l.drop (i + 1)) = match (l.drop (i + 1)).dropWhile (notQ q) with | c :: r => if c == q then (meant ((l.drop (i + 1)).takeWhile (notQ q))).map fun v => (v, r) else none | [] => none) := by
      rintro q (rfl | rfl) _ <;> rfl
    have go : ∀ q : UInt8, (q = 34 ∨ q = 39) → l.getD i 0 = q → ∃ z : Dc, z.2.1 = fr ∧ (if (0 : Int) ≤ (i : Int) ∧ (i : Int) < ((tb l).size : Int) then
        (zE.L59_2 k (z8.f k) (zX.f k) (zN.f k) (zO.f k) k (ByteArray.mk #[], IntKind.i64.wrap ((i : Int) + 1), tb l, fr, IntKind.i64.wrap ((i : Int) + 1), c3, c4, c5, c6, c7, c8, byteAt (tb l) (i : Int))).bind fun v16 => if (0 : Int) ≤ v16.q4 ∧ v16.q4 ≤ (↑v16.snd.snd.fst.size : Int) then if (0 : Int) ≤ v16.q1 ∧ v16.q1 ≤ v16.q4 then (zN.f k (Utf8.encode v16.r11, v16.q2, v16.q3, v16.q4, v16.q5, v16.q6, v16.q7, v16.q8, v16.q9, v16.q10)).bind fun v17 => (z8.f k v17.fst).bind fun v18 => Sum.elim (fun v19 => (zX.f k (v16.snd.snd.fst.extract v16.snd.fst.toNat v16.snd.snd.snd.snd.fst.toNat)).bind fun v20 => Sum.elim (fun v21 => some (Sum.inr (v21, v17.q1, v17.q2, v17.q3, v17.q4, v17.q5, v17.q6, v17.q7, v17.q8, v17.r9))) (fun v22 => some (Sum.inl (v17.q1, v17.q2, v17.q3, v17.q4, v17.q5, v17.q6, v17.q7, v17.q8, v17.r9))) v20) (fun v23 => some (Sum.inl (v17.q1, v17.q2, v17.q3, v17.q4, v17.q5, v17.q6, v17.q7, v17.q8, v17.r9))) v18 else none else none else none) =
        some (match rdVal (q :: l.drop (i + 1)) with | some (v, r) => Sum.inr (tb v, tb l, fr, ((l.length - r.length : Nat) : Int), c3, c4, c5, c6, c7, c8) | none => Sum.inl z) := by
      intro q hq he
      have t1 := tw_le (notQ q) l (i + 1) (by omega)
      have hw := value_loop fr c3 c4 c5 c6 c7 c8 (f41 := z8.f k) (f85 := zX.f k) (f54 := zN.f k) (f78 := zO.f k) q l hl (ByteArray.mk #[]) ((i + 1 : Nat) : Int) k k (i + 1) (by omega) (by omega)
      rw [in_sz hlt, wr1 hlt (by omega), byteAt_bl, bl_tb, he, hw]
      change ∃ z : Dc, z.2.1 = fr ∧ Option.bind (some (ByteArray.mk #[], ((i + 1 : Nat) : Int), tb l, fr, ((i + 1 + ((l.drop (i + 1)).takeWhile (notQ q)).length : Nat) : Int), c3, c4, c5, c6, c7, c8, (q.toNat : Int))) _ = _
      simp only [Option.bind_some, Prod.q1, Prod.q2, Prod.q3, Prod.q4, Prod.q5, Prod.q6, Prod.q7, Prod.q8, Prod.q9, Prod.q10, Prod.r11, in_le_sz t1, in_le' (Nat.le_add_right (i + 1) _), enc_q hq]
      rw [has_eq fr c3 c4 c5 c6 c7 c8 k [q] l _ t1 hl (by simp)]
      rw [blk q hq he, ← drop_tw]
      simp only [begins1, Int.toNat_natCast, ex_tw (notQ q) l (i + 1) (by omega)]
      cases hd : (l.drop (i + 1)).dropWhile (notQ q) with
      | nil =>
        simp only [cond_false, Option.bind_some, must_eq, Sum.elim_inr]
        exact ⟨_, rfl, rfl⟩
      | cons c r =>
        simp only []
        rw [show (q == c) = (c == q) by rw [Bool.eq_iff_iff, beq_iff_eq, beq_iff_eq]; exact eq_comm]
        cases c == q with
        | false =>
          simp only [cond_false, Option.bind_some, must_eq, Sum.elim_inr]
          exact ⟨_, rfl, rfl⟩
        | true =>
          have hz := drop_tw (notQ q) l (i + 1)
          rw [hd] at hz
          have hz' := congrArg List.length hz
          rw [List.length_cons, List.length_drop] at hz'
          simp only [cond_true, Option.bind_some, must_eq, Sum.elim_inl, Prod.q1, Prod.q2, Prod.q3, Prod.q4, Prod.q5, Prod.q6, Prod.q7, Prod.q8, Prod.r9, if_true]
          have hm : ((l.drop (i + 1)).takeWhile (notQ q)).length ≤ l.length := by omega
          rw [read_eq k _ (by omega) (by omega)]
          cases meant ((l.drop (i + 1)).takeWhile (notQ q)) with
          | none => exact ⟨_, rfl, rfl⟩
          | some v =>
            refine ⟨(tb l, fr, 0, c3, c4, c5, c6, c7, c8), rfl, ?_⟩
            simp only [signS, Option.bind_some, Sum.elim_inl, Option.map_some]
            rw [show i + 1 + ((l.drop (i + 1)).takeWhile (notQ q)).length + [q].length = l.length - r.length by simp only [List.length_cons, List.length_nil]; omega]
    cases h34 : (34 == l.getD i 0) with
    | true =>
      have e := (eq_of_beq h34).symm
      obtain ⟨z, hz, hg⟩ := go 34 (.inl rfl) e
      refine ⟨z, hz, ?_⟩
      rw [e, ← hg]
      simp only [cond_true, must_eq, Option.bind_some, Sum.elim_inl]
    | false =>
      cases h39 : (39 == l.getD i 0) with
      | true =>
        have e := (eq_of_beq h39).symm
        obtain ⟨z, hz, hg⟩ := go 39 (.inr rfl) e
        refine ⟨z, hz, ?_⟩
        rw [e, ← hg]
        simp only [cond_true, cond_false, must_eq, Option.bind_some, Sum.elim_inl]
      | false =>
        refine ⟨(tb l, fr, (i : Int), c3, c4, c5, c6, c7, c8), rfl, ?_⟩
        have q1 : (l.getD i 0 == 34) = false := by rw [← h34, Bool.eq_iff_iff, beq_iff_eq, beq_iff_eq]; exact eq_comm
        have q2 : (l.getD i 0 == 39) = false := by rw [← h39, Bool.eq_iff_iff, beq_iff_eq, beq_iff_eq]; exact eq_comm
        simp only [cond_false, must_eq, Option.bind_some, Sum.elim_inr, rdVal, q1, q2, Bool.or_false, Bool.false_eq_true, if_false]
  · refine ⟨(tb l, fr, (i : Int), c3, c4, c5, c6, c7, c8), rfl, ?_⟩
    rw [List.drop_eq_nil_of_le (by omega)]
    simp only [cond_false, must_eq, Option.bind_some, Sum.elim_inr, rdVal]
end
end Go.Proofs.YtphlamnaaogmaaaGreatDoor.M

namespace Go.Proofs.YtphlamnaaogmaaaGreatDoor.M
open Go Go.RowKit Go.Proofs Go.Proofs.Qx Go.Proofs.El
set_option linter.unusedVariables false
set_option linter.unusedSimpArgs false

def rootC : Option El → ByteArray × List (List D) × ByteArray × List (List D)
  | none => (ByteArray.mk #[], [], ByteArray.mk #[], [])
  | some e => (tb e.name, e.attrs.map encA, tb e.text, rows e.kids)
def dc (l : Bs) (fr : Int) (i : Nat) (x : St) : Dc := (tb l, fr, (i : Int), (rootC x.root).1, (rootC x.root).2.1, (rootC x.root).2.2.1, (rootC x.root).2.2.2, x.root.isSome, rows x.st.reverse)
def wtO : Option El → Nat
  | none => 0
  | some e => wt e
structure Inv (n : Nat) (x : St) : Prop where
  len : x.st.length ≤ 40
  wt : wts x.st + wtO x.root ≤ n
  root : x.root.isSome = true → x.st = []

theorem dropWhile_isEmpty (p : UInt8 → Bool) : ∀ l : Bs, (l.dropWhile p).isEmpty = l.all p
  | [] => rfl
  | c :: l => by
    cases h : p c with
    | true => rw [List.dropWhile_cons_of_pos h, dropWhile_isEmpty p l, List.all_cons, h, Bool.true_and]
    | false => rw [List.dropWhile_cons_of_neg (by rw [h]; exact Bool.false_ne_true), List.all_cons, h]; rfl
theorem dropWhile_all' (p : UInt8 → Bool) : ∀ l : Bs, (l.dropWhile p).all p = (l.dropWhile p).isEmpty
  | [] => rfl
  | c :: l => by
    cases h : p c with
    | true => rw [List.dropWhile_cons_of_pos h, dropWhile_all' p l]
    | false => rw [List.dropWhile_cons_of_neg (by rw [h]; exact Bool.false_ne_true), List.all_cons, h]; rfl
theorem trim_isEmpty (l cs : Bs) : (Lib.trimS l cs).isEmpty = l.all (cs.contains ·) := by
  unfold Lib.trimS Lib.trimLeftS Lib.trimRightS
  rw [dropWhile_isEmpty, List.all_reverse, dropWhile_all', dropWhile_isEmpty, List.all_reverse]
theorem blank_cs (c : UInt8) : ([9, 10, 13, 32] : Bs).contains c = El.blank c := by
  revert c
  refine u8_all ?_
  decide +kernel
theorem trim_blank (l : Bs) (h : l.length ≤ 1000000000) : ∃ t : Bs, strings_Trim.f (tb l) (ByteArray.mk #[9, 10, 13, 32]) = some (tb t) ∧ t.isEmpty = l.all El.blank := by
  unfold strings_Trim.f
  rw [if_pos ⟨by rw [size_tb]; exact h, by decide, by decide⟩]
  refine ⟨Lib.trimS l [9, 10, 13, 32], rfl, ?_⟩
  rw [trim_isEmpty]
  congr 1
  funext c
  exact blank_cs c
theorem rows_last (s : List El) (e : El) : rows (e :: s).reverse = rows s.reverse ++ [row e] := by
  rw [List.reverse_cons, rows_app]; rfl
theorem atL (R : List (List D)) (r : List D) (j : Nat) : D.at (R ++ [r]) R.length j = r.getD j (.int 0) := by
  simp [D.at, List.getD_eq_getElem?_getD]
theorem setL (R : List (List D)) (r r' : List D) : (R ++ [r]).set R.length r' = R ++ [r'] := by simp
theorem takeL (R : List (List D)) (r : List D) : (R ++ [r]).take R.length = R := by simp
theorem wrL {n : Nat} (h : n ≤ 1000000000) : IntKind.i64.wrap (((n + 1 : Nat) : Int) - 1) = (n : Int) := by rw [wrI (by omega) (by omega)]; omega
theorem lenL (R : List (List D)) (r : List D) : (R ++ [r]).length = R.length + 1 := by simp
theorem rowsR (s : List El) : (rows s.reverse).length = s.length := by rw [rows_len, List.length_reverse]
theorem natLen' (n : Nat) : decide (((n : Nat) : Int) > 0) = decide (0 < n) := by simp

theorem texts_eq (k : Nat) (s l : Bs) (fr : Int) (i n : Nat) (x : St) (hx : Inv n x) (hk : s.length + 6 < k) (hs : s.length + n ≤ 1000000000) : zK.f k (tb s, dc l fr i x) =
    some (match texts x s with | some y => .inl (dc l fr i y) | none => .inr (dc l fr i x)) := by
  show zK.t k _ _ _ (tb s) _ _ _ _ _ _ _ _ _ = _
  unfold zK.t
  dsimp only [dc]
  rw [read_eq k s hk (by omega)]
  unfold texts
  cases hm : meant s with
  | none => rfl
  | some t =>
    have hml := meant_le hm
    obtain ⟨tr, h1, h2⟩ := trim_blank t (by omega)
    simp only [signS, Option.bind_some, Sum.elim_inl, h1, must_eq, emptyB, h2]
    rcases x with ⟨st, root⟩
    cases st with
    | nil =>
      simp only [List.reverse_nil, rows, List.length_nil]
      cases t.all El.blank <;> rfl
    | cons e s' =>
      obtain ⟨nm, at', u, kk⟩ := e
      have hlen := hx.len
      have hw := hx.wt
      simp only [List.length_cons, wts, wt] at hlen hw
      have hr : s'.length < s'.length + 1 := Nat.lt_succ_self _
      have hne : ((((s'.length + 1 : Nat)) : Int) == 0) = false := by simp; omega
      simp only [rows_last, lenL, rowsR, wrL (show s'.length ≤ 1000000000 by omega), in_lt hr, hne, cond_false, Int.toNat_natCast]
      rw [← rowsR s']
      simp only [atL, setL, row, List.getD_cons_zero, List.getD_cons_succ, D.toStr, D.toSeq, rows_len kk, size_tb, tb_append]
      rw [no_over (by omega)]
      cases kk with
      | nil =>
        simp only [List.length_nil, Int.natCast_zero, gt_iff_lt, Int.lt_irrefl, decide_false, cond_false, rows_last, row]
      | cons k1 kk =>
        rw [show decide ((((k1 :: kk).length : Nat) : Int) > 0) = true by simp]
        simp only [cond_true]
        cases t.all El.blank <;> simp only [cond_true, cond_false, Sum.elim_inl, Sum.elim_inr, if_true, Bool.false_eq_true, if_false, rows_last, row]
end Go.Proofs.YtphlamnaaogmaaaGreatDoor.M

namespace Go.Proofs.YtphlamnaaogmaaaGreatDoor.M
open Go Go.RowKit Go.Proofs Go.Proofs.Qx Go.Proofs.El
set_option linter.unusedVariables false
set_option linter.unusedSimpArgs false

theorem posE {l : Bs} {j : Nat} (h : j ≤ l.length) : l.length - (l.drop j).length = j := by rw [List.length_drop]; omega
theorem rdName_pos {l : Bs} {i : Nat} {n r : Bs} (hi : i ≤ l.length) (h : rdName (l.drop i) = some (n, r)) : ∃ j, i + n.length = j ∧ j ≤ l.length ∧ r = l.drop j := by
  obtain ⟨e, _⟩ := rdName_some h
  have e' := congrArg List.length e
  rw [List.length_drop, List.length_append] at e'
  refine ⟨i + n.length, rfl, by omega, ?_⟩
  rw [← List.drop_drop, e]; simp
theorem starts_drop (sg l : Bs) (j : Nat) : starts sg (l.drop j) = bif sg.isPrefixOf (l.drop j) then some (l.drop (j + sg.length)) else none := by
  unfold starts
  rw [List.drop_drop]
  cases sg.isPrefixOf (l.drop j) <;> rfl
theorem blanks_drop (l : Bs) (i : Nat) : blanks (l.drop i) = l.drop (i + ((l.drop i).takeWhile El.blank).length) := drop_tw El.blank l i
theorem isPrefix_le {sg l : Bs} {j : Nat} (hj : j ≤ l.length) (h : sg.isPrefixOf (l.drop j) = true) : j + sg.length ≤ l.length := by
  have := (List.isPrefixOf_iff_prefix.1 h).length_le
  rw [List.length_drop] at this; omega
theorem sz27 : szT Tryz.prog (27 : Nat) = some (4 : Nat) := by kernel_rfl
theorem appE (R : List (List D)) (r : List D) : (R ++ [r]).isEmpty = false := by simp
theorem end_eq (k : Nat) (l : Bs) (fr : Int) (i n : Nat) (x : St) (hx : Inv n x) (hn : n ≤ 1000000000) (hi : i ≤ l.length) (hl : l.length ≤ 1000000000) (hk : l.length < k) : ∃ z : Dc, z.2.1 = fr ∧ zP.f k (dc l fr i x) =
    some (match ending x (l.drop i) with | some (y, r) => .inl (dc l fr (l.length - r.length) y) | none => .inr z) := by
  show ∃ z : Dc, z.2.1 = fr ∧ zP.t k _ _ _ _ _ _ _ _ _ _ _ _ _ = _
  unfold zP.t
  dsimp only [dc]
  obtain ⟨z, hz, hnm⟩ := rname_eq fr (rootC x.root).1 (rootC x.root).2.1 (rootC x.root).2.2.1 (rootC x.root).2.2.2 x.root.isSome (rows x.st.reverse) k l i hi hl hk
  rw [hnm]
  unfold ending
  cases hr : rdName (l.drop i) with
  | none => exact ⟨z, hz, rfl⟩
  | some nr =>
    obtain ⟨nm, r⟩ := nr
    obtain ⟨j, hj1, hj2, rfl⟩ := rdName_pos hi hr
    have hb := rblank_eq fr (rootC x.root).1 (rootC x.root).2.1 (rootC x.root).2.2.1 (rootC x.root).2.2.2 x.root.isSome (rows x.st.reverse) k l j hj2 hl hk
    have hj3 := tw_le El.blank l j hj2
    have hh := has_eq fr (rootC x.root).1 (rootC x.root).2.1 (rootC x.root).2.2.1 (rootC x.root).2.2.2 x.root.isSome (rows x.st.reverse) k [62] l _ hj3 hl (by simp)
    simp only [Option.bind_some, Sum.elim_inl, Prod.q1, Prod.q2, Prod.q3, Prod.q4, Prod.q5, Prod.q6, Prod.q7, Prod.q8, Prod.r9, posE hj2, hb]
    rw [show ByteArray.mk #[62] = tb [62] from rfl, hh]
    rw [blanks_drop, starts_drop]
    generalize j + ((l.drop j).takeWhile El.blank).length = j' at *
    cases hp : [62].isPrefixOf (l.drop j') with
    | false =>
      simp only [cond_false, Option.bind_some, must_eq, Sum.elim_inr]
      refine ⟨dc l fr j' x, rfl, ?_⟩
      rcases x with ⟨st, root⟩
      cases st with
      | nil => rfl
      | cons e s => dsimp only; cases e.name == nm <;> rfl
    | true =>
      have hj4 := isPrefix_le hj3 hp
      simp only [cond_true, Option.bind_some, must_eq, Option.map_some]
      rcases x with ⟨st, root⟩
      cases st with
      | nil => exact ⟨dc l fr (j' + 1) ⟨[], root⟩, rfl, rfl⟩
      | cons e s =>
        obtain ⟨en, ea, et, ek⟩ := e
        have hlen := hx.len
        have hw := hx.wt
        simp only [List.length_cons, wts, wt] at hlen hw
        have hroot : root = none := by
          cases root with
          | none => rfl
          | some e => exact absurd (hx.root rfl) (by simp)
        subst hroot
        have hr' : s.length < s.length + 1 := Nat.lt_succ_self _
        have hkl := wts_len ek
        simp only [rows_last, lenL, rowsR, wrL (show s.length ≤ 1000000000 by omega), in_lt hr', natLen', decide_eq_true (Nat.succ_pos s.length), cond_true, Int.toNat_natCast]
        rw [← rowsR s]
        simp only [atL, row, List.getD_cons_zero, D.toStr, tbEq, El.El.name]
        rcases Bool.eq_false_or_eq_true (en == nm) with hnn | hnn <;> simp only [hnn]
        case inr => exact ⟨dc l fr (j' + 1) ⟨.mk en ea et ek :: s, none⟩, rfl, by simp only [dc, rows_last]; rfl⟩
        case inl =>
          refine ⟨dc l fr (j' + 1) ⟨.mk en ea et ek :: s, none⟩, rfl, ?_⟩
          have hb1 : (rows s.reverse).length ≤ 1000000000 := by rw [rowsR]; omega
          have hr2 : (rows s.reverse).length < (rows s.reverse).length + 1 := Nat.lt_succ_self _
          simp only [cond_true, Sum.elim_inl, if_true, posE hj4, zP.t.J3, lenL, wrL hb1, in_lt hr2, Int.toNat_natCast, Prod.q1, Prod.q2, Prod.q3, Prod.q4, Prod.q5, Prod.q6, Prod.q7, Prod.q8, Prod.r9, takeL, atL, List.getD_cons_zero, List.getD_cons_succ, D.toStr, D.toSeq]
          rw [if_pos ⟨trivial, trivial, sz27, by omega, by omega⟩]
          cases s with
          | nil => rfl
          | cons f s' =>
            obtain ⟨fn, fa, ft, fk⟩ := f
            simp only [wts, wt] at hw
            have hfk := wts_len fk
            simp only [rows_last, lenL, Nat.add_sub_cancel, atL, setL, row, List.getD_cons_zero, List.getD_cons_succ, D.toStr, D.toSeq, rows_len fk]
            rw [if_pos (by omega)]
            simp only [Option.bind_some, appE, cond_false, put, rows_last, row, rows_app, rows]
end Go.Proofs.YtphlamnaaogmaaaGreatDoor.M

namespace Go.Proofs.YtphlamnaaogmaaaGreatDoor.M
open Go Go.RowKit Go.Proofs Go.Proofs.Qx Go.Proofs.El
set_option linter.unusedVariables false
set_option linter.unusedSimpArgs false

def wA (a : List (Bs × Bs)) : Nat := a.length + (a.map fun x => x.1.length + x.2.length).sum
theorem wA_app (a : List (Bs × Bs)) (x : Bs × Bs) : wA (a ++ [x]) = wA a + 1 + x.1.length + x.2.length := by
  simp [wA]; omega
theorem wA_mem {a : List (Bs × Bs)} {x : Bs × Bs} (h : x ∈ a) : x.1.length + x.2.length ≤ wA a := by
  have := sum_mem (f := fun x : Bs × Bs => x.1.length + x.2.length) h
  unfold wA; omega
theorem rdVal_wt {l v r : Bs} (h : rdVal l = some (v, r)) : v.length + 2 + r.length ≤ l.length := by
  unfold rdVal at h
  split at h
  · rename_i q m
    split at h
    · split at h
      · rename_i c r' e4
        have b4 := congrArg List.length (List.takeWhile_append_dropWhile (p := notQ q) (l := m))
        rw [e4, List.length_append, List.length_cons] at b4
        split at h
        · rw [Option.map_eq_some_iff] at h
          obtain ⟨u, hu, e⟩ := h
          cases e
          have := meant_le hu
          simp; omega
        · cases h
      · cases h
    · cases h
  · cases h
theorem rdVal_suf {l v r : Bs} (h : rdVal l = some (v, r)) : ∃ p, l = p ++ r := by
  unfold rdVal at h
  split at h
  · rename_i q m
    split at h
    · split at h
      · rename_i c r' e4
        have b4 := List.takeWhile_append_dropWhile (p := notQ q) (l := m)
        rw [e4] at b4
        split at h
        · rw [Option.map_eq_some_iff] at h
          obtain ⟨u, hu, e⟩ := h
          cases e
          exact ⟨q :: m.takeWhile (notQ q) ++ [c], by conv => lhs; rw [← b4]
                                                      simp⟩
        · cases h
      · cases h
    · cases h
  · cases h
theorem rdAttr_wt {l r : Bs} {a : Bs × Bs} (h : rdAttr l = some (a, r)) : a.1.length + a.2.length + 3 + r.length ≤ l.length := by
  rw [rdAttr_val, Option.bind_eq_some_iff] at h
  obtain ⟨⟨n, l1⟩, h1, h⟩ := h
  obtain ⟨rfl, _⟩ := rdName_some h1
  have b1 := blanks_le l1
  dsimp only at h
  split at h
  · rename_i l2 e2
    rw [e2] at b1
    rw [Option.map_eq_some_iff] at h
    obtain ⟨⟨v, r'⟩, h2, e⟩ := h
    cases e
    have b2 := blanks_le l2
    have b3 := rdVal_wt h2
    simp at b1 ⊢
    omega
  · cases h
theorem rdAttrs_wt : ∀ (k : Nat) (acc : List (Bs × Bs)) (l : Bs) {y : List (Bs × Bs) × Bool × Bs}, rdAttrs k acc l = some y → wA y.1 + y.2.2.length + 1 ≤ wA acc + l.length
  | 0, acc, l, y, h => by cases h
  | k + 1, acc, l, y, h => by
    unfold rdAttrs at h
    have b := blanks_le l
    split at h
    · rename_i r hr
      have e := congrArg List.length (starts_some hr)
      rw [List.length_append] at e
      simp only [List.length_cons, List.length_nil] at e
      split at h
      · cases h; simp; omega
      · cases h
    · split at h
      · rename_i r hr
        have e := congrArg List.length (starts_some hr)
        rw [List.length_append] at e
        simp only [List.length_cons, List.length_nil] at e
        split at h
        · cases h; simp; omega
        · cases h
      · split at h
        · cases h
        · rw [Option.bind_eq_some_iff] at h
          obtain ⟨⟨a, r⟩, h1, h⟩ := h
          have e1 := rdAttr_wt h1
          have e2 := rdAttrs_wt k _ _ h
          rw [wA_app] at e2
          simp only at e2
          omega
theorem rdBegin_wt {l : Bs} {y : El × Bool × Bs} (h : rdBegin l = some y) : wt y.1 + y.2.2.length ≤ l.length := by
  unfold rdBegin at h
  rw [Option.bind_eq_some_iff] at h
  obtain ⟨⟨n, l1⟩, h1, h⟩ := h
  obtain ⟨rfl, _⟩ := rdName_some h1
  rw [Option.map_eq_some_iff] at h
  obtain ⟨z, h2, e⟩ := h
  subst e
  have := rdAttrs_wt _ _ _ h2
  simp [wA, wt, wts] at this ⊢
  omega
theorem wts_app : ∀ (l m : List El), wts (l ++ m) = wts l + wts m
  | [], m => by simp [wts]
  | e :: l, m => by simp [wts, wts_app l m]; omega
theorem put_wt (s : List El) (e : El) : wts (put s e).st + wtO (put s e).root = wts s + wt e := by
  cases s with
  | nil => simp [put, wts, wtO]
  | cons f s =>
    obtain ⟨n, a, t, k⟩ := f
    simp [put, wts, wtO, wt, wts_app]
    omega
theorem put_inv {m : Nat} {s : List El} {e : El} (hl : s.length ≤ 40) (hw : wts s + wt e ≤ m) : Inv m (put s e) := by
  refine ⟨?_, by rw [put_wt]; exact hw, ?_⟩
  · cases s with
    | nil => simp [put]
    | cons f s => obtain ⟨n, a, t, k⟩ := f; simpa [put] using hl
  · intro h
    cases s with
    | nil => rfl
    | cons f s => obtain ⟨n, a, t, k⟩ := f; simp [put] at h
theorem ending_inv {n m : Nat} {x y : St} {l r : Bs} (hx : Inv n x) (h : ending x l = some (y, r)) (hm : n ≤ m) : Inv m y := by
  unfold ending at h
  rw [Option.bind_eq_some_iff] at h
  obtain ⟨z, h1, h⟩ := h
  split at h
  · cases h
  · rename_i e s hs
    split at h
    · rw [Option.map_eq_some_iff] at h
      obtain ⟨r', h2, e'⟩ := h
      cases e'
      have h3 := hx.wt
      have h4 := hx.len
      rw [hs] at h3 h4
      simp only [wts, List.length_cons] at h3 h4
      exact put_inv (by omega) (by omega)
    · cases h
theorem texts_inv {n m : Nat} {x y : St} {s : Bs} (hx : Inv n x) (h : texts x s = some y) (hm : n + s.length ≤ m) : Inv m y := by
  unfold texts at h
  rw [Option.bind_eq_some_iff] at h
  obtain ⟨t, h1, h⟩ := h
  have h2 := meant_le h1
  have h3 := hx.wt
  have h4 := hx.len
  have h5 := hx.root
  split at h
  · rename_i nm a u r hs
    cases h
    rw [hs] at h3 h4 h5
    simp only [wts, wt, List.length_cons] at h3 h4
    refine ⟨by simpa using h4, ?_, fun hr => ?_⟩
    · simp only [wts, wt, List.length_append]; omega
    · cases h5 hr
  · split at h
    · cases h; exact ⟨h4, by omega, h5⟩
    · cases h
theorem element_inv {n m : Nat} {x y : St} {l r : Bs} (hx : Inv n x) (h : element x l = some (y, r)) (hm : n + l.length ≤ m + r.length) : Inv m y := by
  unfold element at h
  split at h
  · cases h
  · rename_i hc
    simp only [Bool.or_eq_true, decide_eq_true_eq, not_or] at hc
    rw [Option.bind_eq_some_iff] at h
    obtain ⟨z, h1, h⟩ := h
    have h2 := rdBegin_wt h1
    have h3 := hx.wt
    split at h
    · rename_i nm a t k s hs
      rw [hs] at h3 hc
      simp only [wts, wt, List.length_cons] at h3 hc
      split at h
      · cases h
        split
        · refine ⟨by simp; omega, ?_, fun hr => by cases hr⟩
          simp only [wts, wt, wtO, List.length_nil]; omega
        · refine put_inv (by simp; omega) ?_
          simp only [wts, wt, List.length_nil]; omega
      · cases h
    · cases h
      split
      · refine ⟨by simp, ?_, fun hr => by cases hr⟩
        simp only [wts, wtO]; omega
      · refine put_inv (by simp) ?_
        simp only [wts]; omega
end Go.Proofs.YtphlamnaaogmaaaGreatDoor.M

namespace Go.Proofs.YtphlamnaaogmaaaGreatDoor.M
open Go Go.RowKit Go.Proofs Go.Proofs.Qx Go.Proofs.El
set_option linter.unusedVariables false
set_option linter.unusedSimpArgs false

theorem suf_pos {l r p : Bs} {i : Nat} (hi : i ≤ l.length) (h : l.drop i = p ++ r) : ∃ j, j ≤ l.length ∧ i + p.length = j ∧ r = l.drop j := by
  have e := congrArg List.length h
  rw [List.length_drop, List.length_append] at e
  refine ⟨i + p.length, by omega, rfl, ?_⟩
  rw [← List.drop_drop, h]; simp
def afterEq {α : Type} (f : Bs → Option α) : Bs → Option α
  | [] => none
  | c :: l => bif 61 == c then f l else none
theorem rdAttr_val' (l : Bs) : rdAttr l = (rdName l).bind fun x => afterEq (fun l => (rdVal (blanks l)).map fun y => ((x.1, y.1), y.2)) (blanks x.2) := by
  rw [rdAttr_val]
  congr 1
  funext x
  cases blanks x.2 with
  | nil => rfl
  | cons c m =>
    by_cases h : (61 : UInt8) = c
    · subst h; rfl
    · simp only [afterEq, beq_eq_false_iff_ne.2 h, cond_false]
      split
      · rename_i e; cases e; exact absurd rfl h
      · rfl
section
variable (fr : Int) (c3 : ByteArray) (c4 : List (List D)) (c5 : ByteArray) (c6 : List (List D)) (c7 : Bool) (c8 : List (List D))
theorem attrs_eq {k n : Nat} {a : List (Bs × Bs)} (h : wA a ≤ n) (hn : n ≤ 1000000000) (hk : n < k) : zH.f k (a.map encA) = some (attrsOk a) := by
  have h1 : a.length ≤ n := by unfold wA at h; omega
  refine elem_attrs_eq k a (by omega) (by omega) (fun x hx => ?_) (fun x hx => ?_) <;> · have := wA_mem hx; omega
theorem begin_loop (K : Nat) (l : Bs) (hl : l.length ≤ 1000000000) (hK : l.length + 6 < K) (x0 : Bool) (x10 x11 : ByteArray) : ∀ (k m i : Nat) (acc : List (Bs × Bs)), i ≤ l.length → l.length < i + k → l.length < i + m → wA acc ≤ i →
    ∃ z : ByteArray × Int × Int × ByteArray × List (List D) × ByteArray × List (List D) × Bool × List (List D) × ByteArray × ByteArray, z.2.1 = fr ∧ zC.L83_2 K (z8.f K) (zH.f K) (strings_Trim.f) (zN.f K) (zG.f K) (zF.f K) (zE.f K) k (x0, tb l, fr, (i : Int), c3, c4, c5, c6, c7, c8, x10, x11, acc.map encA) =
      some (match rdAttrs m acc (l.drop i) with
        | some (a, is, r) => .inr (is, tb l, fr, ((l.length - r.length : Nat) : Int), c3, c4, c5, c6, c7, c8, x10, x11, a.map encA)
        | none => .inl z)
  | 0, m, i, acc, hi, hk, hm, hw => by omega
  | k + 1, 0, i, acc, hi, hk, hm, hw => by omega
  | k + 1, m + 1, i, acc, hi, hk, hm, hw => by
    simp only [zC.L83_2, zC.L83_2.S]
    have hb := rblank_eq fr c3 c4 c5 c6 c7 c8 K l i hi hl (by omega)
    have hj := tw_le El.blank l i hi
    have hat := attrs_eq (k := K) (a := acc) hw (by omega) (by omega)
    rw [hb]
    unfold rdAttrs
    rw [blanks_drop]
    have hlen : ∀ (p q : Option (List (Bs × Bs) × Bool × Bs)), (if (l.drop (i + ((l.drop i).takeWhile El.blank).length)).length = (l.drop i).length then p else q) = bif !((l.drop i).takeWhile El.blank).isEmpty then q else p := by
      intro p q
      rw [List.length_drop, List.length_drop]
      cases h : (l.drop i).takeWhile El.blank with
      | nil => simp
      | cons c t => rw [h, List.length_cons] at hj; rw [if_neg (by simp only [List.length_cons]; omega)]; rfl
    rw [hlen]
    generalize (!((l.drop i).takeWhile El.blank).isEmpty) = gb at *
    have hjj := hj
    generalize hjd : i + ((l.drop i).takeWhile El.blank).length = j at *
    have hij : i ≤ j := by omega
    have h1 := has_eq fr c3 c4 c5 c6 c7 c8 K [47, 62] l j hj hl (by simp)
    have h2 := has_eq fr c3 c4 c5 c6 c7 c8 K [62] l j hj hl (by simp)
    rw [show ByteArray.mk #[47, 62] = tb [47, 62] from rfl, show ByteArray.mk #[62] = tb [62] from rfl, show ByteArray.mk #[61] = tb [61] from rfl]
    simp only [Option.bind_some, Prod.q1, Prod.q2, Prod.q3, Prod.q4, Prod.q5, Prod.q6, Prod.q7, Prod.q8, Prod.r9, h1, starts_drop]
    cases hp1 : [47, 62].isPrefixOf (l.drop j) with
    | true =>
      have hj4 := isPrefix_le hj hp1
      simp only [cond_true, hat, Option.bind_some, must_eq]
      refine ⟨(tb l, fr, ((j + 2 : Nat) : Int), c3, c4, c5, c6, c7, c8, x10, x11), rfl, ?_⟩
      cases attrsOk acc with
      | true => simp only [cond_true, Sum.elim_inl, if_true, posE hj4]
      | false => rfl
    | false =>
      simp only [cond_false, h2, Option.bind_some]
      cases hp2 : [62].isPrefixOf (l.drop j) with
      | true =>
        have hj4 := isPrefix_le hj hp2
        simp only [cond_true, hat, Option.bind_some, must_eq]
        refine ⟨(tb l, fr, ((j + 1 : Nat) : Int), c3, c4, c5, c6, c7, c8, x10, x11), rfl, ?_⟩
        cases attrsOk acc with
        | true => simp only [cond_true, Sum.elim_inl, if_true, posE hj4]
        | false => rfl
      | false =>
        simp only [cond_false, must_eq, Option.bind_some]
        cases gb with
        | false => exact ⟨(tb l, fr, (j : Int), c3, c4, c5, c6, c7, c8, x10, x11), rfl, rfl⟩
        | true =>
          simp only [cond_true, Sum.elim_inl]
          obtain ⟨z, hz, hn⟩ := rname_eq fr c3 c4 c5 c6 c7 c8 K l j hj hl (by omega)
          rw [hn, rdAttr_val']
          cases hr : rdName (l.drop j) with
          | none => exact ⟨(z.1, z.2.1, z.2.2.1, z.2.2.2.1, z.2.2.2.2.1, z.2.2.2.2.2.1, z.2.2.2.2.2.2.1, z.2.2.2.2.2.2.2.1, z.2.2.2.2.2.2.2.2, x10, x11), hz, rfl⟩
          | some nr =>
            obtain ⟨nm, r⟩ := nr
            obtain ⟨j2, hj1, hj2, rfl⟩ := rdName_pos hj hr
            have hb2 := rblank_eq fr c3 c4 c5 c6 c7 c8 K l j2 hj2 hl (by omega)
            have hj3 := tw_le El.blank l j2 hj2
            simp only [Option.bind_some, Sum.elim_inl, Prod.q1, Prod.q2, Prod.q3, Prod.q4, Prod.q5, Prod.q6, Prod.q7, Prod.q8, Prod.r9, posE hj2, hb2]
            rw [blanks_drop]
            have hj23 : j2 ≤ j2 + ((l.drop j2).takeWhile El.blank).length := Nat.le_add_right _ _
            generalize j2 + ((l.drop j2).takeWhile El.blank).length = j3 at *
            have h3 := has_eq fr c3 c4 c5 c6 c7 c8 K [61] l j3 hj3 hl (by simp)
            rw [h3, begins1]
            cases hd : l.drop j3 with
            | nil => exact ⟨(tb l, fr, (j3 : Int), c3, c4, c5, c6, c7, c8, x10, x11), rfl, rfl⟩
            | cons c r =>
              have hj4 : j3 < l.length := by
                have := congrArg List.length hd
                rw [List.length_drop, List.length_cons] at this; omega
              have hr1 : r = l.drop (j3 + 1) := by rw [← List.tail_drop, hd]; rfl
              cases hc : (61 == c) with
              | false =>
                refine ⟨(tb l, fr, (j3 : Int), c3, c4, c5, c6, c7, c8, x10, x11), rfl, ?_⟩
                simp only [afterEq, hc, cond_false, Option.bind_some, Option.bind_none, must_eq, Sum.elim_inr, Prod.q1, Prod.q2, Prod.q3, Prod.q4, Prod.q5, Prod.q6, Prod.q7, Prod.q8, Prod.r9]
              | true =>
                subst hr1
                simp only [afterEq, hc, cond_true, Option.bind_some, must_eq, Sum.elim_inl, Prod.q1, Prod.q2, Prod.q3, Prod.q4, Prod.q5, Prod.q6, Prod.q7, Prod.q8, Prod.r9, List.length_cons, List.length_nil, Nat.zero_add]
                have hb3 := rblank_eq fr c3 c4 c5 c6 c7 c8 K l (j3 + 1) (by omega) hl (by omega)
                have hj5 := tw_le El.blank l (j3 + 1) (by omega)
                rw [hb3, blanks_drop]
                have hj45 : j3 + 1 ≤ j3 + 1 + ((l.drop (j3 + 1)).takeWhile El.blank).length := Nat.le_add_right _ _
                generalize j3 + 1 + ((l.drop (j3 + 1)).takeWhile El.blank).length = j5 at *
                simp only [Option.bind_some, Prod.q1, Prod.q2, Prod.q3, Prod.q4, Prod.q5, Prod.q6, Prod.q7, Prod.q8, Prod.r9]
                obtain ⟨z, hz, hv⟩ := value_eq fr c3 c4 c5 c6 c7 c8 K l j5 hj5 hl (by omega)
                rw [hv]
                cases hv' : rdVal (l.drop j5) with
                | none => exact ⟨(z.1, z.2.1, z.2.2.1, z.2.2.2.1, z.2.2.2.2.1, z.2.2.2.2.2.1, z.2.2.2.2.2.2.1, z.2.2.2.2.2.2.2.1, z.2.2.2.2.2.2.2.2, x10, x11), hz, rfl⟩
                | some vr =>
                  obtain ⟨v, r⟩ := vr
                  obtain ⟨p, hp⟩ := rdVal_suf hv'
                  obtain ⟨j6, hj6, hj56, rfl⟩ := suf_pos hj5 hp
                  have hwv := rdVal_wt hv'
                  rw [List.length_drop, List.length_drop] at hwv
                  have hwa := wA_app acc (nm, v)
                  simp only at hwa
                  have hal : acc.length ≤ wA acc := by unfold wA; omega
                  simp only [Option.bind_some, Option.map_some, Sum.elim_inr, Prod.q1, Prod.q2, Prod.q3, Prod.q4, Prod.q5, Prod.q6, Prod.q7, Prod.q8, Prod.r9, posE hj6]
                  rw [if_pos (by rw [List.length_map]; omega)]
                  have ih := begin_loop K l hl hK x0 x10 x11 k m j6 (acc ++ [(nm, v)]) hj6 (by omega) (by omega) (by omega)
                  rw [List.map_append] at ih
                  exact ih
end
end Go.Proofs.YtphlamnaaogmaaaGreatDoor.M

namespace Go.Proofs.YtphlamnaaogmaaaGreatDoor.M
open Go Go.RowKit Go.Proofs Go.Proofs.Qx Go.Proofs.El
set_option linter.unusedVariables false
set_option linter.unusedSimpArgs false

set_option maxRecDepth 100000 in
theorem size27 : Tryz.prog.types[(27 : TypeId)].size = (4 : Nat) := by kernel_rfl
set_option maxRecDepth 100000 in
theorem size9 : Tryz.prog.types[(9 : TypeId)].size = (1 : Nat) := by kernel_rfl
theorem setL2 (R : List (List D)) (r b r' : List D) : (R ++ [r] ++ [b]).set (R.length + 1) r' = R ++ [r] ++ [r'] := by
  have := setL (R ++ [r]) b r'
  rwa [lenL] at this
theorem in_lt0 {α : Type} (x y : Option α) : (if (0 : Int) ≤ 0 ∧ (0 : Int) < ((0 + 1 : Nat) : Int) then x else y) = x := if_pos (by omega)
set_option maxRecDepth 100000 in
theorem element_eq (k : Nat) (l : Bs) (fr : Int) (i n : Nat) (x : St) (hx : Inv n x) (hn : n ≤ 1000000000) (hi : i ≤ l.length) (hl : l.length ≤ 1000000000) (hk : l.length + 6 < k) : ∃ z : Dc, z.2.1 = fr ∧ zC.f k (dc l fr i x) =
    some (match element x (l.drop i) with | some (y, r) => .inr (dc l fr (l.length - r.length) y) | none => .inl z) := by
  rcases x with ⟨st, root⟩
  cases root with
  | some e => exact ⟨dc l fr i ⟨st, some e⟩, rfl, rfl⟩
  | none =>
    have hlen := hx.len
    have hw := hx.wt
    simp only at hlen hw
    change ∃ z : Dc, z.2.1 = fr ∧ zC.t k (z8.f k) (zH.f k) (strings_Trim.f) (zN.f k) (zG.f k) (zF.f k) (zE.f k) (tb l) fr (i : Int) (rootC none).1 (rootC none).2.1 (rootC none).2.2.1 (rootC none).2.2.2 false (rows st.reverse) = _
    unfold zC.t
    dsimp only [dc]
    by_cases h40 : 40 ≤ st.length
    · refine ⟨dc l fr i ⟨st, none⟩, rfl, ?_⟩
      have h1 : decide ((((rows st.reverse).length : Nat) : Int) < 40) = false := by rw [rowsR]; exact decide_eq_false (by omega)
      unfold element
      rw [h1, decide_eq_true h40]
      rfl
    · have h1 : decide ((((rows st.reverse).length : Nat) : Int) < 40) = true := by rw [rowsR]; exact decide_eq_true (by omega)
      unfold element
      rw [h1, decide_eq_false h40]
      simp only [Option.isSome_none, Bool.false_or, Bool.not_false, cond_true, must_eq, Option.bind_some, Sum.elim_inl, Bool.or_false, Bool.false_eq_true, if_false]
      unfold zC.t.J43
      obtain ⟨z, hz, hnm⟩ := rname_eq fr (rootC none).1 (rootC none).2.1 (rootC none).2.2.1 (rootC none).2.2.2 false (rows st.reverse) k l i hi hl (by omega)
      rw [hnm]
      unfold rdBegin
      cases hr : rdName (l.drop i) with
      | none => exact ⟨z, hz, rfl⟩
      | some nr =>
        obtain ⟨nm, r⟩ := nr
        obtain ⟨j, hj1, hj2, rfl⟩ := rdName_pos hi hr
        obtain ⟨z, hz, hlp⟩ := begin_loop fr (rootC none).1 (rootC none).2.1 (rootC none).2.2.1 (rootC none).2.2.2 false (rows st.reverse) k l hl hk false (tb nm) (ByteArray.mk #[]) k ((l.drop j).length + 1) j [] hj2 (by omega) (by rw [List.length_drop]; omega) (by simp [wA])
        rw [show ([] : List (Bs × Bs)).map encA = [] from rfl] at hlp
        simp only [Option.bind_some, Sum.elim_inl, Prod.q1, Prod.q2, Prod.q3, Prod.q4, Prod.q5, Prod.q6, Prod.q7, Prod.q8, Prod.r9, posE hj2, hlp]
        cases ha : rdAttrs ((l.drop j).length + 1) [] (l.drop j) with
        | none => exact ⟨(z.1, z.2.1, z.2.2.1, z.2.2.2.1, z.2.2.2.2.1, z.2.2.2.2.2.1, z.2.2.2.2.2.2.1, z.2.2.2.2.2.2.2.1, z.2.2.2.2.2.2.2.2.1), hz, rfl⟩
        | some y =>
          obtain ⟨a, is, r⟩ := y
          obtain ⟨p, hp⟩ := rdAttrs_suf _ _ _ ha
          obtain ⟨j2, hj3, hj4, hre⟩ := suf_pos hj2 hp
          simp only at hre
          subst hre
          simp only [Option.bind_some, Option.map_some, Sum.elim_inr, Prod.q1, Prod.q2, Prod.q3, Prod.q4, Prod.q5, Prod.q6, Prod.q7, Prod.q8, Prod.q9, Prod.q10, Prod.q11, Prod.r12, posE hj3]
          cases st with
          | nil =>
            simp only [List.reverse_nil, rows, List.length_nil, Int.natCast_zero, gt_iff_lt, Int.lt_irrefl, decide_false, cond_false]
            cases is with
            | true =>
              refine ⟨dc l fr j2 ⟨[], none⟩, rfl, ?_⟩
              simp only [cond_true, List.nil_append, List.length_cons, List.length_nil]
              rw [if_pos (show 0 ≤ 1073741823 by omega)]
              simp only [in_lt0, both_same, posE hj3, if_true]
              rfl
            | false =>
              refine ⟨dc l fr j2 ⟨[], none⟩, rfl, ?_⟩
              simp only [cond_false, Bool.false_eq_true, if_false, posE hj3]
              rfl
          | cons e s =>
            obtain ⟨en, ea, et, ek⟩ := e
            simp only [wts, wt, List.length_cons] at hw hlen
            have hb1 : (rows s.reverse).length ≤ 1000000000 := by rw [rowsR]; omega
            have hr2 : (rows s.reverse).length < (rows s.reverse).length + 1 := Nat.lt_succ_self _
            obtain ⟨tr, ht1, ht2⟩ := trim_blank et (by omega)
            have hkl := wts_len ek
            simp only [rows_last, lenL, wrL hb1, in_lt hr2, natLen', decide_eq_true (Nat.succ_pos (rows s.reverse).length), cond_true, Int.toNat_natCast, row, atL, setL, List.getD_cons_zero, List.getD_cons_succ, D.toStr, ht1, Option.bind_some, emptyB, ht2]
            cases et.all El.blank with
            | false => exact ⟨dc l fr j2 ⟨.mk en ea et ek :: s, none⟩, rfl, by simp only [dc, rows_last]; rfl⟩
            | true =>
              refine ⟨dc l fr j2 ⟨.mk en ea et ek :: s, none⟩, rfl, ?_⟩
              simp only [cond_true, Sum.elim_inl, if_true]
              cases is with
              | true =>
                simp only [cond_true, lenL, in_lt (Nat.lt_succ_self _), both_same, Int.toNat_natCast, setL2]
                rw [if_pos (by omega)]
                simp only [both_same, posE hj3, must_eq, cond_true, Option.bind_some, Sum.elim_inl, if_true, rows_last, row]
                rfl
              | false =>
                simp only [size27, size9, atsRow, List.getElem_toArray, List.getElem_cons_succ, List.getElem_cons_zero, Nat.zero_add, Nat.reduceAdd, List.take_succ_cons, List.take_zero, List.drop_succ_cons, List.drop_zero, List.cons_append, List.nil_append, atL, setL, lenL, Nat.add_sub_cancel, row, List.getD_cons_zero, List.getD_cons_succ, D.toSeq, rows_len ek, must_eq, cond_true, cond_false, Option.bind_some, Sum.elim_inl]
                rw [if_pos (show ek.length < 1073741823 by omega)]
                simp only [Option.bind_some, must_eq, Sum.elim_inl, appE, cond_true, cond_false, Bool.false_eq_true, if_false, posE hj3, put, rows_last, row, rows_app, rows]
                rfl
end Go.Proofs.YtphlamnaaogmaaaGreatDoor.M

namespace Go.Proofs.YtphlamnaaogmaaaGreatDoor.M
open Go Go.RowKit Go.Proofs Go.Proofs.Qx Go.Proofs.El
set_option linter.unusedVariables false
set_option linter.unusedSimpArgs false

theorem prodE {α β : Type} (p : α × β) : (p.1, p.2) = p := rfl
def not60 (c : UInt8) : Bool := !(c == 60)
section
variable (fr : Int) (c3 : ByteArray) (c4 : List (List D)) (c5 : ByteArray) (c6 : List (List D)) (c7 : Bool) (c8 : List (List D))
theorem text_loop {f41 : Bool → Option (Unit ⊕ Unit)} {f54 : ByteArray × Dc → Option (Bool × Dc)} {f55 : ByteArray × Dc → Option (Dc ⊕ Dc)} {f56 f57 : Dc → Option (Dc ⊕ Dc)} {f58 : ByteArray × Dc → Option (Dc ⊕ Dc)} (l : Bs) (hl : l.length ≤ 1000000000) (x0 : ByteArray) (x1 : Int) (K : Nat) : ∀ (k i : Nat), i ≤ l.length → l.length < i + k →
    zD.L59_2 K f41 f54 f55 f56 f57 f58 k (x0, x1, tb l, fr, (i : Int), c3, c4, c5, c6, c7, c8) = some (x0, x1, tb l, fr, ((i + ((l.drop i).takeWhile not60).length : Nat) : Int), c3, c4, c5, c6, c7, c8)
  | 0, i, hi, hk => by omega
  | k + 1, i, hi, hk => by
    simp only [zD.L59_2, zD.L59_2.S]
    by_cases h : i < l.length
    · have e2 : (((l.getD i 0).toNat : Int) == 60) = (l.getD i 0 == 60) := by
        have : (((l.getD i 0).toNat : Int) == (((60 : UInt8).toNat : Nat) : Int)) = (l.getD i 0 == 60) := by rw [beq_cast, Bool.eq_iff_iff, beq_iff_eq, beq_iff_eq]; exact UInt8.toNat_inj
        exact this
      simp only [dec_sz h, cond_true, in_sz h, byteAt_bl, bl_tb, e2, wr1 h (by omega)]
      rw [tw_cons not60 h]
      unfold not60
      cases l.getD i 0 == 60 with
      | true => rfl
      | false => simp only [Bool.not_false, cond_true]; rw [text_loop l hl x0 x1 K k (i + 1) (by omega) (by omega)]; simp only [List.length_cons, add1]; rfl
    · simp only [dec_nsz (show l.length ≤ i by omega), cond_false]
      rw [List.drop_eq_nil_of_le (by omega)]; simp
end
theorem has_dc (fr : Int) (x : St) (k : Nat) (sg l : Bs) (i : Nat) (hi : i ≤ l.length) (hl : l.length ≤ 1000000000) (hs : sg.length ≤ 100) : zN.f k (tb sg, dc l fr i x) =
    some (bif sg.isPrefixOf (l.drop i) then (true, dc l fr (i + sg.length) x) else (false, dc l fr i x)) := has_eq fr _ _ _ _ _ _ k sg l i hi hl hs
theorem past_dc (fr : Int) (x : St) (k : Nat) (sg l : Bs) (i : Nat) (hi : i ≤ l.length) (hl : l.length ≤ 1000000000) (hs : sg.length ≤ 100) (hne : sg ≠ []) : zR.f k (tb sg, dc l fr i x) =
    some (match find sg (l.drop i) with | some r => .inl (dc l fr (l.length - r.length) x) | none => .inr (dc l fr i x)) := past_eq fr _ _ _ _ _ _ k sg l i hi hl hs hne
theorem isN (x : St) : (((rows x.st.reverse).length : Int) == 0) = x.st.isEmpty := by
  rw [rowsR]
  cases x.st with
  | nil => rfl
  | cons e s => simp; omega
theorem isN' (x : St) : (!x.root.isSome) = x.root.isNone := by cases x.root <;> rfl
theorem not60_eq : (fun c : UInt8 => !(c == 60)) = not60 := rfl

theorem piece_eq (k : Nat) (l : Bs) (fr : Int) (i : Nat) (x : St) (hx : Inv i x) (hi : i ≤ l.length) (hl : l.length ≤ 1000000000) (hk : l.length + 6 < k) : ∃ z : Dc, z.2.1 = fr ∧ zD.f k (dc l fr i x) =
    some (match piece x (l.drop i) with | some (y, r) => .inr (dc l fr (l.length - r.length) y) | none => .inl z) := by
  show ∃ z : Dc, z.2.1 = fr ∧ zD.t k _ _ _ _ _ _ _ _ _ _ _ _ _ _ _ = _
  unfold zD.t piece
  have h1 := has_dc fr x k [60, 33, 45, 45] l i hi hl (by simp)
  have h2 := has_dc fr x k [60, 63] l i hi hl (by simp)
  have h3 := has_dc fr x k [60, 33, 68, 79, 67, 84, 89, 80, 69] l i hi hl (by simp)
  have h4 := has_dc fr x k [60, 47] l i hi hl (by simp)
  have h5 := has_dc fr x k [60] l i hi hl (by simp)
  simp only [starts_drop, prodE]
  rw [show ByteArray.mk #[60, 33, 45, 45] = tb [60, 33, 45, 45] from rfl, h1]
  cases hp1 : [60, 33, 45, 45].isPrefixOf (l.drop i) with
  | true =>
    have hj := isPrefix_le hi hp1
    simp only [cond_true, Option.bind_some, Prod.q1, Prod.q2, Prod.q3, Prod.q4, Prod.q5, Prod.q6, Prod.q7, Prod.q8, Prod.r8, Prod.r9, prodE]
    have hq := past_dc fr x k [45, 45, 62] l (i + [60, 33, 45, 45].length) hj hl (by simp) (by simp)
    rw [show ByteArray.mk #[45, 45, 62] = tb [45, 45, 62] from rfl, hq]
    cases find [45, 45, 62] (l.drop (i + [60, 33, 45, 45].length)) with
    | none => exact ⟨dc l fr _ x, rfl, rfl⟩
    | some r => exact ⟨dc l fr 0 x, rfl, rfl⟩
  | false =>
    simp only [cond_false, Option.bind_some, Prod.q1, Prod.q2, Prod.q3, Prod.q4, Prod.q5, Prod.q6, Prod.q7, Prod.q8, Prod.r8, Prod.r9, prodE]
    rw [show ByteArray.mk #[60, 63] = tb [60, 63] from rfl, h2]
    cases hp2 : [60, 63].isPrefixOf (l.drop i) with
    | true =>
      have hj := isPrefix_le hi hp2
      simp only [cond_true, Option.bind_some, Prod.q1, Prod.q2, Prod.q3, Prod.q4, Prod.q5, Prod.q6, Prod.q7, Prod.q8, Prod.r8, Prod.r9, prodE]
      have hq := past_dc fr x k [63, 62] l (i + [60, 63].length) hj hl (by simp) (by simp)
      rw [show ByteArray.mk #[63, 62] = tb [63, 62] from rfl, hq]
      cases find [63, 62] (l.drop (i + [60, 63].length)) with
      | none => exact ⟨dc l fr _ x, rfl, rfl⟩
      | some r => exact ⟨dc l fr 0 x, rfl, rfl⟩
    | false =>
      simp only [cond_false, Option.bind_some, Prod.q1, Prod.q2, Prod.q3, Prod.q4, Prod.q5, Prod.q6, Prod.q7, Prod.q8, Prod.r8, Prod.r9, prodE]
      rw [show ByteArray.mk #[60, 33, 68, 79, 67, 84, 89, 80, 69] = tb [60, 33, 68, 79, 67, 84, 89, 80, 69] from rfl, h3]
      cases hp3 : [60, 33, 68, 79, 67, 84, 89, 80, 69].isPrefixOf (l.drop i) with
      | true =>
        have hj := isPrefix_le hi hp3
        have hq := past_dc fr x k [62] l (i + [60, 33, 68, 79, 67, 84, 89, 80, 69].length) hj hl (by simp) (by simp)
        simp only [cond_true, Option.bind_some, Prod.q1, Prod.q2, Prod.q3, Prod.q4, Prod.q5, Prod.q6, Prod.q7, Prod.q8, Prod.r8, Prod.r9, prodE, zD.t.J14, must_eq]
        rw [show ByteArray.mk #[62] = tb [62] from rfl, hq]
        generalize i + [60, 33, 68, 79, 67, 84, 89, 80, 69].length = j at *
        change ∃ z : Dc, z.2.1 = fr ∧ (bif (((rows x.st.reverse).length : Int) == 0) then Sum.elim _ _ (bif !x.root.isSome then Sum.inl () else Sum.inr ()) else _) = _
        rw [isN, isN']
        cases x.st.isEmpty with
        | false => exact ⟨dc l fr j x, rfl, rfl⟩
        | true =>
          cases x.root.isNone with
          | false => exact ⟨dc l fr j x, rfl, rfl⟩
          | true =>
            cases find [62] (l.drop j) with
            | none => exact ⟨dc l fr j x, rfl, rfl⟩
            | some r => exact ⟨dc l fr 0 x, rfl, rfl⟩
      | false =>
        simp only [cond_false, Option.bind_some, Prod.q1, Prod.q2, Prod.q3, Prod.q4, Prod.q5, Prod.q6, Prod.q7, Prod.q8, Prod.r8, Prod.r9, prodE]
        rw [show ByteArray.mk #[60, 47] = tb [60, 47] from rfl, h4]
        cases hp4 : [60, 47].isPrefixOf (l.drop i) with
        | true =>
          have hj := isPrefix_le hi hp4
          simp only [cond_true, Option.bind_some, Prod.q1, Prod.q2, Prod.q3, Prod.q4, Prod.q5, Prod.q6, Prod.q7, Prod.q8, Prod.r8, Prod.r9, prodE]
          obtain ⟨z, hz, he⟩ := end_eq k l fr (i + [60, 47].length) i x hx (by omega) hj hl (by omega)
          rw [he]
          cases ending x (l.drop (i + [60, 47].length)) with
          | none => exact ⟨z, hz, rfl⟩
          | some y => exact ⟨z, hz, rfl⟩
        | false =>
          simp only [cond_false, Option.bind_some, Prod.q1, Prod.q2, Prod.q3, Prod.q4, Prod.q5, Prod.q6, Prod.q7, Prod.q8, Prod.r8, Prod.r9, prodE]
          rw [show ByteArray.mk #[60] = tb [60] from rfl, h5]
          cases hp5 : [60].isPrefixOf (l.drop i) with
          | true =>
            have hj := isPrefix_le hi hp5
            simp only [cond_true, Option.bind_some, Prod.q1, Prod.q2, Prod.q3, Prod.q4, Prod.q5, Prod.q6, Prod.q7, Prod.q8, Prod.r8, Prod.r9, prodE]
            obtain ⟨z, hz, he⟩ := element_eq k l fr (i + [60].length) i x hx (by omega) hj hl hk
            rw [he]
            cases element x (l.drop (i + [60].length)) with
            | none => exact ⟨z, hz, rfl⟩
            | some y => exact ⟨z, hz, rfl⟩
          | false =>
            simp only [cond_false, Option.bind_some, Prod.q1, Prod.q2, Prod.q3, Prod.q4, Prod.q5, Prod.q6, Prod.q7, Prod.q8, Prod.r8, Prod.r9, prodE]
            have hlp := text_loop fr (rootC x.root).1 (rootC x.root).2.1 (rootC x.root).2.2.1 (rootC x.root).2.2.2 x.root.isSome (rows x.st.reverse) (f41 := z8.f k) (f54 := zN.f k) (f55 := zR.f k) (f56 := zP.f k) (f57 := zC.f k) (f58 := zK.f k) l hl (ByteArray.mk #[]) (i : Int) k k i hi (by omega)
            have ht := tw_le not60 l i hi
            rw [not60_eq, drop_tw not60 l i]
            change ∃ z : Dc, z.2.1 = fr ∧ Option.bind (zD.L59_2 k (z8.f k) (zN.f k) (zR.f k) (zP.f k) (zC.f k) (zK.f k) k (ByteArray.mk #[], (i : Int), tb l, fr, (i : Int), (rootC x.root).1, (rootC x.root).2.1, (rootC x.root).2.2.1, (rootC x.root).2.2.2, x.root.isSome, rows x.st.reverse)) _ = _
            rw [hlp]
            simp only [Option.bind_some, Prod.q9, Prod.r10, in_le_sz ht, in_le' (Nat.le_add_right i _), Int.toNat_natCast, ex_tw not60 l i hi]
            have hte := texts_eq k ((l.drop i).takeWhile not60) l fr (i + ((l.drop i).takeWhile not60).length) i x hx (by omega) (by omega)
            change ∃ z : Dc, z.2.1 = fr ∧ Option.bind (zK.f k (tb ((l.drop i).takeWhile not60), dc l fr (i + ((l.drop i).takeWhile not60).length) x)) _ = _
            rw [hte]
            cases texts x ((l.drop i).takeWhile not60) with
            | none => exact ⟨dc l fr (i + ((l.drop i).takeWhile not60).length) x, rfl, rfl⟩
            | some y =>
              refine ⟨dc l fr 0 x, rfl, ?_⟩
              simp only [Option.map_some, posE ht]
              rfl
end Go.Proofs.YtphlamnaaogmaaaGreatDoor.M

namespace Go.Proofs.YtphlamnaaogmaaaGreatDoor.M
open Go Go.RowKit Go.Proofs Go.Proofs.Qx Go.Proofs.El
set_option linter.unusedVariables false
set_option linter.unusedSimpArgs false

theorem Inv.mono {n m : Nat} {x : St} (h : Inv n x) (hm : n ≤ m) : Inv m x := ⟨h.len, by have := h.wt; omega, h.root⟩
theorem piece_inv {n m : Nat} {x y : St} {l r : Bs} (hl : l ≠ []) (hx : Inv n x) (h : piece x l = some (y, r)) (hm : n + l.length ≤ m + r.length) : Inv m y := by
  have hlt := piece_lt hl h
  have hnm : n ≤ m := by omega
  unfold piece at h
  split at h
  · rw [Option.map_eq_some_iff] at h
    obtain ⟨r', _, e⟩ := h
    cases e; exact hx.mono hnm
  · split at h
    · rw [Option.map_eq_some_iff] at h
      obtain ⟨r', _, e⟩ := h
      cases e; exact hx.mono hnm
    · split at h
      · split at h
        · rw [Option.map_eq_some_iff] at h
          obtain ⟨r', _, e⟩ := h
          cases e; exact hx.mono hnm
        · cases h
      · split at h
        · exact ending_inv hx h hnm
        · split at h
          · rename_i r' hs
            have := congrArg List.length (starts_some hs)
            rw [List.length_append] at this
            exact element_inv hx h (by simp only [List.length_cons, List.length_nil] at this; omega)
          · rw [Option.map_eq_some_iff] at h
            obtain ⟨y', h1, e⟩ := h
            cases e
            have := congrArg List.length (List.takeWhile_append_dropWhile (p := fun c : UInt8 => !(c == 60)) (l := l))
            rw [List.length_append] at this
            exact texts_inv hx h1 (by omega)
def parsed (l : Bs) : Except Bs El → ByteArray × List (List D) × ByteArray × List (List D) × Int × Int
  | .ok e => (tb e.name, e.attrs.map encA, tb e.text, rows e.kids, 0, 0)
  | .error r => (ByteArray.mk #[], [], ByteArray.mk #[], [], ((l.length - r.length : Nat) : Int), 201)
theorem parse_loop (l : Bs) (hl : l.length ≤ 1000000000) (K : Nat) (hK : l.length + 6 < K) : ∀ (k i : Nat) (fr : Int) (x : St), Inv i x → i ≤ l.length → l.length < i + k →
    (zL.L3 K (z8.f K) (zD.f K) k (tb l, ByteArray.mk #[], ByteArray.mk #[], (0 : Int), (0 : Int), dc l fr i x)).bind (fun v1 => Sum.elim (fun v2 => (z8.f K v2.r12).bind fun v3 => Sum.elim (fun v4 => some (v2.q8, v2.q9, v2.q10, v2.q11, (0 : Int), (0 : Int))) (fun v5 => some (ByteArray.mk #[], [], ByteArray.mk #[], [], (↑v2.fst.size : Int), (201 : Int))) v3) (fun v6 => some (ByteArray.mk #[], [], ByteArray.mk #[], [], v6.q5, (201 : Int))) v1) = some (parsed l (parse x (l.drop i)))
  | 0, i, fr, x, hx, hi, hk => by omega
  | k + 1, i, fr, x, hx, hi, hk => by
    by_cases h : i < l.length
    · have hne : l.drop i ≠ [] := by rw [drop_cons h]; simp
      obtain ⟨z, hz, hp⟩ := piece_eq K l (i : Int) i x hx hi hl hK
      have hs : zL.L3 K (z8.f K) (zD.f K) (k + 1) (tb l, ByteArray.mk #[], ByteArray.mk #[], (0 : Int), (0 : Int), dc l fr i x) = (zD.f K (dc l (i : Int) i x)).bind fun v1 => Sum.elim (fun v2 => some (Sum.inr (ByteArray.mk #[], ByteArray.mk #[], (0 : Int), (0 : Int), v2.fst, v2.q1, v2.q2, v2.q3, v2.q4, v2.q5, v2.q6, v2.q7))) (fun v3 => zL.L3 K (z8.f K) (zD.f K) k (tb l, ByteArray.mk #[], ByteArray.mk #[], (0 : Int), (0 : Int), v3)) v1 := by
        show cond (decide ((i : Int) < ((tb l).size : Int))) _ _ = _
        rw [dec_sz h]; rfl
      rw [hs, hp]
      cases hc : piece x (l.drop i) with
      | none =>
        rw [parse_none hne hc]
        simp only [Option.bind_some, Sum.elim_inl, Sum.elim_inr, parsed, posE hi]
        show some (_, _, _, _, z.2.1, _) = _
        rw [hz]
      | some yr =>
        obtain ⟨y, r⟩ := yr
        obtain ⟨p, hpr⟩ := piece_suffix hc
        obtain ⟨j, hj, hij, rfl⟩ := suf_pos hi hpr
        have hlt := piece_lt hne hc
        rw [List.length_drop, List.length_drop] at hlt
        have hy : Inv j y := piece_inv hne hx hc (by rw [List.length_drop, List.length_drop]; omega)
        rw [parse_piece hne hc]
        simp only [Option.bind_some, Sum.elim_inr, posE hj]
        exact parse_loop l hl K hK k j (i : Int) y hy hj (by omega)
    · have hs : zL.L3 K (z8.f K) (zD.f K) (k + 1) (tb l, ByteArray.mk #[], ByteArray.mk #[], (0 : Int), (0 : Int), dc l fr i x) = some (Sum.inl (tb l, ByteArray.mk #[], ByteArray.mk #[], (0 : Int), (0 : Int), tb l, fr, (i : Int), (rootC x.root).1, (rootC x.root).2.1, (rootC x.root).2.2.1, (rootC x.root).2.2.2, x.root.isSome)) := by
        show cond (decide ((i : Int) < ((tb l).size : Int))) _ _ = _
        rw [dec_nsz (by omega)]; rfl
      rw [hs, List.drop_eq_nil_of_le (by omega)]
      show (z8.f K x.root.isSome).bind _ = some (parsed l (match x.root with | some e => .ok e | none => .error []))
      rw [must_eq]
      cases x.root with
      | none => rfl
      | some e => rfl
theorem elem_Parse_eq (k : Nat) (l : Bs) (hl : l.length ≤ 1000000000) (hk : l.length + 6 < k) : zL.f k (tb l) = some (parsed l (parse St.new l)) :=
  parse_loop l hl k hk k 0 0 St.new ⟨by simp [St.new], by simp [St.new, wts, wtO], fun h => by cases h⟩ (Nat.zero_le _) (by omega)
end Go.Proofs.YtphlamnaaogmaaaGreatDoor.M
