import Derived.Test.YtphlamnaaogmaaaGreatDoorE5
import Derived.Test.YtphlamnaaogmaaaGreatDoorPuClean
import Derived.Lib.ValidLaws
import Derived.Lib.MapLaws
import Derived.Lib.TrimUEq
import Derived.Test.YtphlamnaaogmaaaGreatDoorE1
namespace Go.Proofs.YtphlamnaaogmaaaGreatDoor.M
open Go Go.RowKit Go.Proofs Go.Proofs.Qx Go.Proofs.El
set_option linter.unusedVariables false
set_option linter.unusedSimpArgs false

def bl (s : ByteArray) : Bs := s.data.toList
def tb (l : Bs) : ByteArray := ⟨l.toArray⟩
theorem bl_tb (l : Bs) : bl (tb l) = l := rfl
theorem tb_bl (s : ByteArray) : tb (bl s) = s := rfl
theorem bl_inj {a b : ByteArray} (h : bl a = bl b) : a = b := by rw [← tb_bl a, ← tb_bl b, h]
theorem size_bl (s : ByteArray) : s.size = (bl s).length := Array.length_toList.symm
theorem size_tb (l : Bs) : (tb l).size = l.length := rfl
theorem bl_append (a b : ByteArray) : bl (a ++ b) = bl a ++ bl b := by unfold bl; exact ByteArray.toList_data_append
theorem tb_append (a b : Bs) : tb a ++ tb b = tb (a ++ b) := bl_inj (by rw [bl_append]; rfl)
theorem bl_extract (s : ByteArray) (i j : Nat) : bl (s.extract i j) = ((bl s).drop i).take (j - i) := by
  show (s.extract i j).data.toList = _
  rw [ByteArray.data_extract, Array.toList_extract, List.extract_eq_take_drop]; rfl
theorem tb_extract (l : Bs) (i j : Nat) : (tb l).extract i j = tb ((l.drop i).take (j - i)) := bl_inj (by rw [bl_extract]; rfl)
theorem toList_bl (s : ByteArray) : s.toList = bl s := ByteArray.toList_eq s
theorem byteAt_bl (s : ByteArray) (i : Nat) : byteAt s (i : Int) = (((bl s).getD i 0).toNat : Int) := by simp only [byteAt, Int.toNat_natCast, bl]
theorem wrI {x : Int} (h0 : -9223372036854775808 ≤ x) (h1 : x < 9223372036854775808) : IntKind.i64.wrap x = x := by
  rw [Go.IntWalk.i64_left]; unfold wrap64; omega
theorem drop_cons {l : Bs} {i : Nat} (h : i < l.length) : l.drop i = l.getD i 0 :: l.drop (i + 1) := by
  rw [List.drop_eq_getElem_cons h]
  simp [List.getD_eq_getElem?_getD, h]
theorem wr1 {i n : Nat} (h : i < n) (hn : n ≤ 9223372036854775807) : IntKind.i64.wrap ((i : Int) + 1) = ((i + 1 : Nat) : Int) := by
  rw [wrI (by omega) (by omega)]; simp
theorem in_lt {α : Type} {i n : Nat} (h : i < n) (x y : Option α) : (if (0 : Int) ≤ (i : Int) ∧ (i : Int) < (n : Int) then x else y) = x := if_pos (by omega)
theorem in_le {α : Type} {i n : Nat} (h : i ≤ n) (x y : Option α) : (if (0 : Int) ≤ (i : Int) ∧ (i : Int) ≤ (n : Int) then x else y) = x := if_pos (by omega)
theorem dec_lt {i n : Nat} (h : i < n) : decide ((i : Int) < (n : Int)) = true := by simpa using h
theorem dec_nlt {i n : Nat} (h : n ≤ i) : decide ((i : Int) < (n : Int)) = false := by simpa using h

def parts (b : Bool) (c : UInt8) : Bool := bif b then El.part0 c else El.part c
theorem u8_all {p : UInt8 → Prop} (h : ∀ n : Fin 256, p (UInt8.ofNat n.val)) (c : UInt8) : p c := by
  have := h ⟨c.toNat, c.toNat_lt⟩
  simpa using this
theorem elem_part_eq (k : Nat) (c : UInt8) (b : Bool) : yB.f k (c.toNat : Int) b = some (parts b c) := by
  show yB.t 0 _ _ = _
  revert c
  refine u8_all ?_
  revert b
  decide +kernel
theorem elem_name_loop {f : Int → Bool → Option Bool} (hf : ∀ (c : UInt8) b, f (c.toNat : Int) b = some (parts b c)) (s : ByteArray) (hs : s.size ≤ 9223372036854775806) (K : Nat) : ∀ (d i k : Nat), i + d = s.size → 0 < i → d < k →
    zV.L4 K f k (s, false, (s.size : Int), (i : Int)) = some (bif ((bl s).drop i).all El.part then .inl false else .inr false)
  | 0, i, k + 1, h, h0, hk => by
    simp only [zV.L4, zV.L4.S, dec_nlt (show s.size ≤ i by omega), cond_false]
    rw [List.drop_eq_nil_of_le (by rw [← size_bl]; omega)]; rfl
  | d + 1, i, k + 1, h, h0, hk => by
    have hi : i < s.size := by omega
    simp only [zV.L4, zV.L4.S, dec_lt hi, cond_true, in_lt hi, byteAt_bl, hf, Option.bind_some]
    rw [drop_cons (by rw [← size_bl]; exact hi), List.all_cons, wr1 hi (by omega), elem_name_loop hf s hs K d (i + 1) k (by omega) (by omega) (by omega)]
    have h2 : ((i : Int) == 0) = false := by simp; omega
    rw [h2]
    simp only [parts, cond_false]
    cases El.part ((bl s).getD i 0) <;> rfl
theorem elem_name_eq (k : Nat) (s : ByteArray) (hk : s.size < k) (hs : s.size ≤ 9223372036854775806) : zV.f k s = some (El.name (bl s)) := by
  show zV.t k (yB.f k) s = _
  unfold zV.t
  rw [toList_bl, toList_bl]
  cases hl : bl s with
  | nil => rfl
  | cons c l =>
    have hsz : s.size = l.length + 1 := by rw [size_bl, hl]; rfl
    have e1 : ((c :: l : Bs) == bl (ByteArray.mk #[])) = false := rfl
    rw [e1]
    simp only [cond_false]
    by_cases h60 : 60 < s.size
    · rw [show decide ((s.size : Int) > 60) = true by simp; omega]
      simp only [cond_true, El.name]
      have : decide (l.length < 60) = false := by simp; omega
      rw [this]; simp
    · rw [show decide ((s.size : Int) > 60) = false by simp; omega]
      simp only [cond_false]
      cases k with
      | zero => omega
      | succ k =>
        have hi : 0 < s.size := by omega
        have hd := dec_lt hi
        have hin : ∀ x y : Option (Bool ⊕ Bool), (if (0 : Int) ≤ 0 ∧ (0 : Int) < (s.size : Int) then x else y) = x := fun x y => if_pos (by omega)
        have hb := byteAt_bl s 0
        rw [hl] at hb
        simp only [Int.natCast_zero, List.getD_cons_zero] at hb hd
        have hw : IntKind.i64.wrap ((0 : Int) + 1) = ((1 : Nat) : Int) := by rw [wrI (by omega) (by omega)]; rfl
        simp only [zV.L4, zV.L4.S, hd, cond_true, hin, hb, elem_part_eq, Option.bind_some, hw]
        rw [elem_name_loop (elem_part_eq (k + 1)) s hs (k + 1) (s.size - 1) 1 k (by omega) (by omega) (by omega), hl]
        have h59 : decide (l.length < 60) = true := by simp; omega
        simp only [El.name, h59, parts, List.drop_succ_cons, List.drop_zero, beq_self_eq_true, cond_true]
        cases El.part0 c <;> cases l.all El.part <;> rfl
end Go.Proofs.YtphlamnaaogmaaaGreatDoor.M

namespace Go.Proofs.YtphlamnaaogmaaaGreatDoor.M
open Go Go.RowKit Go.Proofs Go.Proofs.Qx Go.Proofs.El
set_option linter.unusedVariables false
set_option linter.unusedSimpArgs false

def runeN : Bs → Nat
  | [] => 0
  | c :: l => if c.toNat < 128 then 1 else match leadN c.toNat with
    | none => 0
    | some (k, lo, hi) => match l with
      | [] => 0
      | d :: l => if lo.toNat ≤ d.toNat ∧ d.toNat ≤ hi.toNat then (match k with
        | 0 => 2
        | 1 => (match l with
          | e :: _ => if 128 ≤ e.toNat ∧ e.toNat ≤ 191 then 3 else 0
          | [] => 0)
        | _ => (match l with
          | e :: f :: _ => if (128 ≤ e.toNat ∧ e.toNat ≤ 191) ∧ (128 ≤ f.toNat ∧ f.toNat ≤ 191) then 4 else 0
          | _ => 0)) else 0
end Go.Proofs.YtphlamnaaogmaaaGreatDoor.M

namespace Go.Proofs.YtphlamnaaogmaaaGreatDoor.M
open Go Go.RowKit Go.Proofs Go.Proofs.Qx Go.Proofs.El
set_option linter.unusedVariables false
set_option linter.unusedSimpArgs false

def runeM (n b0 b1 b2 b3 : Nat) : Nat :=
  if b0 < 128 then 1
  else if 194 ≤ b0 ∧ b0 ≤ 223 then (if 1 < n ∧ 128 ≤ b1 ∧ b1 ≤ 191 then 2 else 0)
  else if 224 ≤ b0 ∧ b0 ≤ 239 then (if 2 < n ∧ (128 ≤ b1 ∧ b1 ≤ 191) ∧ (b0 = 224 → 160 ≤ b1) ∧ (b0 = 237 → b1 ≤ 159) ∧ 128 ≤ b2 ∧ b2 ≤ 191 then 3 else 0)
  else if 240 ≤ b0 ∧ b0 ≤ 244 then (if 3 < n ∧ (128 ≤ b1 ∧ b1 ≤ 191) ∧ (b0 = 240 → 144 ≤ b1) ∧ (b0 = 244 → b1 ≤ 143) ∧ (128 ≤ b2 ∧ b2 ≤ 191) ∧ 128 ≤ b3 ∧ b3 ≤ 191 then 4 else 0)
  else 0
theorem decode_rune {n b0 b1 b2 b3 : Nat} (h0 : b0 < 256) (h1 : b1 < 256) (h2 : b2 < 256) (h3 : b3 < 256) :
    (runeM n b0 b1 b2 b3 = 0 → Lib.decodeN n b0 b1 b2 b3 = (65533, 1)) ∧
    (runeM n b0 b1 b2 b3 ≠ 0 → (Lib.decodeN n b0 b1 b2 b3).2 = runeM n b0 b1 b2 b3 ∧ (if b0 < 128 then (Lib.decodeN n b0 b1 b2 b3).1 = b0 else 128 ≤ (Lib.decodeN n b0 b1 b2 b3).1 ∧ 2 ≤ runeM n b0 b1 b2 b3)) := by
  unfold runeM Lib.decodeN
  by_cases a1 : b0 < 128
  · simp [a1]
  simp only [if_neg a1]
  by_cases a2 : 194 ≤ b0 ∧ b0 ≤ 223
  · have e : b0 / 32 = 6 := by omega
    simp only [if_pos a2]
    by_cases c : 1 < n ∧ 128 ≤ b1 ∧ b1 ≤ 191
    · have e2 : b1 / 64 = 2 := by omega
      have e3 : b0 % 32 * 64 + b1 % 64 ≥ 128 := by omega
      simp [c, e, e2, e3]
    · have : ¬ (b0 / 32 = 6 ∧ 1 < n ∧ b1 / 64 = 2) := by omega
      simp only [if_neg c, if_neg this]
      rw [if_neg (by omega), if_neg (by omega)]
      simp
  simp only [if_neg a2]
  by_cases a3 : 224 ≤ b0 ∧ b0 ≤ 239
  · have e : b0 / 16 = 14 := by omega
    have e' : ¬ b0 / 32 = 6 := by omega
    simp only [if_pos a3, e, e', false_and, if_false, true_and]
    by_cases c : 2 < n ∧ (128 ≤ b1 ∧ b1 ≤ 191) ∧ (b0 = 224 → 160 ≤ b1) ∧ (b0 = 237 → b1 ≤ 159) ∧ 128 ≤ b2 ∧ b2 ≤ 191
    · have e2 : (1 < n ∧ b1 / 64 = 2) ∧ (2 < n ∧ b2 / 64 = 2) := by omega
      have e3 : b0 % 16 * 4096 + b1 % 64 * 64 + b2 % 64 ≥ 2048 ∧ (b0 % 16 * 4096 + b1 % 64 * 64 + b2 % 64 < 55296 ∨ (57344 ≤ b0 % 16 * 4096 + b1 % 64 * 64 + b2 % 64 ∧ b0 % 16 * 4096 + b1 % 64 * 64 + b2 % 64 ≤ 1114111)) := by omega
      rw [if_pos c, if_pos e2, if_pos e3]
      exact ⟨fun h => absurd h (by decide), fun _ => ⟨rfl, by omega, by omega⟩⟩
    · rw [if_neg c]
      refine ⟨fun _ => ?_, fun h => absurd rfl h⟩
      by_cases e2 : (1 < n ∧ b1 / 64 = 2) ∧ (2 < n ∧ b2 / 64 = 2)
      · rw [if_pos e2, if_neg (by omega)]
      · rw [if_neg e2, if_neg (by omega)]
  simp only [if_neg a3]
  by_cases a4 : 240 ≤ b0 ∧ b0 ≤ 244
  · have e : b0 / 8 = 30 := by omega
    have e' : ¬ b0 / 32 = 6 := by omega
    have e'' : ¬ b0 / 16 = 14 := by omega
    simp only [if_pos a4, e, e', e'', false_and, if_false, true_and]
    by_cases c : 3 < n ∧ (128 ≤ b1 ∧ b1 ≤ 191) ∧ (b0 = 240 → 144 ≤ b1) ∧ (b0 = 244 → b1 ≤ 143) ∧ (128 ≤ b2 ∧ b2 ≤ 191) ∧ 128 ≤ b3 ∧ b3 ≤ 191
    · have e2 : (1 < n ∧ b1 / 64 = 2) ∧ (2 < n ∧ b2 / 64 = 2) ∧ (3 < n ∧ b3 / 64 = 2) := by omega
      have e3 : b0 % 8 * 262144 + b1 % 64 * 4096 + b2 % 64 * 64 + b3 % 64 ≥ 65536 ∧ (b0 % 8 * 262144 + b1 % 64 * 4096 + b2 % 64 * 64 + b3 % 64 < 55296 ∨ (57344 ≤ b0 % 8 * 262144 + b1 % 64 * 4096 + b2 % 64 * 64 + b3 % 64 ∧ b0 % 8 * 262144 + b1 % 64 * 4096 + b2 % 64 * 64 + b3 % 64 ≤ 1114111)) := by omega
      rw [if_pos c, if_pos e2, if_pos e3]
      exact ⟨fun h => absurd h (by decide), fun _ => ⟨rfl, by omega, by omega⟩⟩
    · rw [if_neg c]
      refine ⟨fun _ => ?_, fun h => absurd rfl h⟩
      by_cases e2 : (1 < n ∧ b1 / 64 = 2) ∧ (2 < n ∧ b2 / 64 = 2) ∧ (3 < n ∧ b3 / 64 = 2)
      · rw [if_pos e2, if_neg (by omega)]
      · rw [if_neg e2]
  simp only [if_neg a4]
  refine ⟨fun _ => ?_, fun h => absurd rfl h⟩
  by_cases f1 : b0 / 32 = 6 ∧ (1 < n ∧ b1 / 64 = 2)
  · rw [if_pos f1, if_neg (by omega)]
  rw [if_neg f1, if_neg (by omega)]
  by_cases f2 : b0 / 8 = 30 ∧ (1 < n ∧ b1 / 64 = 2) ∧ (2 < n ∧ b2 / 64 = 2) ∧ (3 < n ∧ b3 / 64 = 2)
  · rw [if_pos f2, if_neg (by omega)]
  · rw [if_neg f2]
theorem runeN_M : ∀ (l : Bs), l ≠ [] → runeN l = runeM l.length (l.getD 0 0).toNat (l.getD 1 0).toNat (l.getD 2 0).toNat (l.getD 3 0).toNat
  | [], h => absurd rfl h
  | a :: l, _ => by
    have ha := a.toNat_lt
    simp only [runeN, runeM, List.getD_cons_zero, List.getD_cons_succ]
    by_cases a1 : a.toNat < 128
    · rw [if_pos a1, if_pos a1]
    rw [if_neg a1, if_neg a1]
    by_cases c194 : 194 ≤ a.toNat ∧ a.toNat ≤ 223
    · have hl : leadN a.toNat = some (0, 128, 191) := by unfold leadN; (repeat' split) <;> first | rfl | omega
      rw [hl]
      dsimp only
      rw [if_pos (by omega)]
      rcases l with _ | ⟨b, l⟩
      · rw [if_neg (by simp)]
      dsimp only
      simp only [List.getD_cons_zero]
      by_cases p : UInt8.toNat 128 ≤ b.toNat ∧ b.toNat ≤ UInt8.toNat 191
      · have p' : 128 ≤ b.toNat ∧ b.toNat ≤ 191 := p
        rw [if_pos p, if_pos ⟨by simp, p'⟩]
      · have p' : ¬ (128 ≤ b.toNat ∧ b.toNat ≤ 191) := p
        rw [if_neg p, if_neg (fun q => p' q.2)]
    by_cases c224 : 224 ≤ a.toNat ∧ a.toNat ≤ 224
    · have hl : leadN a.toNat = some (1, 160, 191) := by unfold leadN; (repeat' split) <;> first | rfl | omega
      rw [hl]
      dsimp only
      rw [if_neg (by omega), if_pos (by omega)]
      rcases l with _ | ⟨b, l⟩
      · rw [if_neg (by simp)]
      dsimp only
      simp only [List.getD_cons_zero, List.getD_cons_succ]
      by_cases p : UInt8.toNat 160 ≤ b.toNat ∧ b.toNat ≤ UInt8.toNat 191
      · have p' : 160 ≤ b.toNat ∧ b.toNat ≤ 191 := p
        rw [if_pos p]
        rcases l with _ | ⟨c, l⟩
        · rw [if_neg (by simp)]
        simp only [List.getD_cons_zero]
        by_cases q : 128 ≤ c.toNat ∧ c.toNat ≤ 191
        · rw [if_pos q, if_pos (by refine ⟨by simp, ?_⟩; omega)]
        · rw [if_neg q, if_neg (fun z => q z.2.2.2.2)]
      · have p' : ¬ (160 ≤ b.toNat ∧ b.toNat ≤ 191) := p
        rw [if_neg p, if_neg (by omega)]
    by_cases c225 : 225 ≤ a.toNat ∧ a.toNat ≤ 236
    · have hl : leadN a.toNat = some (1, 128, 191) := by unfold leadN; (repeat' split) <;> first | rfl | omega
      rw [hl]
      dsimp only
      rw [if_neg (by omega), if_pos (by omega)]
      rcases l with _ | ⟨b, l⟩
      · rw [if_neg (by simp)]
      dsimp only
      simp only [List.getD_cons_zero, List.getD_cons_succ]
      by_cases p : UInt8.toNat 128 ≤ b.toNat ∧ b.toNat ≤ UInt8.toNat 191
      · have p' : 128 ≤ b.toNat ∧ b.toNat ≤ 191 := p
        rw [if_pos p]
        rcases l with _ | ⟨c, l⟩
        · rw [if_neg (by simp)]
        simp only [List.getD_cons_zero]
        by_cases q : 128 ≤ c.toNat ∧ c.toNat ≤ 191
        · rw [if_pos q, if_pos (by refine ⟨by simp, ?_⟩; omega)]
        · rw [if_neg q, if_neg (fun z => q z.2.2.2.2)]
      · have p' : ¬ (128 ≤ b.toNat ∧ b.toNat ≤ 191) := p
        rw [if_neg p, if_neg (by omega)]
    by_cases c237 : 237 ≤ a.toNat ∧ a.toNat ≤ 237
    · have hl : leadN a.toNat = some (1, 128, 159) := by unfold leadN; (repeat' split) <;> first | rfl | omega
      rw [hl]
      dsimp only
      rw [if_neg (by omega), if_pos (by omega)]
      rcases l with _ | ⟨b, l⟩
      · rw [if_neg (by simp)]
      dsimp only
      simp only [List.getD_cons_zero, List.getD_cons_succ]
      by_cases p : UInt8.toNat 128 ≤ b.toNat ∧ b.toNat ≤ UInt8.toNat 159
      · have p' : 128 ≤ b.toNat ∧ b.toNat ≤ 159 := p
        rw [if_pos p]
        rcases l with _ | ⟨c, l⟩
        · rw [if_neg (by simp)]
        simp only [List.getD_cons_zero]
        by_cases q : 128 ≤ c.toNat ∧ c.toNat ≤ 191
        · rw [if_pos q, if_pos (by refine ⟨by simp, ?_⟩; omega)]
        · rw [if_neg q, if_neg (fun z => q z.2.2.2.2)]
      · have p' : ¬ (128 ≤ b.toNat ∧ b.toNat ≤ 159) := p
        rw [if_neg p, if_neg (by omega)]
    by_cases c238 : 238 ≤ a.toNat ∧ a.toNat ≤ 239
    · have hl : leadN a.toNat = some (1, 128, 191) := by unfold leadN; (repeat' split) <;> first | rfl | omega
      rw [hl]
      dsimp only
      rw [if_neg (by omega), if_pos (by omega)]
      rcases l with _ | ⟨b, l⟩
      · rw [if_neg (by simp)]
      dsimp only
      simp only [List.getD_cons_zero, List.getD_cons_succ]
      by_cases p : UInt8.toNat 128 ≤ b.toNat ∧ b.toNat ≤ UInt8.toNat 191
      · have p' : 128 ≤ b.toNat ∧ b.toNat ≤ 191 := p
        rw [if_pos p]
        rcases l with _ | ⟨c, l⟩
        · rw [if_neg (by simp)]
        simp only [List.getD_cons_zero]
        by_cases q : 128 ≤ c.toNat ∧ c.toNat ≤ 191
        · rw [if_pos q, if_pos (by refine ⟨by simp, ?_⟩; omega)]
        · rw [if_neg q, if_neg (fun z => q z.2.2.2.2)]
      · have p' : ¬ (128 ≤ b.toNat ∧ b.toNat ≤ 191) := p
        rw [if_neg p, if_neg (by omega)]
    by_cases c240 : 240 ≤ a.toNat ∧ a.toNat ≤ 240
    · have hl : leadN a.toNat = some (2, 144, 191) := by unfold leadN; (repeat' split) <;> first | rfl | omega
      rw [hl]
      dsimp only
      rw [if_neg (by omega), if_neg (by omega), if_pos (by omega)]
      rcases l with _ | ⟨b, l⟩
      · rw [if_neg (by simp)]
      dsimp only
      simp only [List.getD_cons_zero, List.getD_cons_succ]
      by_cases p : UInt8.toNat 144 ≤ b.toNat ∧ b.toNat ≤ UInt8.toNat 191
      · have p' : 144 ≤ b.toNat ∧ b.toNat ≤ 191 := p
        rw [if_pos p]
        rcases l with _ | ⟨c, _ | ⟨d, l⟩⟩
        · rw [if_neg (by simp)]
        · rw [if_neg (by simp)]
        simp only [List.getD_cons_zero, List.getD_cons_succ]
        by_cases q : (128 ≤ c.toNat ∧ c.toNat ≤ 191) ∧ (128 ≤ d.toNat ∧ d.toNat ≤ 191)
        · rw [if_pos q, if_pos (by refine ⟨by simp, ?_⟩; omega)]
        · rw [if_neg q, if_neg (fun z => q ⟨z.2.2.2.2.1, z.2.2.2.2.2⟩)]
      · have p' : ¬ (144 ≤ b.toNat ∧ b.toNat ≤ 191) := p
        rw [if_neg p, if_neg (by omega)]
    by_cases c241 : 241 ≤ a.toNat ∧ a.toNat ≤ 243
    · have hl : leadN a.toNat = some (2, 128, 191) := by unfold leadN; (repeat' split) <;> first | rfl | omega
      rw [hl]
      dsimp only
      rw [if_neg (by omega), if_neg (by omega), if_pos (by omega)]
      rcases l with _ | ⟨b, l⟩
      · rw [if_neg (by simp)]
      dsimp only
      simp only [List.getD_cons_zero, List.getD_cons_succ]
      by_cases p : UInt8.toNat 128 ≤ b.toNat ∧ b.toNat ≤ UInt8.toNat 191
      · have p' : 128 ≤ b.toNat ∧ b.toNat ≤ 191 := p
        rw [if_pos p]
        rcases l with _ | ⟨c, _ | ⟨d, l⟩⟩
        · rw [if_neg (by simp)]
        · rw [if_neg (by simp)]
        simp only [List.getD_cons_zero, List.getD_cons_succ]
        by_cases q : (128 ≤ c.toNat ∧ c.toNat ≤ 191) ∧ (128 ≤ d.toNat ∧ d.toNat ≤ 191)
        · rw [if_pos q, if_pos (by refine ⟨by simp, ?_⟩; omega)]
        · rw [if_neg q, if_neg (fun z => q ⟨z.2.2.2.2.1, z.2.2.2.2.2⟩)]
      · have p' : ¬ (128 ≤ b.toNat ∧ b.toNat ≤ 191) := p
        rw [if_neg p, if_neg (by omega)]
    by_cases c244 : 244 ≤ a.toNat ∧ a.toNat ≤ 244
    · have hl : leadN a.toNat = some (2, 128, 143) := by unfold leadN; (repeat' split) <;> first | rfl | omega
      rw [hl]
      dsimp only
      rw [if_neg (by omega), if_neg (by omega), if_pos (by omega)]
      rcases l with _ | ⟨b, l⟩
      · rw [if_neg (by simp)]
      dsimp only
      simp only [List.getD_cons_zero, List.getD_cons_succ]
      by_cases p : UInt8.toNat 128 ≤ b.toNat ∧ b.toNat ≤ UInt8.toNat 143
      · have p' : 128 ≤ b.toNat ∧ b.toNat ≤ 143 := p
        rw [if_pos p]
        rcases l with _ | ⟨c, _ | ⟨d, l⟩⟩
        · rw [if_neg (by simp)]
        · rw [if_neg (by simp)]
        simp only [List.getD_cons_zero, List.getD_cons_succ]
        by_cases q : (128 ≤ c.toNat ∧ c.toNat ≤ 191) ∧ (128 ≤ d.toNat ∧ d.toNat ≤ 191)
        · rw [if_pos q, if_pos (by refine ⟨by simp, ?_⟩; omega)]
        · rw [if_neg q, if_neg (fun z => q ⟨z.2.2.2.2.1, z.2.2.2.2.2⟩)]
      · have p' : ¬ (128 ≤ b.toNat ∧ b.toNat ≤ 143) := p
        rw [if_neg p, if_neg (by omega)]
    have hl : leadN a.toNat = none := by unfold leadN; (repeat' split) <;> first | rfl | omega
    rw [hl, if_neg (by omega), if_neg (by omega), if_neg (by omega)]

theorem text_step (c : UInt8) (l : Bs) : El.text (c :: l) = (!(runeN (c :: l) == 0) && (decide (32 ≤ c.toNat) || El.blank c) && El.text ((c :: l).drop (runeN (c :: l)))) := by
  have hc := c.toNat_lt
  unfold El.text
  by_cases a1 : c.toNat < 128
  · have e : (c < 128) = True := by simp [UInt8.lt_iff_toNat_lt]; exact a1
    have e2 : decide (32 ≤ c) = decide (32 ≤ c.toNat) := by simp [UInt8.le_iff_toNat_le]
    simp only [textS, e, if_true, runeN, a1, e2]
    simp
  · have e : ¬ (c < 128) := by rw [UInt8.lt_iff_toNat_lt]; exact a1
    have e2 : decide (32 ≤ c.toNat) = true := decide_eq_true (by omega)
    have hl : El.lead c = leadN c.toNat := by
      have := El.lead_n c.toNat hc
      rwa [UInt8.ofNat_toNat] at this
    rw [textS, if_neg e, hl]
    simp only [runeN, if_neg a1, e2, Bool.true_or, Bool.and_true]
    cases hn : leadN c.toNat with
    | none => simp
    | some s =>
      obtain ⟨k, lo, hi⟩ := s
      dsimp only
      have hk : k = 0 ∨ k = 1 ∨ k = 2 := by
        unfold leadN at hn
        repeat' (split at hn)
        all_goals first | (cases hn; done) | (cases hn; simp)
      have le : ∀ x y : UInt8, (x ≤ y) = (x.toNat ≤ y.toNat) := fun x y => propext UInt8.le_iff_toNat_le
      have d0 : ∀ (lo hi d : UInt8) (l : Bs), textS (some (0, lo, hi)) (d :: l) = (decide (lo.toNat ≤ d.toNat ∧ d.toNat ≤ hi.toNat) && textS none l) := fun lo hi d l => by
        simp only [textS, le, Bool.decide_and]
      have d1 : ∀ (k : Nat) (lo hi d : UInt8) (l : Bs), textS (some (k + 1, lo, hi)) (d :: l) = (decide (lo.toNat ≤ d.toNat ∧ d.toNat ≤ hi.toNat) && textS (some (k, 128, 191)) l) := fun k lo hi d l => by
        simp only [textS, le, Bool.decide_and]
      have dn : ∀ x, textS (some x) [] = false := fun x => rfl
      have q1 : (128 : UInt8).toNat = 128 := rfl
      have q2 : (191 : UInt8).toNat = 191 := rfl
      rcases hk with rfl | rfl | rfl
      · rcases l with _ | ⟨d, l⟩
        · rfl
        · rw [d0]
          dsimp only
          by_cases p : lo.toNat ≤ d.toNat ∧ d.toNat ≤ hi.toNat
          · rw [if_pos p, decide_eq_true p]; rfl
          · rw [if_neg p, decide_eq_false p]; rfl
      · rcases l with _ | ⟨d, _ | ⟨e, l⟩⟩
        · rfl
        · rw [d1, dn]
          dsimp only
          split <;> simp
        · rw [d1, d0, q1, q2]
          dsimp only
          by_cases p : lo.toNat ≤ d.toNat ∧ d.toNat ≤ hi.toNat
          · rw [if_pos p, decide_eq_true p]
            by_cases q : 128 ≤ e.toNat ∧ e.toNat ≤ 191
            · rw [if_pos q, decide_eq_true q]; rfl
            · rw [if_neg q, decide_eq_false q]; rfl
          · rw [if_neg p, decide_eq_false p]; rfl
      · rcases l with _ | ⟨d, _ | ⟨e, _ | ⟨f, l⟩⟩⟩
        · rfl
        · rw [d1, dn]
          dsimp only
          split <;> simp
        · rw [d1, d1, dn]
          dsimp only
          split <;> simp
        · rw [d1, d1, d0, q1, q2]
          dsimp only
          by_cases p : lo.toNat ≤ d.toNat ∧ d.toNat ≤ hi.toNat
          · rw [if_pos p, decide_eq_true p]
            by_cases q : (128 ≤ e.toNat ∧ e.toNat ≤ 191) ∧ (128 ≤ f.toNat ∧ f.toNat ≤ 191)
            · rw [if_pos q, decide_eq_true q.1, decide_eq_true q.2]; rfl
            · rw [if_neg q]
              by_cases q3 : 128 ≤ e.toNat ∧ e.toNat ≤ 191
              · rw [decide_eq_true q3, decide_eq_false (fun z => q ⟨q3, z⟩)]; rfl
              · rw [decide_eq_false q3]; rfl
          · rw [if_neg p, decide_eq_false p]; rfl

theorem beq_cast (n m : Nat) : ((n : Int) == (m : Int)) = (n == m) := by rw [Bool.eq_iff_iff]; simp; omega
theorem elem_sign_eq (k : Nat) (n : Nat) : yF.f k (n : Int) = some (decide (32 ≤ n) || n == 9 || n == 10 || n == 13) := by
  show yF.t k _ = _
  unfold yF.t
  have e9 : ((n : Int) == 9) = (n == 9) := beq_cast n 9
  have e10 : ((n : Int) == 10) = (n == 10) := beq_cast n 10
  have e13 : ((n : Int) == 13) = (n == 13) := beq_cast n 13
  have e32 : decide ((n : Int) ≥ 32) = decide (32 ≤ n) := by rw [decide_eq_decide]; omega
  rw [e9, e10, e13, e32]
  cases decide (32 ≤ n) <;> cases n == 9 <;> cases n == 10 <;> cases n == 13 <;> rfl
theorem blank_sign (c : UInt8) : El.blank c = (c.toNat == 9 || c.toNat == 10 || c.toNat == 13 || c.toNat == 32) := by
  revert c
  refine u8_all ?_
  decide +kernel
theorem decodeL_cons (c : UInt8) (l : Bs) : (runeN (c :: l) = 0 → Lib.decodeL (c :: l) = (65533, 1)) ∧
    (runeN (c :: l) ≠ 0 → (Lib.decodeL (c :: l)).2 = runeN (c :: l) ∧ (if c.toNat < 128 then (Lib.decodeL (c :: l)).1 = c.toNat else 128 ≤ (Lib.decodeL (c :: l)).1 ∧ 2 ≤ runeN (c :: l))) := by
  rw [Lib.decodeL_N, runeN_M _ (by simp)]
  exact decode_rune (UInt8.toNat_lt _) (UInt8.toNat_lt _) (UInt8.toNat_lt _) (UInt8.toNat_lt _)
theorem elem_text_loop {f : Int → Option Bool} {g : ByteArray → Option Bool} (hf : ∀ n : Nat, f (n : Int) = some (decide (32 ≤ n) || n == 9 || n == 10 || n == 13)) (s : ByteArray) (K : Nat) :
    ∀ (k i : Nat), i ≤ s.size → s.size < i + k → ∃ S, zW.L2 K f g k (s, false, s, (i : Int)) = some (bif S then .inl (s, false) else .inr false) ∧ (S && Lib.validD ((bl s).drop i)) = El.text ((bl s).drop i)
  | 0, i, hi, hk => by omega
  | k + 1, i, hi, hk => by
    simp only [zW.L2, zW.L2.S, Int.toNat_natCast]
    by_cases h : i < s.size
    · have hd := drop_cons (l := bl s) (i := i) (by rw [← size_bl]; exact h)
      have hst := text_step ((bl s).getD i 0) ((bl s).drop (i + 1))
      have hdc := decodeL_cons ((bl s).getD i 0) ((bl s).drop (i + 1))
      have hv := Lib.validD_step ((bl s).drop i) (by rw [hd]; simp)
      have hbs := blank_sign ((bl s).getD i 0)
      rw [← hd] at hst hdc
      have hdl : Lib.decodeL ((bl s).drop i) = Utf8.decode s i := Lib.decodeL_drop s i
      have hw := Lib.decodeL_width ((bl s).drop i)
      have hwl := Lib.decodeL_le ((bl s).drop i) (by rw [hd]; simp)
      rw [List.length_drop, ← size_bl] at hwl
      obtain ⟨S', ih1, ih2⟩ := elem_text_loop (g := g) hf s K k (i + (Lib.decodeL ((bl s).drop i)).2) (by omega) (by omega)
      rw [hdl] at ih1
      rw [if_pos h, hf, Option.bind_some, ih1, ← hdl]
      generalize hdd : Lib.decodeL ((bl s).drop i) = d at hdc hv hw ih2
      obtain ⟨d1, d2⟩ := d
      dsimp only at hdc hv hw ih2 ⊢
      rw [← List.drop_drop] at ih2
      by_cases hr : runeN ((bl s).drop i) = 0
      · obtain ⟨rfl, rfl⟩ : d1 = 65533 ∧ d2 = 1 := by have := hdc.1 hr; simpa using this
        refine ⟨S', by rfl, ?_⟩
        rw [hv, hst, hr]; simp
      · obtain ⟨rfl, h2⟩ := hdc.2 hr
        have hnv : ¬ (d1 = 65533 ∧ runeN ((bl s).drop i) = 1) := by
          rintro ⟨q1, q2⟩
          have hc := ((bl s).getD i 0).toNat_lt
          split at h2 <;> omega
        rw [if_neg hnv] at hv
        have h3 : (decide (32 ≤ d1) || d1 == 9 || d1 == 10 || d1 == 13) = (decide (32 ≤ ((bl s).getD i 0).toNat) || El.blank ((bl s).getD i 0)) := by
          rw [hbs]
          split at h2
          · subst h2
            generalize ((bl s).getD i 0).toNat = n
            by_cases q : 32 ≤ n
            · simp [q]
            · have : (n == 32) = false := beq_eq_false_iff_ne.2 (by omega)
              rw [this]; simp [q]
          · rw [decide_eq_true (show 32 ≤ d1 by omega), decide_eq_true (show 32 ≤ ((bl s).getD i 0).toNat by omega)]; simp
        rw [h3]
        cases hg : (decide (32 ≤ ((bl s).getD i 0).toNat) || El.blank ((bl s).getD i 0)) with
        | true =>
          refine ⟨S', by rfl, ?_⟩
          rw [hv, hst, hg, beq_eq_false_iff_ne.2 hr, ← ih2]; simp
        | false =>
          refine ⟨false, by rfl, ?_⟩
          rw [hst, hg]; simp
    · refine ⟨true, by rw [if_neg h]; rfl, ?_⟩
      rw [List.drop_eq_nil_of_le (by rw [← size_bl]; omega)]; rfl
theorem elem_text_eq (k : Nat) (s : ByteArray) (hk : s.size < k) (hs : s.size ≤ 1000000000) : zW.f k s = some (El.text (bl s)) := by
  show zW.t k _ _ s = _
  unfold zW.t
  obtain ⟨S, h1, h2⟩ := elem_text_loop (f := yF.f k) (g := yG.f) (elem_sign_eq k) s k k 0 (by omega) (by omega)
  rw [h1, ← show El.text ((bl s).drop 0) = El.text (bl s) by rw [List.drop_zero], ← h2]
  cases S with
  | true => simp [yG.f, hs, bl]
  | false => rfl
end Go.Proofs.YtphlamnaaogmaaaGreatDoor.M

namespace Go.Proofs.YtphlamnaaogmaaaGreatDoor.M
open Go Go.RowKit Go.Proofs Go.Proofs.Qx Go.Proofs.El
set_option linter.unusedVariables false
set_option linter.unusedSimpArgs false

def encA (a : Bs × Bs) : List D := [.str (tb a.1), .str (tb a.2)]
mutual
def row : El → List D
  | .mk n a t k => [.str (tb n), .seq (a.map encA), .str (tb t), .seq (rows k)]
def rows : List El → List (List D)
  | [] => []
  | e :: l => row e :: rows l
end
theorem rows_map : ∀ l : List El, rows l = l.map row
  | [] => rfl
  | e :: l => by simp [rows, rows_map l]
theorem rows_len (l : List El) : (rows l).length = l.length := by simp [rows_map]
theorem rows_app (l m : List El) : rows (l ++ m) = rows l ++ rows m := by simp [rows_map]
mutual
def wt : El → Nat
  | .mk n a t k => 1 + n.length + a.length + (a.map fun x => x.1.length + x.2.length).sum + t.length + wts k
def wts : List El → Nat
  | [] => 0
  | e :: l => wt e + wts l
end
theorem wt_pos (e : El) : 1 ≤ wt e := by cases e; simp [wt]; omega
theorem wts_mem : ∀ {l : List El} {e : El}, e ∈ l → wt e ≤ wts l
  | x :: l, e, h => by
    simp only [wts]
    rcases List.mem_cons.1 h with rfl | h
    · omega
    · have := wts_mem h; omega
theorem wts_len : ∀ l : List El, l.length ≤ wts l
  | [] => by simp
  | e :: l => by have := wts_len l; have := wt_pos e; simp only [wts, List.length_cons]; omega
theorem sum_mem {α : Type} {f : α → Nat} : ∀ {l : List α} {x : α}, x ∈ l → f x ≤ (l.map f).sum
  | y :: l, x, h => by
    simp only [List.map_cons, List.sum_cons]
    rcases List.mem_cons.1 h with rfl | h
    · omega
    · have := sum_mem (f := f) h; omega

theorem at_attr {a : List (Bs × Bs)} {i : Nat} (h : i < a.length) : (D.at (a.map encA) i 0).toStr = tb a[i].1 ∧ (D.at (a.map encA) i 1).toStr = tb a[i].2 := by
  simp [D.at, List.getD_eq_getElem?_getD, h, encA, D.toStr]
theorem at_row {l : List El} {i : Nat} (h : i < l.length) : (D.at (rows l) i 0).toStr = tb l[i].name ∧ (D.at (rows l) i 1).toSeq = l[i].attrs.map encA ∧ (D.at (rows l) i 2).toStr = tb l[i].text ∧ (D.at (rows l) i 3).toSeq = rows l[i].kids := by
  have e : (rows l).getD i [] = row l[i] := by simp [rows_map, List.getD_eq_getElem?_getD, h]
  simp only [D.at, e]
  cases l[i]
  simp [row, D.toStr, D.toSeq, El.El.name, El.El.attrs, El.El.text, El.El.kids]
theorem drop_get {α : Type} {l : List α} {i : Nat} (h : i < l.length) : l.drop i = l[i] :: l.drop (i + 1) := List.drop_eq_getElem_cons h

def nameIn (x : Bs) (l : List (Bs × Bs)) : Bool := l.any fun b => b.1 == x
def chkA : List (Bs × Bs) → List (Bs × Bs) → Bool
  | _, [] => true
  | p, a :: l => El.name a.1 && El.text a.2 && !(nameIn a.1 p) && chkA (p ++ [a]) l
theorem bs_comm (x y : Bs) : (x == y) = (y == x) := by rw [Bool.eq_iff_iff, beq_iff_eq, beq_iff_eq]; exact eq_comm
theorem chkA_eq : ∀ (l p : List (Bs × Bs)), chkA p l = (attrsOk l && l.all fun a => !(nameIn a.1 p))
  | [], p => rfl
  | a :: l, p => by
    simp only [chkA, chkA_eq l (p ++ [a]), attrsOk, List.all_cons]
    have e : (l.all fun b => !(nameIn b.1 (p ++ [a]))) = (l.all (fun b => !(b.1 == a.1)) && l.all fun b => !(nameIn b.1 p)) := by
      rw [Bool.eq_iff_iff]
      simp only [List.all_eq_true, Bool.and_eq_true, nameIn, List.any_append, List.any_cons, List.any_nil, Bool.or_false, Bool.not_or]
      constructor
      · intro h
        refine ⟨fun b hb => ?_, fun b hb => (h b hb).1⟩
        have := (h b hb).2
        rw [show (b.1 == a.1) = (a.1 == b.1) from bs_comm _ _]
        exact this
      · rintro ⟨h1, h2⟩ b hb
        refine ⟨h2 b hb, ?_⟩
        have := h1 b hb
        rw [show (b.1 == a.1) = (a.1 == b.1) from bs_comm _ _] at this
        exact this
    rw [e]
    cases El.name a.1 <;> cases El.text a.2 <;> cases nameIn a.1 p <;> cases attrsOk l <;> simp [Bool.and_comm]
theorem attrsOk_chk (l : List (Bs × Bs)) : attrsOk l = chkA [] l := by rw [chkA_eq]; simp [nameIn]
theorem toList_tb (l : Bs) : (tb l).toList = l := toList_bl _

theorem elem_dup_loop {f g : ByteArray → Option Bool} (p : List (Bs × Bs)) (hp : p.length ≤ 9223372036854775806) (x4 : Bs) (x5 : ByteArray) (x1 : Int) (K : Nat) : ∀ (d i k : Nat), i + d = p.length → d < k →
    ∃ r, zH.L94_2 K f g k (p.map encA, x1, (p.length : Int), (i : Int), tb x4, x5) = some r ∧ (match r with | .inl y => nameIn x4 (p.drop i) = false | .inr y => nameIn x4 (p.drop i) = true ∧ 0 ≤ y.1)
  | 0, i, k + 1, h, hk => by
    simp only [zH.L94_2, zH.L94_2.S, dec_nlt (show p.length ≤ i by omega), cond_false]
    refine ⟨_, rfl, ?_⟩
    rw [List.drop_eq_nil_of_le (by omega)]; rfl
  | d + 1, i, k + 1, h, hk => by
    have hi : i < p.length := by omega
    obtain ⟨r, ih1, ih2⟩ := elem_dup_loop (f := f) (g := g) p hp x4 x5 x1 K d (i + 1) k (by omega) (by omega)
    have hlm : (p.map encA).length = p.length := by simp
    simp only [zH.L94_2, zH.L94_2.S, dec_lt hi, cond_true, hlm, in_lt hi, Int.toNat_natCast, (at_attr hi).1, toList_tb, wr1 hi (by omega), ih1]
    rw [drop_get hi]
    simp only [nameIn, List.any_cons]
    cases hq : (p[i].1 == x4) with
    | true => exact ⟨_, rfl, by simp, by omega⟩
    | false => exact ⟨r, rfl, by simp only [Bool.false_or]; exact ih2⟩
theorem elem_attrs_loop {f g : ByteArray → Option Bool} (a : List (Bs × Bs)) (ha : a.length ≤ 1000000000) (hf : ∀ x ∈ a, f (tb x.1) = some (El.name x.1)) (hg : ∀ x ∈ a, g (tb x.2) = some (El.text x.2)) (K : Nat) (hK : a.length < K) : ∀ (d i k : Nat), i + d = a.length → d < k →
    zH.L2 K f g k (a.map encA, false, a.map encA, (a.length : Int), (i : Int)) = some (bif chkA (a.take i) (a.drop i) then .inl false else .inr false)
  | 0, i, k + 1, h, hk => by
    simp only [zH.L2, zH.L2.S, dec_nlt (show a.length ≤ i by omega), cond_false]
    rw [List.drop_eq_nil_of_le (by omega)]; rfl
  | d + 1, i, k + 1, h, hk => by
    have hi : i < a.length := by omega
    have ih := elem_attrs_loop a ha hf hg K hK d (i + 1) k (by omega) (by omega)
    have hlm : (a.map encA).length = a.length := by simp
    have htk : (a.take i).length = i := by simp; omega
    obtain ⟨r, hr1, hr2⟩ := elem_dup_loop (f := f) (g := g) (a.take i) (by omega) a[i].1 (tb a[i].2) 0 K i 0 K (by omega) (by omega)
    rw [htk] at hr1
    rw [List.drop_zero] at hr2
    have hmt : (List.take i (a.map encA)) = (a.take i).map encA := by simp [List.map_take]
    have h00 : ∀ x y : Option (Bool ⊕ Bool), (if (0 : Int) ≤ 0 ∧ (0 : Int) ≤ (i : Int) then x else y) = x := fun x y => if_pos (by omega)
    have hmi : a[i] ∈ a := List.getElem_mem hi
    have htk2 : ((a.take i).map encA).length = i := by simp; omega
    simp only [Int.natCast_zero] at hr1
    simp only [zH.L2, zH.L2.S, dec_lt hi, cond_true, hlm, in_lt hi, in_le (Nat.le_of_lt hi), h00, Int.toNat_natCast, Int.toNat_zero, List.drop_zero, (at_attr hi).1, (at_attr hi).2, hf _ hmi, hg _ hmi, Option.bind_some, hmt, htk2, hr1, wr1 hi (by omega), ih]
    rw [drop_get hi]
    simp only [chkA]
    rw [← List.take_append_getElem hi]
    cases El.name a[i].1 with
    | false => rfl
    | true =>
      cases El.text a[i].2 with
      | false => rfl
      | true =>
        cases r with
        | inl y => dsimp only at hr2; rw [hr2]; simp
        | inr y =>
          obtain ⟨q1, q2⟩ := hr2
          rw [q1]
          simp [q2]
theorem elem_attrs_eq (k : Nat) (a : List (Bs × Bs)) (hk : a.length < k) (ha : a.length ≤ 1000000000) (h1 : ∀ x ∈ a, x.1.length < k ∧ x.1.length ≤ 1000000000) (h2 : ∀ x ∈ a, x.2.length < k ∧ x.2.length ≤ 1000000000) : zH.f k (a.map encA) = some (attrsOk a) := by
  show zH.t k _ _ _ = _
  unfold zH.t
  have := elem_attrs_loop a ha (f := zV.f k) (g := zW.f k) (fun x hx => elem_name_eq k (tb x.1) (h1 x hx).1 (by have := (h1 x hx).2; rw [size_tb]; omega)) (fun x hx => elem_text_eq k (tb x.2) (h2 x hx).1 (h2 x hx).2) k hk a.length 0 k (by omega) hk
  have hlm : (a.map encA).length = a.length := by simp
  simp only [Int.natCast_zero, List.take_zero, List.drop_zero] at this
  rw [hlm, this, attrsOk_chk]
  cases chkA [] a <;> rfl
end Go.Proofs.YtphlamnaaogmaaaGreatDoor.M
