import Derived.Test.YtphlamnaaogmaaaGreatDoorE2
import Derived.Test.YtphlamnaaogmaaaGreatDoorPuC
import Derived.Test.YtphlamnaaogmaaaGreatDoorE15
namespace Go.Proofs.YtphlamnaaogmaaaGreatDoor.M
open Go Go.RowKit Go.Proofs Go.Proofs.Qx Go.Proofs.El
set_option linter.unusedVariables false
set_option linter.unusedSimpArgs false

theorem ref_sameA_loop {F : ByteArray → List (List D) → ByteArray → List (List D) → ByteArray → List (List D) → ByteArray → List (List D) → Option Bool} (a b : List (Bs × Bs)) (hab : a.length = b.length) (hl : a.length ≤ 1000000000) (x0 : Bool) (y0 y4 y2 y6 : ByteArray) (y3 y7 : List (List D)) (K : Nat) : ∀ (m i k : Nat), i + m = a.length → m < k →
    zA.L4 K F k (x0, (i : Int), y0, a.map encA, y2, y3, y4, b.map encA, y6, y7) = some (bif a.drop i == b.drop i then .inl (x0, y0, a.map encA, y2, y3, y4, b.map encA, y6, y7) else .inr false)
  | 0, i, k + 1, hi, hk => by
    have hla : (a.map encA).length = a.length := by simp
    simp only [zA.L4, zA.L4.S, hla, dec_nlt (show a.length ≤ i by omega), cond_false]
    rw [List.drop_eq_nil_of_le (by omega), List.drop_eq_nil_of_le (by omega)]; rfl
  | m + 1, i, k + 1, hi, hk => by
    have hia : i < a.length := by omega
    have hib : i < b.length := by omega
    have hla : (a.map encA).length = a.length := by simp
    have hlb : (b.map encA).length = b.length := by simp
    have hdl : decide ((i : Int) < ((a.map encA).length : Int)) = true := decide_eq_true (by rw [hla]; omega)
    simp only [zA.L4, zA.L4.S, hdl, cond_true]
    simp only [hla, hlb, in_lt hia, in_lt hib, Int.toNat_natCast, (at_attr hia).1, (at_attr hia).2, (at_attr hib).1, (at_attr hib).2, attrEq, wr1 hia (by omega),
      ref_sameA_loop a b hab hl x0 y0 y4 y2 y6 y3 y7 K m (i + 1) k (by omega) (by omega)]
    rw [drop_get hia, drop_get hib, List.cons_beq_cons]
    cases a[i] == b[i] <;> rfl
theorem ref_sameK_loop {F : ByteArray → List (List D) → ByteArray → List (List D) → ByteArray → List (List D) → ByteArray → List (List D) → Option Bool} (a b : List El) (hab : a.length = b.length) (hl : a.length ≤ 1000000000)
    (hF : ∀ e ∈ a, ∀ e' ∈ b, F (tb e.name) (e.attrs.map encA) (tb e.text) (rows e.kids) (tb e'.name) (e'.attrs.map encA) (tb e'.text) (rows e'.kids) = some (same e e')) (x0 : Bool) (y0 y4 y2 y6 : ByteArray) (y1 y5 : List (List D)) (K : Nat) : ∀ (m i k : Nat), i + m = a.length → m < k →
    zA.L9 K F k (x0, (i : Int), y0, y1, y2, rows a, y4, y5, y6, rows b) = some (bif sames (a.drop i) (b.drop i) then .inl x0 else .inr false)
  | 0, i, k + 1, hi, hk => by
    have hd : decide ((i : Int) < ((rows a).length : Int)) = false := decide_eq_false (by rw [rows_len]; omega)
    simp only [zA.L9, zA.L9.S, hd, cond_false]
    rw [List.drop_eq_nil_of_le (by omega), List.drop_eq_nil_of_le (by omega)]; rfl
  | m + 1, i, k + 1, hi, hk => by
    have hia : i < a.length := by omega
    have hib : i < b.length := by omega
    have hd : decide ((i : Int) < ((rows a).length : Int)) = true := decide_eq_true (by rw [rows_len]; omega)
    obtain ⟨a1, a2, a3, a4⟩ := at_row hia
    obtain ⟨b1, b2, b3, b4⟩ := at_row hib
    have ih := ref_sameK_loop a b hab hl hF x0 y0 y4 y2 y6 y1 y5 K m (i + 1) k (by omega) (by omega)
    simp only [zA.L9, zA.L9.S, hd, cond_true]
    simp only [rows_len, in_lt hia, in_lt hib, Int.toNat_natCast, a1, a2, a3, a4, b1, b2, b3, b4, hF _ (List.getElem_mem hia) _ (List.getElem_mem hib), Option.bind_some, wr1 hia (by omega), ih]
    rw [drop_get hia, drop_get hib]
    simp only [sames]
    cases same a[i] b[i] <;> rfl
theorem ref_Same_eq : ∀ (W : Nat) (e e' : El) (k : Nat), wt e ≤ W → W < k → W ≤ 1000000000 → zA.f k (tb e.name) (e.attrs.map encA) (tb e.text) (rows e.kids) (tb e'.name) (e'.attrs.map encA) (tb e'.text) (rows e'.kids) = some (same e e')
  | 0, e, e', k, hW, hk, hb => by have := wt_pos e; omega
  | W + 1, .mk n a t ks, .mk n' a' t' ks', 0, hW, hk, hb => by omega
  | W + 1, .mk n a t ks, .mk n' a' t' ks', k + 1, hW, hk, hb => by
    obtain ⟨p1, p2, p3, p4, p5⟩ := wt_parts hW
    have hks := wts_len ks
    have hla : (a.map encA).length = a.length := by simp
    have hla' : (a'.map encA).length = a'.length := by simp
    simp only [El.El.name, El.El.attrs, El.El.text, El.El.kids, zA.f, zA.t, same, tbEq, hla, hla', lenEq, rows_len]
    cases hn : n == n' with
    | false => rfl
    | true =>
      cases ht : t == t' with
      | false => simp only [Bool.not_true, cond_false, Bool.not_false, cond_true]; cases a == a' <;> rfl
      | true =>
        by_cases hal : a.length = a'.length
        · have e1 : (a.length == a'.length) = true := beq_iff_eq.2 hal
          by_cases hkl : ks.length = ks'.length
          · have e2 : (ks.length == ks'.length) = true := beq_iff_eq.2 hkl
            have h1 := ref_sameA_loop (F := zA.f k) a a' hal (by omega) false (tb n) (tb n') (tb t) (tb t') (rows ks) (rows ks') k a.length 0 k (by omega) (by omega)
            have h2 := ref_sameK_loop (F := zA.f k) ks ks' hkl (by omega) (fun e he e' _ => ref_Same_eq W e e' k (by have := wts_mem he; omega) (by omega) (by omega)) false (tb n) (tb n') (tb t) (tb t') (a.map encA) (a'.map encA) k ks.length 0 k (by omega) (by omega)
            simp only [Int.natCast_zero, List.drop_zero] at h1 h2
            simp only [e1, e2, h1, cond_true, Bool.not_true, cond_false, Option.bind_some]
            cases haa : a == a' with
            | false => rfl
            | true =>
              simp only [cond_true, Sum.elim_inl, Prod.q1, Prod.q2, Prod.q3, Prod.q4, Prod.q5, Prod.q6, Prod.q7, Prod.r8, h2, Option.bind_some]
              cases sames ks ks' <;> rfl
          · have e2 : (ks.length == ks'.length) = false := beq_eq_false_iff_ne.2 hkl
            rw [e1, e2, sames_ne hkl, Bool.and_false]; rfl
        · have e1 : (a.length == a'.length) = false := beq_eq_false_iff_ne.2 hal
          have e2 : (a == a') = false := by
            cases h : a == a' with
            | false => rfl
            | true => rw [beq_iff_eq] at h; exact absurd (by rw [h]) hal
          rw [e1, e2]; rfl

theorem td (n m : Nat) : (n : Int).tdiv (m : Int) = ((n / m : Nat) : Int) := (Int.ofNat_tdiv n m).symm
theorem tm (n m : Nat) : (n : Int).tmod (m : Int) = ((n % m : Nat) : Int) := (Int.ofNat_tmod n m).symm
theorem u8w {n : Nat} (h : n < 256) : IntKind.u8.wrap (n : Int) = (n : Int) := by
  exact Go.IntWalk.u8_in _ (by omega)
theorem addN (a n : Nat) (h : a + n < 256) : IntKind.u8.wrap (IntKind.i64.wrap ((a : Int) + (n : Int))) = ((a + n : Nat) : Int) := by
  rw [wrI (by omega) (by omega)]; exact u8w h
theorem ref_Sign_J2 {n : Nat} (h : n ≤ 1114111) : zU.t.J2 (n : Int) = some (tb (if n < 128 then [UInt8.ofNat n]
  else if n < 2048 then [UInt8.ofNat (192 + n / 64), UInt8.ofNat (128 + n % 64)]
  else if n < 65536 then [UInt8.ofNat (224 + n / 4096), UInt8.ofNat (128 + n / 64 % 64), UInt8.ofNat (128 + n % 64)]
  else [UInt8.ofNat (240 + n / 262144), UInt8.ofNat (128 + n / 4096 % 64), UInt8.ofNat (128 + n / 64 % 64), UInt8.ofNat (128 + n % 64)]), true) := by
  unfold zU.t.J2
  have t64 : (n : Int).tdiv 64 = ((n / 64 : Nat) : Int) := td n 64
  have t4096 : (n : Int).tdiv 4096 = ((n / 4096 : Nat) : Int) := td n 4096
  have t262144 : (n : Int).tdiv 262144 = ((n / 262144 : Nat) : Int) := td n 262144
  have w64 : IntKind.i64.wrap ((n / 64 : Nat) : Int) = ((n / 64 : Nat) : Int) := wrI (by omega) (by omega)
  have w4096 : IntKind.i64.wrap ((n / 4096 : Nat) : Int) = ((n / 4096 : Nat) : Int) := wrI (by omega) (by omega)
  have w262144 : IntKind.i64.wrap ((n / 262144 : Nat) : Int) = ((n / 262144 : Nat) : Int) := wrI (by omega) (by omega)
  have m0 : (n : Int).tmod 64 = ((n % 64 : Nat) : Int) := tm n 64
  have m1 : ((n / 64 : Nat) : Int).tmod 64 = ((n / 64 % 64 : Nat) : Int) := tm _ 64
  have m2 : ((n / 4096 : Nat) : Int).tmod 64 = ((n / 4096 % 64 : Nat) : Int) := tm _ 64
  simp only [t64, t4096, t262144, w64, w4096, w262144, m0, m1, m2]
  by_cases h1 : n < 128
  · rw [decide_eq_true (show (n : Int) < 128 by omega), u8w (by omega), if_pos h1]; rfl
  · rw [decide_eq_false (show ¬ (n : Int) < 128 by omega), if_neg h1]
    by_cases h2 : n < 2048
    · rw [decide_eq_true (show (n : Int) < 2048 by omega), if_pos h2]
      simp only [cond_true, cond_false]
      rw [show (192 : Int) = ((192 : Nat) : Int) from rfl, show (128 : Int) = ((128 : Nat) : Int) from rfl, addN 192 (n / 64) (by omega), addN 128 (n % 64) (by omega)]; rfl
    · rw [decide_eq_false (show ¬ (n : Int) < 2048 by omega), if_neg h2]
      by_cases h3 : n < 65536
      · rw [decide_eq_true (show (n : Int) < 65536 by omega), if_pos h3]
        simp only [cond_true, cond_false]
        rw [show (224 : Int) = ((224 : Nat) : Int) from rfl, show (128 : Int) = ((128 : Nat) : Int) from rfl, addN 224 (n / 4096) (by omega), addN 128 (n / 64 % 64) (by omega), addN 128 (n % 64) (by omega)]; rfl
      · rw [decide_eq_false (show ¬ (n : Int) < 65536 by omega), if_neg h3]
        simp only [cond_true, cond_false]
        rw [show (240 : Int) = ((240 : Nat) : Int) from rfl, show (128 : Int) = ((128 : Nat) : Int) from rfl, addN 240 (n / 262144) (by omega), addN 128 (n / 4096 % 64) (by omega), addN 128 (n / 64 % 64) (by omega), addN 128 (n % 64) (by omega)]; rfl
def signB : Option Bs → ByteArray × Bool
  | some v => (tb v, true)
  | none => (ByteArray.mk #[], false)
theorem cT {α : Type} (x y : α) : (bif true then x else y) = x := of_eq_true (eq_self x)
theorem cF {α : Type} (x y : α) : (bif false then x else y) = y := of_eq_true (eq_self y)
theorem ref_Sign_eq (k n : Nat) : zU.f k (n : Int) = some (signB (sign n)) := by
  show zU.t k (n : Int) = _
  by_cases hbig : n ≤ 1114111
  · have hJ := ref_Sign_J2 hbig
    have hs : ∀ b : Bool, b = (n > 1114111 || (55296 ≤ n && n ≤ 57343) || (n < 32 && !(n == 9) && !(n == 10) && !(n == 13))) → (bif b then some (ByteArray.mk #[], false) else zU.t.J2 (n : Int)) = some (signB (sign n)) := by
      intro b hb
      unfold sign
      rw [← hb, hJ]
      cases b with
      | true => simp only [cT, if_true, signB]
      | false =>
        simp only [cF, Bool.false_eq_true, if_false]
        split
        · rfl
        · split
          · rfl
          · split <;> rfl
    have e9 : ((n : Int) == 9) = (n == 9) := beq_cast n 9
    have e10 : ((n : Int) == 10) = (n == 10) := beq_cast n 10
    have e13 : ((n : Int) == 13) = (n == 13) := beq_cast n 13
    unfold zU.t zU.t.J3
    rw [decide_eq_false (show ¬ (n : Int) < 0 by omega), decide_eq_false (show ¬ (n : Int) > 1114111 by omega), e9, e10, e13]
    simp only [cF]
    have d0 : decide (n > 1114111) = false := decide_eq_false (by omega)
    by_cases h1 : 55296 ≤ n
    · have d32 : decide (n < 32) = false := decide_eq_false (by omega)
      rw [decide_eq_true (show (n : Int) ≥ 55296 by omega)]
      by_cases h2 : n ≤ 57343
      · rw [decide_eq_true (show (n : Int) ≤ 57343 by omega), ← hs true (by rw [decide_eq_true h1, decide_eq_true h2, d0]; simp only [Bool.false_or, Bool.and_self, Bool.true_or])]; simp only [cT, cF]
      · rw [decide_eq_false (show ¬ (n : Int) ≤ 57343 by omega), decide_eq_false (show ¬ (n : Int) < 32 by omega), ← hs false (by rw [decide_eq_true h1, decide_eq_false h2, d0, d32]; simp only [Bool.false_or, Bool.and_false, Bool.false_and])]; simp only [cT, cF]
    · rw [decide_eq_false (show ¬ (n : Int) ≥ 55296 by omega)]
      simp only [cF]
      by_cases h3 : n < 32
      · rw [decide_eq_true (show (n : Int) < 32 by omega)]
        rw [← hs (!(n == 9) && !(n == 10) && !(n == 13)) (by rw [decide_eq_false h1, d0, decide_eq_true h3]; simp)]
        cases n == 9 <;> cases n == 10 <;> cases n == 13 <;> simp only [Bool.not_true, Bool.not_false, Bool.and_true, Bool.true_and, Bool.false_and, Bool.and_false, Bool.and_self, cT, cF]
      · rw [decide_eq_false (show ¬ (n : Int) < 32 by omega), ← hs false (by rw [decide_eq_false h1, d0, decide_eq_false h3]; simp only [Bool.false_or, Bool.false_and])]; simp only [cT, cF]
  · unfold zU.t sign
    rw [decide_eq_false (show ¬ (n : Int) < 0 by omega), decide_eq_true (show (n : Int) > 1114111 by omega)]
    rw [decide_eq_true (show n > 1114111 by omega)]
    simp only [cT, cF, Bool.true_or, if_true, signB]
end Go.Proofs.YtphlamnaaogmaaaGreatDoor.M

namespace Go.Proofs.YtphlamnaaogmaaaGreatDoor.M
open Go Go.RowKit Go.Proofs Go.Proofs.Qx Go.Proofs.El
set_option linter.unusedVariables false
set_option linter.unusedSimpArgs false

def tbl10 : ByteArray := ByteArray.mk #[48, 49, 50, 51, 52, 53, 54, 55, 56, 57]
def tbl16 : ByteArray := ByteArray.mk #[48, 49, 50, 51, 52, 53, 54, 55, 56, 57, 97, 66, 99, 68, 101, 70]
theorem tbl10_at : ∀ n, n < 10 → bl (tbl10.extract n (n + 1)) = [dec10 n] := by decide
theorem tbl16_at : ∀ n, n < 16 → bl (tbl16.extract n (n + 1)) = [dec16 n] := by decide
theorem ten_at {n : Nat} (h : n < 10) : tbl10.extract n (n + 1) = tb [dec10 n] := bl_inj (tbl10_at n h)
theorem hex_at {n : Nat} (h : n < 16) : tbl16.extract n (n + 1) = tb [dec16 n] := bl_inj (tbl16_at n h)
theorem digs_len {dg : Nat → UInt8} {b : Nat} : ∀ (m n : Nat), (digs dg b m n).length ≤ m
  | 0, n => by simp [digs]
  | m + 1, n => by
    unfold digs
    split
    · simp
    · have := digs_len (dg := dg) (b := b) m (n / b)
      rw [List.length_append]; simp; omega
theorem decimal_eq : ∀ (m n k : Nat), n < 10 ^ m → 0 < m → m ≤ k → m ≤ 100 → n ≤ 1000000000 → zT.f k (n : Int) = some (tb (digs dec10 10 m n))
  | 0, n, k, h, h0, hk, hm, hn => by omega
  | m + 1, n, 0, h, h0, hk, hm, hn => by omega
  | m + 1, n, k + 1, h, h0, hk, hm, hn => by
    have td10 : (n : Int).tdiv 10 = ((n / 10 : Nat) : Int) := td n 10
    have tm10 : (n : Int).tmod 10 = ((n % 10 : Nat) : Int) := tm n 10
    have w10 : IntKind.i64.wrap ((n / 10 : Nat) : Int) = ((n / 10 : Nat) : Int) := wrI (by omega) (by omega)
    have wm : IntKind.i64.wrap (((n % 10 : Nat) : Int) + 1) = ((n % 10 + 1 : Nat) : Int) := wr1 (n := 10) (by omega) (by omega)
    have wn : IntKind.i64.wrap ((n : Int) + 1) = ((n + 1 : Nat) : Int) := wr1 (n := 1000000001) (by omega) (by omega)
    have hsz : ((ByteArray.mk #[48, 49, 50, 51, 52, 53, 54, 55, 56, 57]).size : Int) = 10 := rfl
    show zT.t k (zT.f k) (n : Int) = _
    unfold zT.t digs
    by_cases h10 : n < 10
    · rw [decide_eq_true (show (n : Int) < 10 by omega), if_pos h10, wn, hsz, cT, if_pos (by omega), if_pos (by omega)]
      simp only [Int.toNat_natCast]
      exact congrArg some (ten_at h10)
    · rw [decide_eq_false (show ¬ (n : Int) < 10 by omega), if_neg h10, cF, td10, w10]
      have hm0 : 0 < m := by
        cases m with
        | zero => simp at h; omega
        | succ m => omega
      have hp : n / 10 < 10 ^ m := by
        rw [Nat.pow_succ] at h; omega
      rw [decimal_eq m (n / 10) k hp hm0 (by omega) (by omega) (by omega)]
      have hl := digs_len (dg := dec10) (b := 10) m (n / 10)
      simp only [Option.bind_some, tm10, wm, hsz]
      rw [if_pos (by omega), if_pos (by omega)]
      simp only [Int.toNat_natCast]
      rw [show (ByteArray.mk #[48, 49, 50, 51, 52, 53, 54, 55, 56, 57]).extract (n % 10) (n % 10 + 1) = tb [dec10 (n % 10)] from ten_at (by omega)]
      rw [size_tb, size_tb, no_over (by simp; omega), tb_append]
theorem hexadecimal_eq : ∀ (m n k : Nat), n < 16 ^ m → 0 < m → m ≤ k → m ≤ 100 → n ≤ 1000000000 → zQ.f k (n : Int) = some (tb (digs dec16 16 m n))
  | 0, n, k, h, h0, hk, hm, hn => by omega
  | m + 1, n, 0, h, h0, hk, hm, hn => by omega
  | m + 1, n, k + 1, h, h0, hk, hm, hn => by
    have td10 : (n : Int).tdiv 16 = ((n / 16 : Nat) : Int) := td n 16
    have tm10 : (n : Int).tmod 16 = ((n % 16 : Nat) : Int) := tm n 16
    have w10 : IntKind.i64.wrap ((n / 16 : Nat) : Int) = ((n / 16 : Nat) : Int) := wrI (by omega) (by omega)
    have wm : IntKind.i64.wrap (((n % 16 : Nat) : Int) + 1) = ((n % 16 + 1 : Nat) : Int) := wr1 (n := 16) (by omega) (by omega)
    have wn : IntKind.i64.wrap ((n : Int) + 1) = ((n + 1 : Nat) : Int) := wr1 (n := 1000000001) (by omega) (by omega)
    have hsz : ((ByteArray.mk #[48, 49, 50, 51, 52, 53, 54, 55, 56, 57, 97, 66, 99, 68, 101, 70]).size : Int) = 16 := rfl
    show zQ.t k (zQ.f k) (n : Int) = _
    unfold zQ.t digs
    by_cases h10 : n < 16
    · rw [decide_eq_true (show (n : Int) < 16 by omega), if_pos h10, wn, hsz, cT, if_pos (by omega), if_pos (by omega)]
      simp only [Int.toNat_natCast]
      exact congrArg some (hex_at h10)
    · rw [decide_eq_false (show ¬ (n : Int) < 16 by omega), if_neg h10, cF, td10, w10]
      have hm0 : 0 < m := by
        cases m with
        | zero => simp at h; omega
        | succ m => omega
      have hp : n / 16 < 16 ^ m := by
        rw [Nat.pow_succ] at h; omega
      rw [hexadecimal_eq m (n / 16) k hp hm0 (by omega) (by omega) (by omega)]
      have hl := digs_len (dg := dec16) (b := 16) m (n / 16)
      simp only [Option.bind_some, tm10, wm, hsz]
      rw [if_pos (by omega), if_pos (by omega)]
      simp only [Int.toNat_natCast]
      rw [show (ByteArray.mk #[48, 49, 50, 51, 52, 53, 54, 55, 56, 57, 97, 66, 99, 68, 101, 70]).extract (n % 16) (n % 16 + 1) = tb [dec16 (n % 16)] from hex_at (by omega)]
      rw [size_tb, size_tb, no_over (by simp; omega), tb_append]
theorem pick_eq (k : Nat) (c : Int) (hc : -9223372036854775808 ≤ c ∧ c ≤ 9223372036854775807) (n : Nat) (hn : 0 < n) (hn2 : n ≤ 9223372036854775807) : ∃ m : Nat, m < n ∧ z7.f k c (n : Int) = some (m : Int) := by
  show ∃ m : Nat, m < n ∧ z7.t k c (n : Int) = _
  unfold z7.t
  by_cases h : c < 0
  · refine ⟨((-(c + 1)).toNat) % n, Nat.mod_lt _ hn, ?_⟩
    rw [decide_eq_true h, cT, if_neg (by omega), wrI (x := c + 1) (by omega) (by omega), wrI (by omega) (by omega), show (0 : Int) - (c + 1) = (((-(c + 1)).toNat : Nat) : Int) by omega, tm]
  · refine ⟨c.toNat % n, Nat.mod_lt _ hn, ?_⟩
    rw [decide_eq_false h, cF, if_neg (by omega)]
    conv => lhs; rw [show c = ((c.toNat : Nat) : Int) by omega, tm]
end Go.Proofs.YtphlamnaaogmaaaGreatDoor.M

namespace Go.Proofs.YtphlamnaaogmaaaGreatDoor.M
open Go Go.RowKit Go.Proofs Go.Proofs.Qx Go.Proofs.El
set_option linter.unusedVariables false
set_option linter.unusedSimpArgs false

def exA : El := .mk [97] [([98], [49, 60, 50])] [] []
def exX : El := .mk [97] [] [32, 120, 32] []
def exY : El := .mk [97] [] [] [.mk [98] [] [] []]
theorem print_exA : print exA = some (El.head ++ [60, 97, 32, 98, 61, 34, 49, 38, 108, 116, 59, 50, 34, 47, 62, 10]) := by kernel_rfl
theorem print_none : print El.El.none = none := by kernel_rfl
theorem parse1 : parse St.new [60, 97, 62, 32, 120, 32, 60, 47, 97, 62] = .ok exX := by kernel_rfl
theorem parse2 : parse St.new [60, 97, 62, 32, 60, 98, 47, 62, 32, 60, 47, 97, 62] = .ok exY := by kernel_rfl
theorem parse3 : parse St.new [60, 97, 62, 120, 60, 98, 47, 62, 60, 47, 97, 62] = .error [60, 98, 47, 62, 60, 47, 97, 62] := by kernel_rfl
theorem parse4 : parse St.new [60, 97, 62, 38, 35, 54, 53, 59, 38, 108, 116, 59, 38, 110, 98, 115, 112, 59, 60, 47, 97, 62] = .error [38, 35, 54, 53, 59, 38, 108, 116, 59, 38, 110, 98, 115, 112, 59, 60, 47, 97, 62] := by kernel_rfl
theorem right_exX : exX.right 40 = true := by kernel_rfl
theorem right_none : El.El.none.right 40 = false := by kernel_rfl
theorem same_xx : same exX exX = true := by kernel_rfl
theorem same_xy : same exX exY = false := by kernel_rfl
theorem same_yy : same exY exY = true := by kernel_rfl
theorem awake_eq (k : Nat) (hk : 100 ≤ k) : z6.f k = some true := by
  show z6.t k _ _ _ _ _ _ = _
  have w1 : wt exA ≤ 10 := by decide
  have w2 : wt El.El.none ≤ 10 := by decide
  have w3 : wt exX ≤ 10 := by decide
  have w4 : wt exY ≤ 10 := by decide
  have a1 := elem_Print_eq k exA (by omega) (by omega)
  have a2 := elem_Parse_eq k [60, 97, 62, 32, 120, 32, 60, 47, 97, 62] (by simp) (by simp; omega)
  have a3 := elem_Parse_eq k [60, 97, 62, 32, 60, 98, 47, 62, 32, 60, 47, 97, 62] (by simp) (by simp; omega)
  have a4 := elem_Parse_eq k [60, 97, 62, 120, 60, 98, 47, 62, 60, 47, 97, 62] (by simp) (by simp; omega)
  have a5 := elem_Print_eq k El.El.none (by omega) (by omega)
  have a6 := elem_Find_eq k (ByteArray.mk #[]) (ByteArray.mk #[]) [] [([98], [99])] [98] (by simp; omega) (by simp)
  have a7 := elem_Parse_eq k [60, 97, 62, 38, 35, 54, 53, 59, 38, 108, 116, 59, 38, 110, 98, 115, 112, 59, 60, 47, 97, 62] (by simp) (by simp; omega)
  have a8 := ref_Same_eq 10 exX exX k w3 (by omega) (by omega)
  have a9 := ref_Same_eq 10 exY exY k w4 (by omega) (by omega)
  have a10 := elem_Right_eq k exX (by omega) (by omega)
  have a11 := elem_Right_eq k El.El.none (by omega) (by omega)
  have a12 := elem_Same_eq 10 exX exX k w3 (by omega) (by omega)
  have a13 := elem_Same_eq 10 exX exY k w3 (by omega) (by omega)
  rw [print_exA] at a1
  rw [parse1] at a2
  rw [parse2] at a3
  rw [parse3] at a4
  rw [print_none] at a5
  rw [parse4] at a7
  rw [same_xx] at a8 a12
  rw [same_yy] at a9
  rw [right_exX] at a10
  rw [right_none] at a11
  rw [same_xy] at a13
  change yE.f k (ByteArray.mk #[97]) [[D.str (ByteArray.mk #[98]), D.str (ByteArray.mk #[49, 60, 50])]] (ByteArray.mk #[]) [] = some (tb [60, 63, 120, 109, 108, 32, 118, 101, 114, 115, 105, 111, 110, 61, 34, 49, 46, 48, 34, 32, 101, 110, 99, 111, 100, 105, 110, 103, 61, 34, 85, 84, 70, 45, 56, 34, 63, 62, 10, 60, 97, 32, 98, 61, 34, 49, 38, 108, 116, 59, 50, 34, 47, 62, 10], 0) at a1
  change zL.f k (ByteArray.mk #[60, 97, 62, 32, 120, 32, 60, 47, 97, 62]) = some (tb [97], [], tb [32, 120, 32], [], 0, 0) at a2
  change zL.f k (ByteArray.mk #[60, 97, 62, 32, 60, 98, 47, 62, 32, 60, 47, 97, 62]) = some (tb [97], [], tb [], [[D.str (tb [98]), D.seq [], D.str (tb []), D.seq []]], 0, 0) at a3
  change zL.f k (ByteArray.mk #[60, 97, 62, 120, 60, 98, 47, 62, 60, 47, 97, 62]) = some (tb [], [], tb [], [], 4, 201) at a4
  change yE.f k (ByteArray.mk #[]) [] (ByteArray.mk #[]) [] = some (tb [], 200) at a5
  change zZ.f k (ByteArray.mk #[]) [[D.str (ByteArray.mk #[98]), D.str (ByteArray.mk #[99])]] (ByteArray.mk #[]) [] (ByteArray.mk #[98]) = some (tb [99], true) at a6
  change zL.f k (ByteArray.mk #[60, 97, 62, 38, 35, 54, 53, 59, 38, 108, 116, 59, 38, 110, 98, 115, 112, 59, 60, 47, 97, 62]) = some (tb [], [], tb [], [], 3, 201) at a7
  change zA.f k (tb [97]) [] (tb [32, 120, 32]) [] (ByteArray.mk #[97]) [] (ByteArray.mk #[32, 120, 32]) [] = some true at a8
  change zA.f k (tb [97]) [] (tb []) [[D.str (tb [98]), D.seq [], D.str (tb []), D.seq []]] (ByteArray.mk #[97]) [] (ByteArray.mk #[]) [[D.str (ByteArray.mk #[98]), D.seq [], D.str (ByteArray.mk #[]), D.seq []]] = some true at a9
  change yC.f k (tb [97]) [] (tb [32, 120, 32]) [] = some true at a10
  change yC.f k (ByteArray.mk #[]) [] (ByteArray.mk #[]) [] = some false at a11
  change zJ.f k (tb [97]) [] (tb [32, 120, 32]) [] (tb [97]) [] (tb [32, 120, 32]) [] = some true at a12
  change zJ.f k (tb [97]) [] (tb [32, 120, 32]) [] (tb [97]) [] (tb []) [[D.str (tb [98]), D.seq [], D.str (tb []), D.seq []]] = some false at a13
  have b1 : ((tb [60, 63, 120, 109, 108, 32, 118, 101, 114, 115, 105, 111, 110, 61, 34, 49, 46, 48, 34, 32, 101, 110, 99, 111, 100, 105, 110, 103, 61, 34, 85, 84, 70, 45, 56, 34, 63, 62, 10, 60, 97, 32, 98, 61, 34, 49, 38, 108, 116, 59, 50, 34, 47, 62, 10]).toList == (ByteArray.mk #[60, 63, 120, 109, 108, 32, 118, 101, 114, 115, 105, 111, 110, 61, 34, 49, 46, 48, 34, 32, 101, 110, 99, 111, 100, 105, 110, 103, 61, 34, 85, 84, 70, 45, 56, 34, 63, 62, 10, 60, 97, 32, 98, 61, 34, 49, 38, 108, 116, 59, 50, 34, 47, 62, 10]).toList) = true := by
    rw [show (ByteArray.mk #[60, 63, 120, 109, 108, 32, 118, 101, 114, 115, 105, 111, 110, 61, 34, 49, 46, 48, 34, 32, 101, 110, 99, 111, 100, 105, 110, 103, 61, 34, 85, 84, 70, 45, 56, 34, 63, 62, 10, 60, 97, 32, 98, 61, 34, 49, 38, 108, 116, 59, 50, 34, 47, 62, 10]) = tb [60, 63, 120, 109, 108, 32, 118, 101, 114, 115, 105, 111, 110, 61, 34, 49, 46, 48, 34, 32, 101, 110, 99, 111, 100, 105, 110, 103, 61, 34, 85, 84, 70, 45, 56, 34, 63, 62, 10, 60, 97, 32, 98, 61, 34, 49, 38, 108, 116, 59, 50, 34, 47, 62, 10] from rfl]; exact beq_self_eq_true _
  have b2 : ((tb [99]).toList == (ByteArray.mk #[99]).toList) = true := by
    rw [show (ByteArray.mk #[99]) = tb [99] from rfl]; exact beq_self_eq_true _
  unfold z6.t
  simp only [a1, a2, a3, a4, a5, a6, a7, Option.bind_some, Prod.r5, Prod.q1, Prod.q2, Prod.q3, Prod.q4, b1, b2, beq_self_eq_true, cond_true, a8, a9, a10, a11, a12, a13, Bool.not_false]
end Go.Proofs.YtphlamnaaogmaaaGreatDoor.M
