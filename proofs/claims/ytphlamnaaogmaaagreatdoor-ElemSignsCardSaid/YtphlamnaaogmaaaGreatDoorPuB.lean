import Derived.Test.YtphlamnaaogmaaaGreatDoorPuA
import Derived.Test.YtphlamnaaogmaaaGreatDoorE12
import Derived.Test.YtphlamnaaogmaaaGreatDoorE6
import Derived.Lib.IndexMore
namespace Go.Proofs.YtphlamnaaogmaaaGreatDoor.M
open Go Go.RowKit Go.Proofs Go.Proofs.Qx Go.Proofs.El
set_option linter.unusedVariables false
set_option linter.unusedSimpArgs false

theorem rights_drop {d : Nat} {l : List El} {i : Nat} (h : i < l.length) : rights d (l.drop i) = (l[i].right d && rights d (l.drop (i + 1))) := by rw [drop_get h]; rfl
theorem wt_parts {n : Bs} {a : List (Bs × Bs)} {t : Bs} {k : List El} {W : Nat} (h : wt (.mk n a t k) ≤ W) : n.length < W ∧ a.length < W ∧ t.length < W ∧ wts k < W ∧ (∀ x ∈ a, x.1.length < W ∧ x.2.length < W) := by
  simp only [wt] at h
  refine ⟨by omega, by omega, by omega, by omega, fun x hx => ?_⟩
  have := sum_mem (f := fun x : Bs × Bs => x.1.length + x.2.length) hx
  omega
theorem natLen {α : Type} (l : List α) : decide ((l.length : Int) > 0) = !l.isEmpty := by cases l <;> simp <;> omega
theorem emptyB (t : Bs) : ((tb t).toList == (ByteArray.mk #[]).toList) = t.isEmpty := by rw [toList_tb, toList_bl]; cases t <;> rfl
theorem elem_fits_loop {F : ByteArray → List (List D) → ByteArray → List (List D) → Int → Option Bool} {f g : ByteArray → Option Bool} {h : List (List D) → Option Bool} (l : List El) (hl : l.length ≤ 1000000000) (d : Nat) (hd : d < 1000)
    (hF : ∀ e ∈ l, F (tb e.name) (e.attrs.map encA) (tb e.text) (rows e.kids) (d : Int) = some (e.right d)) (x1 : Int) (x4 : ByteArray) (x5 : List (List D)) (x6 : ByteArray) (x7 : List (List D)) (K : Nat) : ∀ (m i k : Nat), i + m = l.length → m < k →
    ∃ r, zY.L76_2 K F f h g k (rows l, x1, (l.length : Int), (i : Int), x4, x5, x6, x7, ((d + 1 : Nat) : Int)) = some r ∧ (match r with | .inl y => rights d (l.drop i) = true | .inr y => rights d (l.drop i) = false ∧ 0 ≤ y.1)
  | 0, i, k + 1, hi, hk => by
    simp only [zY.L76_2, zY.L76_2.S, dec_nlt (show l.length ≤ i by omega), cond_false]
    refine ⟨_, rfl, ?_⟩
    rw [List.drop_eq_nil_of_le (by omega)]; rfl
  | m + 1, i, k + 1, hi, hk => by
    have hil : i < l.length := by omega
    obtain ⟨r, ih1, ih2⟩ := elem_fits_loop (f := f) (g := g) (h := h) l hl d hd hF x1 x4 x5 x6 x7 K m (i + 1) k (by omega) (by omega)
    obtain ⟨a1, a2, a3, a4⟩ := at_row hil
    have hw : IntKind.i64.wrap (((d + 1 : Nat) : Int) - 1) = (d : Int) := by rw [wrI (by omega) (by omega)]; omega
    simp only [zY.L76_2, zY.L76_2.S, dec_lt hil, cond_true, rows_len, in_lt hil, Int.toNat_natCast, a1, a2, a3, a4, hw, hF _ (List.getElem_mem hil), Option.bind_some, wr1 hil (by omega), ih1]
    rw [rights_drop hil]
    cases hq : l[i].right d with
    | true => exact ⟨r, rfl, by simp only [Bool.true_and]; exact ih2⟩
    | false => exact ⟨_, rfl, by simp, by omega⟩
theorem elem_fits_eq : ∀ (W : Nat) (e : El) (d k : Nat), wt e ≤ W → W < k → W ≤ 1000000000 → d < 1000 → zY.f k (tb e.name) (e.attrs.map encA) (tb e.text) (rows e.kids) (d : Int) = some (e.right d)
  | 0, e, d, k, hW, hk, hb, hd => by have := wt_pos e; omega
  | W + 1, .mk n a t ks, d, 0, hW, hk, hb, hd => by omega
  | W + 1, .mk n a t ks, d, k + 1, hW, hk, hb, hd => by
    obtain ⟨p1, p2, p3, p4, p5⟩ := wt_parts hW
    have hks := wts_len ks
    simp only [El.El.name, El.El.attrs, El.El.text, El.El.kids, zY.f, zY.t, El.right]
    rw [elem_name_eq k (tb n) (by rw [size_tb]; omega) (by rw [size_tb]; omega), elem_attrs_eq k a (by omega) (by omega) (fun x hx => ⟨by have := (p5 x hx).1; omega, by have := (p5 x hx).1; omega⟩) (fun x hx => ⟨by have := (p5 x hx).2; omega, by have := (p5 x hx).2; omega⟩),
      elem_text_eq k (tb t) (by rw [size_tb]; omega) (by rw [size_tb]; omega)]
    simp only [Option.bind_some, bl_tb, emptyB, rows_len, natLen]
    cases d with
    | zero => rfl
    | succ d =>
      have e0 : (((d + 1 : Nat) : Int) == 0) = false := beq_eq_false_iff_ne.2 (by omega)
      have hF : ∀ e ∈ ks, zY.f k (tb e.name) (e.attrs.map encA) (tb e.text) (rows e.kids) (d : Int) = some (e.right d) := fun e he =>
        elem_fits_eq W e d k (by have := wts_mem he; omega) (by omega) (by omega) (by omega)
      obtain ⟨r, h1, h2⟩ := elem_fits_loop (f := zV.f k) (g := zW.f k) (h := zH.f k) ks (by omega) d (by omega) hF 0 (tb n) (a.map encA) (tb t) (rows ks) k ks.length 0 k (by omega) (by omega)
      simp only [Int.natCast_zero] at h1
      rw [List.drop_zero] at h2
      simp only [e0, cond_false, zY.t.J1, rows_len, h1, Option.bind_some, Nat.add_sub_cancel]
      rw [decide_eq_true (show 0 < d + 1 by omega)]
      have hr : Sum.elim (fun v5 => some !decide ((-1 : Int) ≥ 0)) (fun v6 => some !decide (v6.fst ≥ (0 : Int))) r = some (rights d ks) := by
        cases r with
        | inl y => dsimp only at h2; rw [h2]; rfl
        | inr y =>
          obtain ⟨q1, q2⟩ := h2
          rw [q1]; simp [q2]
      rw [hr]
      cases El.name n <;> cases attrsOk a <;> cases El.text t <;> cases t.isEmpty <;> cases ks <;> simp
theorem elem_Right_eq (k : Nat) (e : El) (hk : wt e < k) (hb : wt e ≤ 1000000000) : yC.f k (tb e.name) (e.attrs.map encA) (tb e.text) (rows e.kids) = some (e.right 40) := by
  show yC.t k _ _ _ _ _ = _
  unfold yC.t
  have : zY.f k (tb e.name) (e.attrs.map encA) (tb e.text) (rows e.kids) (40 : Int) = some (e.right 40) := elem_fits_eq (wt e) e 40 k (Nat.le_refl _) hk hb (by omega)
  rw [this]; rfl

mutual
def same : El → El → Bool
  | .mk n a t k, .mk n' a' t' k' => n == n' && t == t' && a == a' && sames k k'
def sames : List El → List El → Bool
  | [], [] => true
  | e :: l, e' :: l' => same e e' && sames l l'
  | _, _ => false
end
mutual
theorem same_iff : ∀ (a b : El), same a b = true ↔ a = b
  | .mk n a t k, .mk n' a' t' k' => by
    simp only [same, Bool.and_eq_true, beq_iff_eq, sames_iff k k', El.mk.injEq]
    constructor
    · rintro ⟨⟨⟨rfl, rfl⟩, rfl⟩, rfl⟩; exact ⟨rfl, rfl, rfl, rfl⟩
    · rintro ⟨rfl, rfl, rfl, rfl⟩; exact ⟨⟨⟨rfl, rfl⟩, rfl⟩, rfl⟩
theorem sames_iff : ∀ (a b : List El), sames a b = true ↔ a = b
  | [], [] => by simp [sames]
  | [], b :: m => by simp [sames]
  | a :: l, [] => by simp [sames]
  | a :: l, b :: m => by simp [sames, same_iff a b, sames_iff l m]
end

theorem lenEq {α β : Type} (l : List α) (m : List β) : ((l.length : Int) == (m.length : Int)) = (l.length == m.length) := beq_cast _ _
theorem tbEq (x y : Bs) : ((tb x).toList == (tb y).toList) = (x == y) := by rw [toList_tb, toList_tb]
theorem attrEq (x y : Bs × Bs) : ((tb x.1).toList == (tb y.1).toList && ((tb x.2).toList == (tb y.2).toList && true)) = (x == y) := by
  rw [tbEq, tbEq, Bool.and_true]
  obtain ⟨a, b⟩ := x; obtain ⟨c, d⟩ := y
  rw [Bool.eq_iff_iff]; simp
theorem elem_sameA_loop {F : ByteArray → List (List D) → ByteArray → List (List D) → ByteArray → List (List D) → ByteArray → List (List D) → Option Bool} (a b : List (Bs × Bs)) (hab : a.length = b.length) (hl : a.length ≤ 1000000000) (y0 y4 y2 y6 : ByteArray) (y1 y5 y3 y7 : List (List D)) (K : Nat) : ∀ (m i k : Nat), i + m = a.length → m < k →
    zJ.L37_4 K F k (a.map encA, b.map encA, false, (a.length : Int), (i : Int), y0, y1, y2, y3, y4, y5, y6, y7) = some (bif a.drop i == b.drop i then .inl (false, y0, y1, y2, y3, y4, y5, y6, y7) else .inr (false, y0, y1, y2, y3, y4, y5, y6, y7))
  | 0, i, k + 1, hi, hk => by
    simp only [zJ.L37_4, zJ.L37_4.S, dec_nlt (show a.length ≤ i by omega), cond_false]
    rw [List.drop_eq_nil_of_le (by omega), List.drop_eq_nil_of_le (by omega)]; rfl
  | m + 1, i, k + 1, hi, hk => by
    have hia : i < a.length := by omega
    have hib : i < b.length := by omega
    have hla : (a.map encA).length = a.length := by simp
    have hlb : (b.map encA).length = b.length := by simp
    simp only [zJ.L37_4, zJ.L37_4.S, dec_lt hia, cond_true, hla, hlb, in_lt hia, in_lt hib, Int.toNat_natCast, (at_attr hia).1, (at_attr hia).2, (at_attr hib).1, (at_attr hib).2, attrEq, wr1 hia (by omega),
      elem_sameA_loop a b hab hl y0 y4 y2 y6 y1 y5 y3 y7 K m (i + 1) k (by omega) (by omega)]
    rw [drop_get hia, drop_get hib, List.cons_beq_cons]
    cases a[i] == b[i] <;> rfl
theorem elem_sameK_loop {F : ByteArray → List (List D) → ByteArray → List (List D) → ByteArray → List (List D) → ByteArray → List (List D) → Option Bool} (a b : List El) (hab : a.length = b.length) (hl : a.length ≤ 1000000000)
    (hF : ∀ e ∈ a, ∀ e' ∈ b, F (tb e.name) (e.attrs.map encA) (tb e.text) (rows e.kids) (tb e'.name) (e'.attrs.map encA) (tb e'.text) (rows e'.kids) = some (same e e')) (y0 y4 y2 y6 : ByteArray) (y1 y5 y3 y7 : List (List D)) (K : Nat) : ∀ (m i k : Nat), i + m = a.length → m < k →
    ∃ r, zJ.L38_4 K F k (rows b, false, rows a, (a.length : Int), (i : Int), y0, y1, y2, y3, y4, y5, y6, y7) = some r ∧ (match r with | .inl _ => sames (a.drop i) (b.drop i) = true | .inr y => sames (a.drop i) (b.drop i) = false ∧ y.1 = false)
  | 0, i, k + 1, hi, hk => by
    simp only [zJ.L38_4, zJ.L38_4.S, dec_nlt (show a.length ≤ i by omega), cond_false]
    refine ⟨_, rfl, ?_⟩
    rw [List.drop_eq_nil_of_le (by omega), List.drop_eq_nil_of_le (by omega)]; rfl
  | m + 1, i, k + 1, hi, hk => by
    have hia : i < a.length := by omega
    have hib : i < b.length := by omega
    obtain ⟨a1, a2, a3, a4⟩ := at_row hia
    obtain ⟨b1, b2, b3, b4⟩ := at_row hib
    obtain ⟨r, ih1, ih2⟩ := elem_sameK_loop a b hab hl hF y0 y4 y2 y6 y1 y5 y3 y7 K m (i + 1) k (by omega) (by omega)
    simp only [zJ.L38_4, zJ.L38_4.S, dec_lt hia, cond_true, rows_len, in_lt hia, in_lt hib, Int.toNat_natCast, a1, a2, a3, a4, b1, b2, b3, b4, hF _ (List.getElem_mem hia) _ (List.getElem_mem hib), Option.bind_some, wr1 hia (by omega), ih1]
    rw [drop_get hia, drop_get hib]
    simp only [sames]
    cases same a[i] b[i] with
    | true => exact ⟨r, rfl, by simp only [Bool.true_and]; exact ih2⟩
    | false => exact ⟨_, rfl, by simp⟩
theorem sames_len : ∀ (a b : List El), sames a b = true → a.length = b.length
  | [], [], _ => rfl
  | [], b :: m, h => by simp [sames] at h
  | a :: l, [], h => by simp [sames] at h
  | a :: l, b :: m, h => by simp only [sames, Bool.and_eq_true] at h; simp [sames_len l m h.2]
theorem sames_ne {a b : List El} (h : a.length ≠ b.length) : sames a b = false := by
  cases hs : sames a b with
  | false => rfl
  | true => exact absurd (sames_len a b hs) h
theorem elem_Same_eq : ∀ (W : Nat) (e e' : El) (k : Nat), wt e ≤ W → W < k → W ≤ 1000000000 → zJ.f k (tb e.name) (e.attrs.map encA) (tb e.text) (rows e.kids) (tb e'.name) (e'.attrs.map encA) (tb e'.text) (rows e'.kids) = some (same e e')
  | 0, e, e', k, hW, hk, hb => by have := wt_pos e; omega
  | W + 1, .mk n a t ks, .mk n' a' t' ks', 0, hW, hk, hb => by omega
  | W + 1, .mk n a t ks, .mk n' a' t' ks', k + 1, hW, hk, hb => by
    obtain ⟨p1, p2, p3, p4, p5⟩ := wt_parts hW
    have hks := wts_len ks
    have hla : (a.map encA).length = a.length := by simp
    have hla' : (a'.map encA).length = a'.length := by simp
    simp only [El.El.name, El.El.attrs, El.El.text, El.El.kids, zJ.f, zJ.t, same, tbEq, hla, hla', lenEq]
    cases hn : n == n' with
    | false => rfl
    | true =>
      cases ht : t == t' with
      | false => rfl
      | true =>
        by_cases hal : a.length = a'.length
        · have e1 : (a.length == a'.length) = true := beq_iff_eq.2 hal
          have h1 := elem_sameA_loop (F := zJ.f k) a a' hal (by omega) (tb n) (tb n') (tb t) (tb t') (a.map encA) (a'.map encA) (rows ks) (rows ks') k a.length 0 k (by omega) (by omega)
          simp only [Int.natCast_zero, List.drop_zero] at h1
          simp only [e1, h1, cond_true, Bool.not_true, cond_false, Option.bind_some]
          cases haa : a == a' with
          | false => rfl
          | true =>
            simp only [cond_true, Sum.elim_inl, rows_len, lenEq]
            by_cases hkl : ks.length = ks'.length
            · have e2 : (ks.length == ks'.length) = true := beq_iff_eq.2 hkl
              obtain ⟨r, h2, h3⟩ := elem_sameK_loop (F := zJ.f k) ks ks' hkl (by omega) (fun e he e' _ => elem_Same_eq W e e' k (by have := wts_mem he; omega) (by omega) (by omega)) (tb n) (tb n') (tb t) (tb t') (a.map encA) (a'.map encA) (rows ks) (rows ks') k ks.length 0 k (by omega) (by omega)
              simp only [Int.natCast_zero] at h2
              rw [List.drop_zero, List.drop_zero] at h3
              simp only [e2, Bool.not_true, cond_false, h2, Option.bind_some]
              cases r with
              | inl y => dsimp only at h3; rw [h3]; rfl
              | inr y =>
                obtain ⟨q1, q2⟩ := h3
                rw [q1]; simp [q2]
            · have e2 : (ks.length == ks'.length) = false := beq_eq_false_iff_ne.2 hkl
              rw [e2, sames_ne hkl]; rfl
        · have e1 : (a.length == a'.length) = false := beq_eq_false_iff_ne.2 hal
          have e2 : (a == a') = false := by
            cases h : a == a' with
            | false => rfl
            | true => rw [beq_iff_eq] at h; exact absurd (by rw [h]) hal
          rw [e1, e2]; rfl

def findA (x : Bs) : List (Bs × Bs) → Bs × Bool
  | [] => ([], false)
  | a :: l => bif a.1 == x then (a.2, true) else findA x l
theorem elem_Find_loop (x : Bs) (a : List (Bs × Bs)) (hl : a.length ≤ 1000000000) (K : Nat) : ∀ (m i k : Nat), i + m = a.length → m < k →
    ∃ r, zZ.L2 K k (tb x, ByteArray.mk #[], false, a.map encA, (a.length : Int), (i : Int)) = some r ∧ (match r with | .inl _ => findA x (a.drop i) = ([], false) | .inr y => y = (tb (findA x (a.drop i)).1, (findA x (a.drop i)).2))
  | 0, i, k + 1, hi, hk => by
    simp only [zZ.L2, zZ.L2.S, dec_nlt (show a.length ≤ i by omega), cond_false]
    refine ⟨_, rfl, ?_⟩
    rw [List.drop_eq_nil_of_le (by omega)]; rfl
  | m + 1, i, k + 1, hi, hk => by
    have hia : i < a.length := by omega
    have hla : (a.map encA).length = a.length := by simp
    obtain ⟨r, ih1, ih2⟩ := elem_Find_loop x a hl K m (i + 1) k (by omega) (by omega)
    simp only [zZ.L2, zZ.L2.S, dec_lt hia, cond_true, hla, in_lt hia, Int.toNat_natCast, (at_attr hia).1, (at_attr hia).2, tbEq, wr1 hia (by omega), ih1]
    rw [drop_get hia]
    simp only [findA]
    cases a[i].1 == x with
    | true => exact ⟨_, rfl, rfl⟩
    | false => exact ⟨r, rfl, ih2⟩
theorem elem_Find_eq (k : Nat) (n t : ByteArray) (ks : List (List D)) (a : List (Bs × Bs)) (x : Bs) (hk : a.length < k) (hl : a.length ≤ 1000000000) : zZ.f k n (a.map encA) t ks (tb x) = some (tb (findA x a).1, (findA x a).2) := by
  show zZ.t k _ _ _ _ _ = _
  unfold zZ.t
  have hla : (a.map encA).length = a.length := by simp
  obtain ⟨r, h1, h2⟩ := elem_Find_loop x a hl k a.length 0 k (by omega) hk
  simp only [Int.natCast_zero] at h1
  rw [List.drop_zero] at h2
  rw [hla, h1]
  cases r with
  | inl y => dsimp only at h2; rw [h2]; rfl
  | inr y => dsimp only at h2; rw [h2]; rfl
end Go.Proofs.YtphlamnaaogmaaaGreatDoor.M

namespace Go.Proofs.YtphlamnaaogmaaaGreatDoor.M
open Go Go.RowKit Go.Proofs Go.Proofs.Qx Go.Proofs.El
set_option linter.unusedVariables false
set_option linter.unusedSimpArgs false

theorem esc_len (l : Bs) : (esc l).length ≤ 6 * l.length := by
  induction l with
  | nil => simp [esc]
  | cons c l ih =>
    have e : esc (c :: l) = esc1 c ++ esc l := by simp [esc]
    have : (esc1 c).length ≤ 6 := by unfold esc1; (repeat' split) <;> simp
    rw [e, List.length_append, List.length_cons]; omega
theorem flatA_len (a : List (Bs × Bs)) : (a.flatMap layA).length ≤ 6 * (a.length + (a.map fun x => x.1.length + x.2.length).sum) := by
  induction a with
  | nil => simp
  | cons x a ih =>
    have := esc_len x.2
    simp only [List.flatMap_cons, List.length_append, List.length_cons, List.map_cons, List.sum_cons, layA, List.length_nil] at *
    omega
mutual
theorem lay_len : ∀ (e : El), e.lay.length ≤ 6 * wt e
  | .mk n a t k => by
    have h1 := flatA_len a
    have h2 := esc_len t
    have h3 := lays_len k
    unfold El.lay
    simp only [wt]
    split
    · simp only [List.length_append, List.length_cons, List.length_nil]; omega
    · simp only [List.length_append, List.length_cons, List.length_nil]; omega
theorem lays_len : ∀ (l : List El), (lays l).length ≤ 6 * wts l
  | [] => by simp [lays]
  | e :: l => by
    have := lay_len e
    have := lays_len l
    simp only [lays, wts, List.length_append]; omega
end

theorem escB_eq (c : UInt8) : escB c = esc1 c := by
  revert c
  refine u8_all ?_
  decide +kernel
theorem written_eq (l : Bs) (h : l.length ≤ 1000000000) : yK.f (tb l) = some (tb (esc l)) := by
  unfold yK.f
  rw [size_tb, if_pos (by omega)]
  have : escL l = esc l := by
    unfold escL esc
    congr 1
    funext c; exact escB_eq c
  show some (tb (escL l)) = _
  rw [this]
theorem no_over {α : Type} {n : Nat} (h : n ≤ 1000000000000000000) (x y : Option α) : (if ((n : Nat) : Int) > IntKind.i64.max then x else y) = y := by
  have : IntKind.i64.max = 9223372036854775807 := by decide
  rw [if_neg (by omega)]
theorem fit_in {n : Nat} (h : n ≤ 140737488355328) : (if n ≤ (140737488355328 : Nat) then some () else none) = some () := if_pos h
theorem lay_attrs {F : ByteArray × List (List D) × ByteArray × List (List D) × ByteArray → Option ByteArray} (a : List (Bs × Bs)) (ha : a.length ≤ 1000000000) (hx : ∀ x ∈ a, x.1.length ≤ 1000000000 ∧ x.2.length ≤ 1000000000) (y1 y3 : ByteArray) (y2 y4 : List (List D)) (K : Nat) :
    ∀ (m i k : Nat) (out : Bs), i + m = a.length → m < k → out.length + ((a.drop i).flatMap layA).length ≤ 100000000000 →
    zM.L3 K yK.f F k (a.map encA, (a.length : Int), (i : Int), tb out, y1, y2, y3, y4) = some (tb (out ++ (a.drop i).flatMap layA), y1, y2, y3, y4)
  | 0, i, k + 1, out, hi, hk, hs => by
    simp only [zM.L3, zM.L3.S, dec_nlt (show a.length ≤ i by omega), cond_false]
    rw [List.drop_eq_nil_of_le (by omega)]; simp
  | m + 1, i, k + 1, out, hi, hk, hs => by
    have hia : i < a.length := by omega
    have hla : (a.map encA).length = a.length := by simp
    obtain ⟨q1, q2⟩ := hx a[i] (List.getElem_mem hia)
    have hs2 := hs
    rw [drop_get hia, List.flatMap_cons, List.length_append] at hs2
    have hl : (layA a[i]).length = 4 + a[i].1.length + (esc a[i].2).length := by simp [layA]; omega
    have el := esc_len a[i].2
    have ih := lay_attrs (F := F) a ha hx y1 y3 y2 y4 K m (i + 1) k (out ++ layA a[i]) (by omega) (by omega) (by rw [List.length_append]; omega)
    have c1 : ByteArray.mk #[32] = tb [32] := rfl
    have c2 : ByteArray.mk #[61, 34] = tb [61, 34] := rfl
    have c3 : ByteArray.mk #[34] = tb [34] := rfl
    simp only [zM.L3, zM.L3.S, dec_lt hia, cond_true, hla, in_lt hia, Int.toNat_natCast, (at_attr hia).1, (at_attr hia).2, written_eq _ q2, Option.bind_some, c1, c2, c3, tb_append, size_tb, wr1 hia (by omega), List.length_append, List.length_cons, List.length_nil]
    rw [no_over (by omega), no_over (by omega), no_over (by omega), no_over (by omega), fit_in (by omega), Option.bind_some]
    have e : out ++ ([32] ++ a[i].1 ++ [61, 34] ++ esc a[i].2 ++ [34]) = out ++ layA a[i] := by simp [layA]
    rw [e, ih, drop_get hia, List.flatMap_cons]
    simp
theorem lay_kids {F : ByteArray × List (List D) × ByteArray × List (List D) × ByteArray → Option ByteArray} (l : List El) (hl : l.length ≤ 1000000000)
    (hF : ∀ e ∈ l, ∀ out : Bs, out.length + 6 * wt e ≤ 100000000000 → F (tb e.name, e.attrs.map encA, tb e.text, rows e.kids, tb out) = some (tb (out ++ e.lay))) (y1 y3 : ByteArray) (y2 y4 : List (List D)) (K : Nat) :
    ∀ (m i k : Nat) (out : Bs), i + m = l.length → m < k → out.length + 6 * wts (l.drop i) ≤ 100000000000 →
    zM.L11 K yK.f F k (rows l, (l.length : Int), (i : Int), tb out, y1, y2, y3, y4) = some (tb (out ++ lays (l.drop i)), y1, y2, y3, y4)
  | 0, i, k + 1, out, hi, hk, hs => by
    simp only [zM.L11, zM.L11.S, dec_nlt (show l.length ≤ i by omega), cond_false]
    rw [List.drop_eq_nil_of_le (by omega)]; simp [lays]
  | m + 1, i, k + 1, out, hi, hk, hs => by
    have hia : i < l.length := by omega
    obtain ⟨a1, a2, a3, a4⟩ := at_row hia
    rw [drop_get hia, wts] at hs
    have hll := lay_len l[i]
    have ih := lay_kids l hl hF y1 y3 y2 y4 K m (i + 1) k (out ++ l[i].lay) (by omega) (by omega) (by rw [List.length_append]; omega)
    simp only [zM.L11, zM.L11.S, dec_lt hia, cond_true, rows_len, in_lt hia, Int.toNat_natCast, a1, a2, a3, a4]
    rw [hF _ (List.getElem_mem hia) out (by omega)]
    simp only [Option.bind_some, wr1 hia (by omega), ih]
    rw [drop_get hia, lays]
    simp
theorem elem_lay_eq : ∀ (W : Nat) (e : El) (k : Nat) (out : Bs), wt e ≤ W → W < k → W ≤ 1000000000 → out.length + 6 * wt e ≤ 100000000000 → zM.f k (tb e.name, e.attrs.map encA, tb e.text, rows e.kids, tb out) = some (tb (out ++ e.lay))
  | 0, e, k, out, hW, hk, hb, hs => by have := wt_pos e; omega
  | W + 1, .mk n a t ks, 0, out, hW, hk, hb, hs => by omega
  | W + 1, .mk n a t ks, k + 1, out, hW, hk, hb, hs => by
    obtain ⟨p1, p2, p3, p4, p5⟩ := wt_parts hW
    have hks := wts_len ks
    have hla : (a.map encA).length = a.length := by simp
    have hfl := flatA_len a
    have het := esc_len t
    have hws : 1 + n.length + a.length + (a.map fun x => x.1.length + x.2.length).sum + t.length + wts ks ≤ W + 1 := hW
    have hs' : out.length + 6 * (1 + n.length + a.length + (a.map fun x => x.1.length + x.2.length).sum + t.length + wts ks) ≤ 100000000000 := hs
    have c1 : ByteArray.mk #[60] = tb [60] := rfl
    have c2 : ByteArray.mk #[47, 62] = tb [47, 62] := rfl
    have c3 : ByteArray.mk #[62] = tb [62] := rfl
    have c4 : ByteArray.mk #[60, 47] = tb [60, 47] := rfl
    have h1 := lay_attrs (F := zM.f k) a (by omega) (fun x hx => by have := p5 x hx; omega) (tb n) (tb t) (a.map encA) (rows ks) k a.length 0 k (out ++ 60 :: n) (by omega) (by omega) (by rw [List.drop_zero, List.length_append, List.length_cons]; omega)
    have h2 := lay_kids (F := zM.f k) ks (by omega) (fun e he out ho => elem_lay_eq W e k out (by have := wts_mem he; omega) (by omega) (by omega) ho) (tb n) (tb t) (a.map encA) (rows ks) k ks.length 0 k (out ++ 60 :: n ++ a.flatMap layA ++ (62 :: esc t)) (by omega) (by omega)
      (by rw [List.drop_zero]; simp only [List.length_append, List.length_cons]; omega)
    simp only [Int.natCast_zero, List.drop_zero] at h1 h2
    have e1 : out ++ ([60] ++ n) = out ++ 60 :: n := by simp
    have e2 : out ++ 60 :: n ++ a.flatMap layA ++ ([62] ++ esc t) = out ++ 60 :: n ++ a.flatMap layA ++ 62 :: esc t := by simp
    have lk := lays_len ks
    simp only [El.El.name, El.El.attrs, El.El.text, El.El.kids, zM.f, zM.t, zM.t.J6, c1, c2, c3, c4, tb_append, size_tb, hla, e1, h1, Option.bind_some, List.length_append, List.length_cons, List.length_nil, rows_len]
    rw [no_over (by omega), fit_in (by omega), Option.bind_some]
    simp only [Prod.q1, Prod.q2, Prod.q3, Prod.r4, emptyB, written_eq t (show t.length ≤ 1000000000 by omega), Option.bind_some, tb_append, size_tb, e2, h2, List.length_append, List.length_cons, List.length_nil]
    rw [no_over (by omega), fit_in (by omega), fit_in (by omega)]
    simp only [Option.bind_some, h2, size_tb, tb_append, List.length_append, List.length_cons, List.length_nil]
    rw [no_over (by omega), no_over (by omega), fit_in (by omega)]
    simp only [Option.bind_some]
    unfold El.lay
    cases ht : t.isEmpty with
    | false => simp
    | true =>
      cases ks with
      | nil => simp
      | cons x l =>
        have : (((x :: l).length : Int) == 0) = false := beq_eq_false_iff_ne.2 (by simp; omega)
        rw [this]; simp
theorem elem_Print_eq (k : Nat) (e : El) (hk : wt e < k) (hb : wt e ≤ 1000000000) : yE.f k (tb e.name) (e.attrs.map encA) (tb e.text) (rows e.kids) = some (match print e with | some s => (tb s, 0) | none => (tb [], 200)) := by
  show yE.t k _ _ _ _ _ _ = _
  unfold yE.t
  rw [elem_Right_eq k e hk hb]
  unfold print
  cases hr : e.right 40 with
  | false => rfl
  | true =>
    have h1 := elem_lay_eq (wt e) e k head (Nat.le_refl _) hk hb (by simp [head]; omega)
    have c1 : ByteArray.mk #[10] = tb [10] := rfl
    have c2 : (ByteArray.mk #[60, 63, 120, 109, 108, 32, 118, 101, 114, 115, 105, 111, 110, 61, 34, 49, 46, 48, 34, 32, 101, 110, 99, 111, 100, 105, 110, 103, 61, 34, 85, 84, 70, 45, 56, 34, 63, 62, 10]) = tb head := rfl
    have ll := lay_len e
    simp only [Option.bind_some, Bool.not_true, cond_false, c1, c2, h1, tb_append, size_tb, List.length_append]
    rw [no_over (by simp [head]; omega)]
    rfl
end Go.Proofs.YtphlamnaaogmaaaGreatDoor.M

namespace Go.Proofs.YtphlamnaaogmaaaGreatDoor.M
open Go Go.RowKit Go.Proofs Go.Proofs.Qx Go.Proofs.El
set_option linter.unusedVariables false
set_option linter.unusedSimpArgs false

theorem digit_16 (c : UInt8) : hexD c = if El.digit c < 16 then some (El.digit c) else none := by
  revert c
  refine u8_all ?_
  decide +kernel
theorem hexM_number : ∀ (l : Bs) (acc m : Nat), acc < 16 ^ m → l.length + m ≤ 7 → hexM acc l = match number 16 acc l with | some n => .ok n | none => Lib.NumEnd.syntax
  | [], acc, m, _, _ => rfl
  | c :: l, acc, m, h, hl => by
    simp only [hexM, digit_16, number]
    by_cases hd : El.digit c < 16
    · simp only [if_pos hd]
      have h1 : 16 * acc + El.digit c < 16 ^ (m + 1) := by rw [Nat.pow_succ]; omega
      have h2 : 16 ^ (m + 1) ≤ 16 ^ 7 := Nat.pow_le_pow_right (by omega) (by simp at hl; omega)
      rw [if_neg (by omega), Nat.mul_comm acc 16, hexM_number l _ (m + 1) h1 (by simp at hl; omega)]
    · simp only [if_neg hd]
theorem digit_10 (c : UInt8) : (48 ≤ c.toNat ∧ c.toNat ≤ 57 → El.digit c = c.toNat - 48) ∧ (¬ (48 ≤ c.toNat ∧ c.toNat ≤ 57) → 10 ≤ El.digit c) := by
  revert c
  refine u8_all ?_
  decide +kernel
theorem decM_number : ∀ (l : Bs) (acc m : Nat), acc < 10 ^ m → l.length + m ≤ 9 → Lib.parseUintM 4294967295 acc l = match number 10 acc l with | some n => .ok n | none => Lib.NumEnd.syntax
  | [], acc, m, _, _ => rfl
  | c :: l, acc, m, h, hl => by
    obtain ⟨d1, d2⟩ := digit_10 c
    simp only [Lib.parseUintM, number]
    by_cases hd : 48 ≤ c.toNat ∧ c.toNat ≤ 57
    · have hdg := d1 hd
      have h1 : 10 * acc + El.digit c < 10 ^ (m + 1) := by rw [Nat.pow_succ]; omega
      have h2 : 10 ^ (m + 1) ≤ 10 ^ 9 := Nat.pow_le_pow_right (by omega) (by simp at hl; omega)
      rw [if_pos hd, if_pos (show El.digit c < 10 by omega), if_neg (show ¬ 1844674407370955162 ≤ acc by omega), if_neg (show ¬ 4294967295 < acc * 10 + (c.toNat - 48) by omega), ← hdg, Nat.mul_comm acc 10, decM_number l _ (m + 1) h1 (by simp at hl; omega)]
    · rw [if_neg hd, if_neg (show ¬ El.digit c < 10 by have := d2 hd; omega)]
theorem sign_none (n : Nat) : sign n = none ↔ (n > 1114111 ∨ (55296 ≤ n ∧ n ≤ 57343) ∨ (n < 32 ∧ n ≠ 9 ∧ n ≠ 10 ∧ n ≠ 13)) := by
  unfold sign
  by_cases h : (decide (n > 1114111) || (decide (55296 ≤ n) && decide (n ≤ 57343)) || (decide (n < 32) && !(n == 9) && !(n == 10) && !(n == 13))) = true
  · rw [if_pos h]
    simp only [Bool.or_eq_true, decide_eq_true_eq, Bool.and_eq_true, Bool.not_eq_true', beq_eq_false_iff_ne] at h
    constructor
    · intro _; omega
    · intro _; rfl
  · rw [if_neg h]
    simp only [Bool.or_eq_true, decide_eq_true_eq, Bool.and_eq_true, Bool.not_eq_true', beq_eq_false_iff_ne] at h
    constructor
    · intro q; exfalso; revert q; (repeat' split) <;> simp
    · intro q; exfalso; omega
theorem encode_sign {n : Nat} {v : Bs} (h : sign n = some v) : Utf8.encode (n : Int) = tb v := by
  have hn : ¬ sign n = none := by rw [h]; simp
  rw [sign_none] at hn
  unfold sign at h
  have hv : Utf8.valid (n : Int) = true := by
    unfold Utf8.valid
    simp only [Bool.or_eq_true, Bool.and_eq_true, decide_eq_true_eq]; omega
  unfold Utf8.encode
  simp only [hv, if_true, Int.toNat_natCast]
  split at h
  · cases h
  · split at h
    · rename_i h1; cases h; rw [if_pos (by omega)]; rfl
    · rename_i h1
      rw [if_neg (by omega)]
      split at h
      · rename_i h2; cases h; rw [if_pos (by omega)]; rfl
      · rename_i h2
        rw [if_neg (by omega)]
        split at h
        · rename_i h3; cases h; rw [if_pos (by omega)]; rfl
        · rename_i h3; cases h; rw [if_neg (by omega)]; rfl
def signS : Option Bs → ByteArray ⊕ Unit
  | some v => .inl (tb v)
  | none => .inr ()
theorem must_eq (k : Nat) (b : Bool) : z8.f k b = some (bif b then .inl () else .inr ()) := by cases b <;> rfl
theorem validRune_eq (k : Nat) (n : Nat) : zS.f k (n : Int) = some (decide (n < 55296) || (decide (57343 < n) && decide (n ≤ 1114111))) := by
  show zS.t k _ = _
  unfold zS.t zS.t.J1
  have e1 : decide ((n : Int) < 55296) = decide (n < 55296) := by rw [decide_eq_decide]; omega
  have e2 : decide ((57343 : Int) < (n : Int)) = decide (57343 < n) := by rw [decide_eq_decide]; omega
  have e3 : decide ((n : Int) ≤ 1114111) = decide (n ≤ 1114111) := by rw [decide_eq_decide]; omega
  rw [decide_eq_true (show (0 : Int) ≤ n by omega), e1, e2, e3]
  cases decide (n < 55296) <;> cases decide (57343 < n) <;> cases decide (n ≤ 1114111) <;> rfl
theorem wr32 {n : Nat} (h : n ≤ 1114111) : IntKind.i32.wrap (n : Int) = (n : Int) := by
  rw [Go.IntWalk.i32_left]; unfold wrap32; omega
theorem ent_tail (k n : Nat) (f41 : Bool → Option (Unit ⊕ Unit)) (h41 : ∀ b, f41 b = some (bif b then .inl () else .inr ())) :
    (bif decide ((n : Int) ≤ 1114111) then (zS.f k (IntKind.i32.wrap (n : Int))).bind fun v47 => bif v47 then (yF.f k (IntKind.i32.wrap (n : Int))).bind fun v51 => (f41 v51).bind fun v52 => Sum.elim (fun v53 => some (Sum.inl (Utf8.encode (IntKind.i32.wrap (n : Int))))) (fun v54 => some (Sum.inr ())) v52
      else (f41 false).bind fun v48 => Sum.elim (fun v49 => some (Sum.inl (Utf8.encode (IntKind.i32.wrap (n : Int))))) (fun v50 => some (Sum.inr ())) v48
     else (f41 false).bind fun v44 => Sum.elim (fun v45 => some (Sum.inl (Utf8.encode (IntKind.i32.wrap (n : Int))))) (fun v46 => some (Sum.inr ())) v44) = some (signS (sign n)) := by
  by_cases hn : n ≤ 1114111
  · rw [decide_eq_true (show (n : Int) ≤ 1114111 by omega), wr32 hn, validRune_eq, elem_sign_eq]
    simp only [cond_true, Option.bind_some, h41]
    cases hs : sign n with
    | some v =>
      have hnn : ¬ sign n = none := by rw [hs]; simp
      rw [sign_none] at hnn
      have e1 : (decide (n < 55296) || (decide (57343 < n) && decide (n ≤ 1114111))) = true := by
        simp only [Bool.or_eq_true, Bool.and_eq_true, decide_eq_true_eq]; omega
      have e2 : (decide (32 ≤ n) || n == 9 || n == 10 || n == 13) = true := by
        simp only [Bool.or_eq_true, decide_eq_true_eq, beq_iff_eq]; omega
      rw [e1, e2, encode_sign hs]; rfl
    | none =>
      have hnn := (sign_none n).1 hs
      by_cases h1 : 55296 ≤ n ∧ n ≤ 57343
      · have e1 : (decide (n < 55296) || (decide (57343 < n) && decide (n ≤ 1114111))) = false := by
          rw [decide_eq_false (by omega), decide_eq_false (show ¬ 57343 < n by omega)]; rfl
        rw [e1]; rfl
      · have e1 : (decide (n < 55296) || (decide (57343 < n) && decide (n ≤ 1114111))) = true := by
          simp only [Bool.or_eq_true, Bool.and_eq_true, decide_eq_true_eq]; omega
        have e2 : (decide (32 ≤ n) || n == 9 || n == 10 || n == 13) = false := by
          rw [decide_eq_false (by omega), beq_eq_false_iff_ne.2 (show n ≠ 9 by omega), beq_eq_false_iff_ne.2 (show n ≠ 10 by omega), beq_eq_false_iff_ne.2 (show n ≠ 13 by omega)]; rfl
        rw [e1, e2]; rfl
  · rw [decide_eq_false (show ¬ (n : Int) ≤ 1114111 by omega), h41, (sign_none n).2 (by omega)]; rfl

def entL : List (List D) := [[D.str (ByteArray.mk #[97, 109, 112])], [D.str (ByteArray.mk #[108, 116])], [D.str (ByteArray.mk #[103, 116])], [D.str (ByteArray.mk #[113, 117, 111, 116])], [D.str (ByteArray.mk #[97, 112, 111, 115])]]
theorem index5 (k : Nat) (a : Bs) : zB.f (k + 6) entL (tb a) = some (bif a == [97, 109, 112] then 0 else bif a == [108, 116] then 1 else bif a == [103, 116] then 2 else bif a == [113, 117, 111, 116] then 3 else bif a == [97, 112, 111, 115] then 4 else -1) := by
  show zB.t (k + 6) _ _ = _
  unfold zB.t
  have hl : (entL.length : Int) = 5 := rfl
  have w0 : IntKind.i64.wrap ((0 : Int) + 1) = 1 := by decide
  have w1 : IntKind.i64.wrap ((1 : Int) + 1) = 2 := by decide
  have w2 : IntKind.i64.wrap ((2 : Int) + 1) = 3 := by decide
  have w3 : IntKind.i64.wrap ((3 : Int) + 1) = 4 := by decide
  have w4 : IntKind.i64.wrap ((4 : Int) + 1) = 5 := by decide
  have t0 : (D.at entL (Int.toNat 0) 0).toStr.toList = ([97, 109, 112] : Bs) := toList_bl _
  have t1 : (D.at entL (Int.toNat 1) 0).toStr.toList = ([108, 116] : Bs) := toList_bl _
  have t2 : (D.at entL (Int.toNat 2) 0).toStr.toList = ([103, 116] : Bs) := toList_bl _
  have t3 : (D.at entL (Int.toNat 3) 0).toStr.toList = ([113, 117, 111, 116] : Bs) := toList_bl _
  have t4 : (D.at entL (Int.toNat 4) 0).toStr.toList = ([97, 112, 111, 115] : Bs) := toList_bl _
  have c0 : ∀ i : Int, (0 ≤ i ∧ i < 5) → ∀ x y : Option (Int ⊕ Int), (if (0 : Int) ≤ i ∧ i < 5 then x else y) = x := fun i hi x y => if_pos hi
  have d0 : decide ((0 : Int) < 5) = true := rfl
  have d1 : decide ((1 : Int) < 5) = true := rfl
  have d2 : decide ((2 : Int) < 5) = true := rfl
  have d3 : decide ((3 : Int) < 5) = true := rfl
  have d4 : decide ((4 : Int) < 5) = true := rfl
  have d5 : decide ((5 : Int) < 5) = false := rfl
  simp only [hl, zB.L2, zB.L2.S, w0, w1, w2, w3, w4, t0, t1, t2, t3, t4, toList_tb, c0 0 (by omega), c0 1 (by omega), c0 2 (by omega), c0 3 (by omega), c0 4 (by omega), d0, d1, d2, d3, d4, d5, cond_true, cond_false]
  cases a == [97, 109, 112] with
  | true => rfl
  | false =>
    cases a == [108, 116] with
    | true => rfl
    | false =>
      cases a == [103, 116] with
      | true => rfl
      | false =>
        cases a == [113, 117, 111, 116] with
        | true => rfl
        | false =>
          cases a == [97, 112, 111, 115] <;> rfl
theorem readHex_eq (l : Bs) (hl : l.length ≤ 6) : readHex l = match digits l 16 6 with | some n => ((n : Int), true) | none => (0, false) := by
  unfold readHex digits
  cases l with
  | nil => rfl
  | cons c l =>
    rw [if_neg (by simp), hexM_number (c :: l) 0 0 (by simp) (by omega)]
    have : ((c :: l).isEmpty || decide (6 < (c :: l).length)) = false := by simp at hl ⊢; omega
    rw [this]
    simp only [Bool.false_eq_true, if_false]
    cases number 16 0 (c :: l) <;> rfl
theorem readUint_eq (l : Bs) (hl : l.length ≤ 7) : readUint l = match digits l 10 7 with | some n => ((n : Int), true) | none => (0, false) := by
  unfold readUint digits Lib.parseUintB
  cases l with
  | nil => rfl
  | cons c l =>
    rw [if_neg (by simp), show 2 ^ 32 - 1 = 4294967295 from rfl, decM_number (c :: l) 0 0 (by simp) (by omega)]
    have : ((c :: l).isEmpty || decide (7 < (c :: l).length)) = false := by simp at hl ⊢; omega
    rw [this]
    simp only [Bool.false_eq_true, if_false]
    cases number 10 0 (c :: l) <;> rfl
theorem digits_long (l : Bs) (b m : Nat) (h : m < l.length) : digits l b m = none := by
  unfold digits
  rw [if_pos (by simp [h])]
theorem elem_entity_eq (k : Nat) (a : Bs) (hk : 6 ≤ k) (ha : a.length ≤ 1000000000) : yA.f k (tb a) = some (signS (entity a)) := by
  obtain ⟨k', rfl⟩ : ∃ k', k = k' + 6 := ⟨k - 6, by omega⟩
  show yA.t (k' + 6) _ _ _ _ _ _ _ = _
  unfold yA.t
  rw [show [[D.str (ByteArray.mk #[97, 109, 112])], [D.str (ByteArray.mk #[108, 116])], [D.str (ByteArray.mk #[103, 116])], [D.str (ByteArray.mk #[113, 117, 111, 116])], [D.str (ByteArray.mk #[97, 112, 111, 115])]] = entL from rfl, index5]
  unfold entity
  cases h0 : a == [97, 109, 112] with
  | true => rfl
  | false =>
    cases h1 : a == [108, 116] with
    | true => rfl
    | false =>
      cases h2 : a == [103, 116] with
      | true => rfl
      | false =>
        cases h3 : a == [113, 117, 111, 116] with
        | true => rfl
        | false =>
          cases h4 : a == [97, 112, 111, 115] with
          | true => rfl
          | false =>
            simp only [cond_false, Option.bind_some, Bool.false_eq_true, if_false, show decide ((-1 : Int) ≥ 0) = false from rfl, strings_HasPrefix.f, Lib.hasPrefix]
            have p1 : (ByteArray.mk #[35, 120]).data.toList = [35, 120] := rfl
            have p2 : (ByteArray.mk #[35]).data.toList = [35] := rfl
            have p3 : (tb a).data.toList = a := rfl
            have m41 := must_eq (k' + 6)
            rw [p3]
            by_cases q1 : ∃ l, a = 35 :: 120 :: l
            · obtain ⟨l, rfl⟩ := q1
              have e1 : ([35, 120] : Bs).isPrefixOf (35 :: 120 :: l) = true := by simp [List.isPrefixOf]
              have hsz : ((tb (35 :: 120 :: l)).size : Int) = ((l.length + 2 : Nat) : Int) := by rw [size_tb]; rfl
              have hex : (tb (35 :: 120 :: l)).extract (Int.toNat 2) (tb (35 :: 120 :: l)).size = tb l := by
                rw [tb_extract, size_tb]
                exact congrArg tb (by simp)
              simp only [e1, cond_true, Int.toNat_natCast, hex]
              rw [if_pos (by omega), if_pos (by omega)]
              have hpu : strconv_ParseUint.f (tb l) 16 32 = some (readHex l) := by
                unfold strconv_ParseUint.f
                rw [if_neg (by omega), if_pos ⟨rfl, rfl, by rw [size_tb]; simp at ha; omega⟩]; rfl
              rw [hpu, Option.bind_some, size_tb, show entNum (35 :: 120 :: l) = (digits l 16 6).bind sign from rfl]
              by_cases hlen : l.length ≤ 6
              · rw [readHex_eq l hlen, decide_eq_true (show ((l.length : Nat) : Int) ≤ 6 by omega)]
                cases hd : digits l 16 6 with
                | none => simp only [m41]; rfl
                | some n =>
                  simp only [cond_true]
                  exact ent_tail (k' + 6) n _ m41
              · rw [digits_long l 16 6 (by omega), decide_eq_false (show ¬ ((l.length : Nat) : Int) ≤ 6 by omega)]
                cases (readHex l).2 <;> (simp only [m41]; rfl)
            · have e1 : ([35, 120] : Bs).isPrefixOf a = false := by
                cases hp : ([35, 120] : Bs).isPrefixOf a with
                | false => rfl
                | true =>
                  obtain ⟨t, ht⟩ := List.isPrefixOf_iff_prefix.1 hp
                  exact absurd ⟨t, ht.symm⟩ q1
              by_cases q2 : ∃ l, a = 35 :: l
              · obtain ⟨l, rfl⟩ := q2
                have e2 : ([35] : Bs).isPrefixOf (35 :: l) = true := by simp [List.isPrefixOf]
                have hsz : ((tb (35 :: l)).size : Int) = ((l.length + 1 : Nat) : Int) := by rw [size_tb]; rfl
                have hex : (tb (35 :: l)).extract (Int.toNat 1) (tb (35 :: l)).size = tb l := by
                  rw [tb_extract, size_tb]
                  exact congrArg tb (by simp)
                simp only [e1, e2, cond_true, cond_false, Int.toNat_natCast, hex]
                rw [if_pos (by omega), if_pos (by omega)]
                have hpu : strconv_ParseUint.f (tb l) 10 32 = some (readUint l) := by
                  unfold strconv_ParseUint.f
                  rw [if_pos ⟨rfl, rfl, by rw [size_tb]; simp at ha; omega⟩]; rfl
                have hm : entNum (35 :: l : Bs) = (digits l 10 7).bind sign := by
                  unfold entNum
                  split
                  · rename_i heq; cases heq; exact absurd ⟨_, rfl⟩ q1
                  · rename_i heq; cases heq; rfl
                  · rename_i h5 h6; exact absurd rfl (h6 _)
                rw [hm, hpu, Option.bind_some, size_tb]
                by_cases hlen : l.length ≤ 7
                · rw [readUint_eq l hlen, decide_eq_true (show ((l.length : Nat) : Int) ≤ 7 by omega)]
                  cases hd : digits l 10 7 with
                  | none => simp only [m41]; rfl
                  | some n =>
                    simp only [cond_true]
                    exact ent_tail (k' + 6) n _ m41
                · rw [digits_long l 10 7 (by omega), decide_eq_false (show ¬ ((l.length : Nat) : Int) ≤ 7 by omega)]
                  cases (readUint l).2 <;> (simp only [m41]; rfl)
              · have e2 : ([35] : Bs).isPrefixOf a = false := by
                  cases hp : ([35] : Bs).isPrefixOf a with
                  | false => rfl
                  | true =>
                    obtain ⟨t, ht⟩ := List.isPrefixOf_iff_prefix.1 hp
                    exact absurd ⟨t, ht.symm⟩ q2
                have hpu : strconv_ParseUint.f (ByteArray.mk #[]) 10 32 = some (0, false) := rfl
                have hm : entNum a = none := by
                  unfold entNum
                  split
                  · exact absurd ⟨_, rfl⟩ q1
                  · exact absurd ⟨_, rfl⟩ q2
                  · rfl
                rw [hm]
                simp only [e1, e2, cond_false, hpu, Option.bind_some, m41]; rfl
end Go.Proofs.YtphlamnaaogmaaaGreatDoor.M

namespace Go.Proofs.YtphlamnaaogmaaaGreatDoor.M
open Go Go.RowKit Go.Proofs Go.Proofs.Qx Go.Proofs.El
set_option linter.unusedVariables false
set_option linter.unusedSimpArgs false

theorem index_ne {l p : Bs} : Lib.index l p = -1 ∨ 0 ≤ Lib.index l p := by have := Lib.index_ge l p; omega
theorem find_index {sg : Bs} (hs : sg ≠ []) : ∀ (l : Bs), find sg l = if 0 ≤ Lib.index l sg then some (l.drop ((Lib.index l sg).toNat + sg.length)) else none
  | [] => by
    cases sg with
    | nil => exact absurd rfl hs
    | cons c sg => simp [find, Lib.index]
  | c :: l => by
    unfold find
    by_cases h : sg.isPrefixOf (c :: l) = true
    · have e : Lib.index (c :: l) sg = 0 := by simp only [Lib.index, if_pos h]
      rw [if_pos h, e, if_pos (by omega)]; simp
    · rw [if_neg h, find_index hs l]
      rcases index_ne (l := l) (p := sg) with q | q
      · have e : Lib.index (c :: l) sg = -1 := by simp only [Lib.index, if_neg h]; rw [if_pos (beq_iff_eq.2 q)]
        rw [e, q]; simp
      · have e : Lib.index (c :: l) sg = Lib.index l sg + 1 := by
          simp only [Lib.index, if_neg h]; rw [if_neg (by simp; omega)]
        rw [e, if_pos q, if_pos (by omega)]
        congr 1
        rw [show (Lib.index l sg + 1).toNat + sg.length = ((Lib.index l sg).toNat + sg.length) + 1 by omega, List.drop_succ_cons]
theorem index_one (c : UInt8) : ∀ (l : Bs), Lib.index l [c] = match l.dropWhile (fun d => !(d == c)) with | [] => -1 | _ :: _ => ((l.takeWhile fun d => !(d == c)).length : Int)
  | [] => rfl
  | d :: l => by
    simp only [Lib.index, List.isPrefixOf, Bool.and_true]
    by_cases h : c = d
    · subst h; simp
    · have h1 : (c == d) = false := beq_eq_false_iff_ne.2 h
      have h2 : (!(d == c)) = true := by simp [Ne.symm h]
      rw [h1, List.dropWhile_cons_of_pos (p := fun d => !(d == c)) h2, List.takeWhile_cons_of_pos (p := fun d => !(d == c)) h2, index_one c l]
      cases hd : l.dropWhile (fun d => !(d == c)) with
      | nil => simp
      | cons x r =>
        have : ¬ (((l.takeWhile fun d => !(d == c)).length : Int) == -1) = true := by simp
        simp only [Bool.false_eq_true, if_false]
        rw [if_neg this]; simp
theorem cut_one (c : UInt8) (l : Bs) : Lib.cut l [c] = match l.dropWhile (fun d => !(d == c)) with | [] => (l, [], false) | _ :: r => (l.takeWhile (fun d => !(d == c)), r, true) := by
  unfold Lib.cut
  rw [index_one]
  cases hd : l.dropWhile (fun d => !(d == c)) with
  | nil => simp
  | cons x r =>
    dsimp only
    have h := List.takeWhile_append_dropWhile (p := fun d => !(d == c)) (l := l)
    rw [hd] at h
    generalize l.takeWhile (fun d => !(d == c)) = a at h ⊢
    rw [if_pos (Int.natCast_nonneg _)]
    subst h
    simp
theorem meantS_no (l : Bs) (h : l.dropWhile (fun d => !(d == 38)) = []) : meantS none l = some l := by
  have := meantS_plain l [] (fun c hc => by have := drop_nil h c hc; simpa using this)
  rw [List.append_nil] at this
  rw [this]; simp [meantS]
theorem meantS_in_no : ∀ (l x : Bs), l.dropWhile (fun d => !(d == 59)) = [] → meantS (some x) l = none
  | [], x, _ => rfl
  | c :: l, x, h => by
    by_cases hc : (!(c == 59)) = true
    · rw [List.dropWhile_cons_of_pos (p := fun d => !(d == 59)) hc] at h
      have hc' : ¬ (c == 59) = true := by simpa using hc
      rw [meantS, if_neg hc']
      exact meantS_in_no l _ h
    · rw [List.dropWhile_cons_of_neg (p := fun d => !(d == 59)) hc] at h; cases h
theorem mem_tw (p : UInt8 → Bool) : ∀ (l : Bs) (x : UInt8), x ∈ l.takeWhile p → p x = true
  | [], x, h => by simp at h
  | c :: l, x, h => by
    by_cases hc : p c = true
    · rw [List.takeWhile_cons_of_pos hc] at h
      rcases List.mem_cons.1 h with rfl | h
      · exact hc
      · exact mem_tw p l x h
    · rw [List.takeWhile_cons_of_neg hc] at h; cases h
theorem drop_split {c : UInt8} {l r : Bs} {d : UInt8} (h : l.dropWhile (fun d => !(d == c)) = d :: r) : d = c ∧ l = l.takeWhile (fun d => !(d == c)) ++ c :: r ∧ ∀ x ∈ l.takeWhile (fun d => !(d == c)), x ≠ c := by
  have h1 := List.head?_dropWhile_not (p := fun d => !(d == c)) l
  rw [h] at h1
  have hd : d = c := by simpa using h1
  subst hd
  refine ⟨rfl, ?_, fun x hx => ?_⟩
  · have := List.takeWhile_append_dropWhile (p := fun x => !(x == d)) (l := l)
    rw [h] at this
    exact this.symm
  · have := mem_tw _ _ x hx
    simpa using this
theorem sign_len {n : Nat} {v : Bs} (hv : sign n = some v) : v.length ≤ 4 := by
  unfold sign at hv
  (repeat' split at hv) <;> cases hv <;> simp
theorem entNum_len {b t : Bs} (h : entNum b = some t) : t.length ≤ b.length + 2 := by
  unfold entNum at h
  split at h
  · rw [Option.bind_eq_some_iff] at h
    obtain ⟨n, _, h2⟩ := h
    have := sign_len h2
    simp; omega
  · rename_i l _
    rw [Option.bind_eq_some_iff] at h
    obtain ⟨n, h1, h2⟩ := h
    have := sign_len h2
    have hl : l ≠ [] := by rintro rfl; simp [digits] at h1
    have : 1 ≤ l.length := List.length_pos_iff.2 hl
    simp; omega
  · cases h
theorem entity_len {b t : Bs} (h : entity b = some t) : t.length ≤ b.length + 2 := by
  unfold entity at h
  split at h
  · cases h; simp
  · split at h
    · cases h; simp
    · split at h
      · cases h; simp
      · split at h
        · cases h; simp
        · split at h
          · cases h; simp
          · exact entNum_len h

theorem cut_f (l : Bs) (c : UInt8) (h : l.length ≤ 1000000000) : strings_Cut.f (tb l) (ByteArray.mk #[c]) = some (match l.dropWhile (fun d => !(d == c)) with | [] => (tb l, tb [], false) | _ :: r => (tb (l.takeWhile fun d => !(d == c)), tb r, true)) := by
  unfold strings_Cut.f
  rw [size_tb, if_pos h, show (tb l).data.toList = l from rfl, show (ByteArray.mk #[c]).data.toList = [c] from rfl, cut_one]
  cases l.dropWhile (fun d => !(d == c)) <;> rfl
theorem len_split {c : UInt8} {l r : Bs} (h : l = l.takeWhile (fun d => !(d == c)) ++ c :: r) : l.length = (l.takeWhile fun d => !(d == c)).length + 1 + r.length := by
  have := congrArg List.length h
  rw [List.length_append, List.length_cons] at this
  omega
theorem elem_read_loop {f49 : ByteArray → Option Bool} {f110 : ByteArray → Option (ByteArray ⊕ Unit)} (hf : ∀ a : Bs, a.length ≤ 1000000000 → f110 (tb a) = some (signS (entity a))) (K K' : Nat) : ∀ (k : Nat) (l out : Bs) (x1 : ByteArray), l.length < k → out.length + l.length ≤ 1000000000 →
    zX.L2 K (z8.f K') f49 strings_Cut.f f110 k (tb l, x1, tb out) = some (match meantS none l with | some t => .inl (x1, tb (out ++ t)) | none => .inr ())
  | 0, l, out, x1, hk, hs => by omega
  | k + 1, l, out, x1, hk, hs => by
    simp only [zX.L2, zX.L2.S, emptyB]
    cases l with
    | nil => simp [meantS]
    | cons c l0 =>
      generalize hl : c :: l0 = l at hk hs
      have hne : l.isEmpty = false := by rw [← hl]; rfl
      simp only [hne, Bool.not_false, cond_true]
      rw [cut_f l 38 (by omega)]
      cases hd : l.dropWhile (fun d => !(d == 38)) with
      | nil =>
        rw [meantS_no l hd]
        dsimp only [Option.bind_some]
        rw [if_pos ⟨trivial, trivial, by rw [size_tb, size_tb]; omega⟩]
        simp [tb_append, Prod.r2]
      | cons d r =>
        obtain ⟨rfl, hsp, hno⟩ := drop_split hd
        have hlen := len_split hsp
        dsimp only [Option.bind_some]
        rw [if_pos ⟨trivial, trivial, by rw [size_tb, size_tb]; omega⟩]
        have hm : meantS none l = (meantS (some []) r).map (l.takeWhile (fun d => !(d == 38)) ++ ·) := by
          conv => lhs; rw [hsp]
          rw [meantS_plain _ _ hno]
          simp [meantS]
        rw [hm]
        simp only [Prod.r2, Prod.q1, Bool.not_true, cond_false]
        generalize l.takeWhile (fun d => !(d == 38)) = a at hlen hno
        rw [cut_f r 59 (by omega)]
        cases hd2 : r.dropWhile (fun d => !(d == 59)) with
        | nil =>
          rw [meantS_in_no r [] hd2]
          simp only [Option.bind_some, must_eq]; rfl
        | cons d2 r2 =>
          obtain ⟨rfl, hsp2, hno2⟩ := drop_split hd2
          have hlen2 := len_split hsp2
          have hm2 : meantS (some []) r = (entity (r.takeWhile (fun d => !(d == 59)))).bind fun t => (meantS none r2).map (t ++ ·) := by
            conv => lhs; rw [hsp2]
            rw [meantS_in _ _ _ hno2]; simp
          rw [hm2]
          simp only [Option.bind_some, must_eq, cond_true, Sum.elim_inl]
          rw [hf _ (by omega)]
          cases he : entity (r.takeWhile (fun d => !(d == 59))) with
          | none => rfl
          | some t =>
            have htl := entity_len he
            simp only [signS, Option.bind_some, Sum.elim_inl, tb_append]
            rw [if_pos ⟨trivial, trivial, by rw [size_tb, size_tb, List.length_append]; omega⟩, elem_read_loop hf K K' k r2 (out ++ a ++ t) x1 (by omega) (by rw [List.length_append, List.length_append]; omega)]
            cases meantS none r2 <;> simp
set_option maxRecDepth 100000
theorem size5 : Tryz.prog.types[(5 : TypeId)].size = (1 : Nat) := by kernel_rfl
theorem elem_read_eq (k : Nat) (l : Bs) (hk : l.length + 6 < k) (hl : l.length ≤ 1000000000) (ht : ∀ t, meantS none l = some t → t.length < k ∧ t.length ≤ 1000000000) : zX.f k (tb l) = some (signS (meant l)) := by
  show zX.t k _ _ _ _ _ = _
  unfold zX.t
  have h1 := elem_read_loop (f49 := zW.f k) (f110 := yA.f k) (fun a ha => elem_entity_eq k a (by omega) ha) k k k l [] (ByteArray.mk #[]) (by omega) (by simpa using hl)
  rw [show ByteArray.mk #[] = tb [] from rfl] at h1 ⊢
  rw [h1]
  unfold meant
  cases hm : meantS none l with
  | none => rfl
  | some t =>
    obtain ⟨q1, q2⟩ := ht t hm
    simp only [Option.bind_some, List.nil_append, Sum.elim_inl]
    have h5 : ∀ {α : Type} (x y : Option α), (if True ∧ True ∧ Tryz.prog.types[(5 : TypeId)].size = (1 : Nat) ∧ True ∧ (tb t).size ≤ (140737488355328 : Nat) then x else y) = x := fun x y =>
      if_pos ⟨trivial, trivial, size5, trivial, by rw [size_tb]; omega⟩
    rw [h5, elem_text_eq k (tb t) (by rw [size_tb]; exact q1) (by rw [size_tb]; exact q2), bl_tb]
    simp only [Option.bind_some, must_eq]
    cases El.text t with
    | false => rfl
    | true => simp only [cond_true, Option.bind_some, Sum.elim_inl, if_true, signS]; exact h5 _ _
end Go.Proofs.YtphlamnaaogmaaaGreatDoor.M
