import Derived.Test.YtphlamnaaogmaaaGreatDoorGLib
import Derived.Shelf.Pu.ErrVarParseUint
namespace Go.Proofs.YtphlamnaaogmaaaGreatDoor.M
open Go.RowKit Go.Shelf
set_option linter.unusedVariables false
set_option linter.unusedSimpArgs false

def hexD (c : UInt8) : Option Nat := if 48 ≤ c.toNat ∧ c.toNat ≤ 57 then some (c.toNat - 48) else if 97 ≤ c.toNat ∧ c.toNat ≤ 102 then some (c.toNat - 87) else if 65 ≤ c.toNat ∧ c.toNat ≤ 70 then some (c.toNat - 55) else none
def hexM (acc : Nat) : List UInt8 → Lib.NumEnd Nat
  | [] => .ok acc
  | c :: r => match hexD c with
    | none => Lib.NumEnd.syntax
    | some d => if 4294967295 < acc * 16 + d then .range else hexM (acc * 16 + d) r

theorem low_cases (c : UInt8) : (hexD c = some (c.toNat - 48) ∧ 48 ≤ c.toNat ∧ c.toNat ≤ 57) ∨ (∃ d, hexD c = some d ∧ 10 ≤ d ∧ d ≤ 15 ∧ ¬ (48 ≤ c.toNat ∧ c.toNat ≤ 57) ∧ c.toNat ≠ 95 ∧ bits .or .u8 (c.toNat : Int) 32 = 87 + (d : Int)) ∨
    (hexD c = none ∧ ¬ (48 ≤ c.toNat ∧ c.toNat ≤ 57) ∧ ¬ (97 ≤ bits .or .u8 (c.toNat : Int) 32 ∧ bits .or .u8 (c.toNat : Int) 32 ≤ 102)) := by
  have h : ∀ n : Fin 256, (48 ≤ n.val ∧ n.val ≤ 57) ∨ (97 ≤ n.val ∧ n.val ≤ 102 ∧ bits .or .u8 (n.val : Int) 32 = n.val) ∨ (65 ≤ n.val ∧ n.val ≤ 70 ∧ bits .or .u8 (n.val : Int) 32 = n.val + 32) ∨
      (¬ (48 ≤ n.val ∧ n.val ≤ 57) ∧ ¬ (97 ≤ n.val ∧ n.val ≤ 102) ∧ ¬ (65 ≤ n.val ∧ n.val ≤ 70) ∧ ¬ (97 ≤ bits .or .u8 (n.val : Int) 32 ∧ bits .or .u8 (n.val : Int) 32 ≤ 102)) := by decide +kernel
  have hn := h ⟨c.toNat, c.toNat_lt⟩
  simp only at hn
  rcases hn with ⟨h1, h2⟩ | ⟨h1, h2, h3⟩ | ⟨h1, h2, h3⟩ | ⟨h1, h2, h3, h4⟩
  · exact .inl ⟨by rw [hexD, if_pos ⟨h1, h2⟩], h1, h2⟩
  · refine .inr (.inl ⟨c.toNat - 87, by rw [hexD, if_neg (by omega), if_pos ⟨h1, h2⟩], by omega, by omega, by omega, by omega, by rw [h3]; omega⟩)
  · refine .inr (.inl ⟨c.toNat - 55, by rw [hexD, if_neg (by omega), if_neg (by omega), if_pos ⟨h1, h2⟩], by omega, by omega, by omega, by omega, by rw [h3]; omega⟩)
  · exact .inr (.inr ⟨by rw [hexD, if_neg h1, if_neg h2, if_neg h3], h1, h4⟩)

theorem lower_walk (c : Int) (w : World) : Calls Tryz.prog 150 #[.int .u8 c] w fun e w' => e = .returned (.int .u8 (bits .or .u8 c 32)) ∧ w' = w := by
  go_enter Tryz.func150, Tryz.ntmps150
  go_wp2
  go_ret
  exact ⟨rfl, rfl⟩

set_option maxHeartbeats 32000000 in
set_option maxRecDepth 100000 in
theorem hex_walk (t : ByteArray) (hne : t.size ≠ 0) (hmax : t.size ≤ 281474976710656) (w : World) :
    Calls Tryz.prog 142 #[.string t, .int .i64 16, .int .i64 32] w fun e w' => e = .returned (Lib.uintTupleM 196 4294967295 (hexM 0 t.data.toList)) ∧ w' = Lib.bytesWorld w 5 t := by
  have hemp : t.toList.isEmpty = false := by
    rw [← decide_eq_emptyBytes]
    exact decide_eq_false (fun h => hne (by rw [h]; rfl))
  have hcv := Lib.run_convert_string_bytes (P := Tryz.prog) w 9 38 5 t (u := .string) Tryz.underlying9 Tryz.underlying38 Tryz.underlying5
  have hB : ∀ j, j < t.size → (Lib.bytesWorld w 5 t).cell? ⟨w.heap.size, j, none⟩ = some (.int .u8 (t.data.toList.getD j 0).toNat) := fun j hj => Lib.bytesWorld_cell w 5 t j hj
  obtain ⟨W1, hW1⟩ : ∃ W1, W1 = Lib.bytesWorld w 5 t := ⟨_, rfl⟩
  rw [← hW1] at hcv hB ⊢
  clear hW1
  obtain ⟨bs, hL⟩ : ∃ bs, bs = t.data.toList := ⟨_, rfl⟩
  have hLn : bs.length = t.size := by rw [hL, Lib.size_eq]
  rw [← hL] at hB ⊢
  clear hL
  have hmv : IntKind.u64.wrap (IntKind.u64.wrap 4294967296 - 1) = 4294967295 := by
    rw [IntKind.wrap_u64, IntKind.wrap_u64]
    decide
  go_enter Tryz.func142, Tryz.ntmps142
  go_wp2
  go_loop [12, 13, 101] (fun vu vn vi => ∃ (k acc : Nat) (a : Int), vu = .bool false ∧ vn = .int .u64 a ∧ vi = .int .i64 k ∧ k ≤ t.size ∧ Hid (a = (acc : Int) ∧ acc ≤ 4294967295 ∧ hexM 0 bs = hexM acc (bs.drop k)))
    (fun _ _ vi => t.size - (intOf vi).toNat)
  case atStart => exact ⟨0, 0, 0, rfl, rfl, rfl, by omega, rfl, by omega, rfl⟩
  case round =>
    obtain ⟨k, acc, a, rfl, rfl, rfl, hk, hh⟩ := hrel
    obtain ⟨ha, hacc, hdec⟩ := hh.out
    clear hh
    have a0 : 0 ≤ a := by omega
    have a1 : a ≤ 4294967295 := by omega
    by_cases hkn : k < t.size
    · have hc := hB k hkn
      have hdrop : bs.drop k = bs[k]'(by omega) :: bs.drop (k + 1) := List.drop_eq_getElem_cons (by omega)
      have hget : bs.getD k 0 = bs[k]'(by omega) := by simp [List.getD, List.getElem?_eq_getElem (show k < bs.length by omega)]
      rw [hdrop] at hdec
      rw [hget] at hc
      generalize bs[k]'(by omega) = c at hc hdec
      have hc256 : c.toNat < 256 := c.toNat_lt
      clear hB hdrop hget
      rcases low_cases c with ⟨hx, hd0, hd1⟩ | ⟨d, hx, hd0, hd1, hnd, h95, hlow⟩ | ⟨hx, hnd, hnl⟩
      · by_cases hov : 4294967295 < acc * 16 + (c.toNat - 48)
        · have hF : hexM acc (c :: bs.drop (k + 1)) = .range := by simp only [hexM, hx, if_pos hov]
          rw [hF] at hdec
          have iov : 4294967295 < a * 16 + ((c.toNat : Int) - 48) := by omega
          clear hacc hF hov ha hx
          go_wp2
          go_ret2
          exact ⟨rfl, rfl⟩
        · have hF : hexM acc (c :: bs.drop (k + 1)) = hexM (acc * 16 + (c.toNat - 48)) (bs.drop (k + 1)) := by simp only [hexM, hx, if_neg hov]
          have HN : Hid (a * 16 + ((c.toNat : Int) - 48) = ((acc * 16 + (c.toNat - 48) : Nat) : Int) ∧ acc * 16 + (c.toNat - 48) ≤ 4294967295 ∧ hexM 0 bs = hexM (acc * 16 + (c.toNat - 48)) (bs.drop (k + 1))) := Lib.hid ⟨by omega, by omega, hdec.trans hF⟩
          have iov : a * 16 + ((c.toNat : Int) - 48) ≤ 4294967295 := by omega
          clear hacc hF hov hdec ha hx
          go_wp2
          refine ⟨⟨k + 1, acc * 16 + (c.toNat - 48), a * 16 + ((c.toNat : Int) - 48), rfl, (by first | rfl | (congr 1; omega)), (by first | rfl | (congr 1; omega)), by omega, HN⟩, by simp [intOf]; omega⟩
      · have hlow2 : 97 ≤ 87 + (d : Int) := by omega
        have hlow3 : 87 + (d : Int) ≤ 122 := by omega
        have h95' : ¬ (c.toNat : Int) = 95 := by omega
        by_cases hov : 4294967295 < acc * 16 + d
        · have hF : hexM acc (c :: bs.drop (k + 1)) = .range := by simp only [hexM, hx, if_pos hov]
          rw [hF] at hdec
          have iov : 4294967295 < a * 16 + (d : Int) := by omega
          clear hacc hF hov ha hx
          go_wp2_with (go_at_call 150; refine (lower_walk _ _).mono ?_; rintro e w' ⟨rfl, rfl⟩; rw [hlow])
          all_goals go_ret2
          all_goals first | exact ⟨rfl, rfl⟩ | exact ⟨by rw [hdec]; rfl, rfl⟩
        · have hF : hexM acc (c :: bs.drop (k + 1)) = hexM (acc * 16 + d) (bs.drop (k + 1)) := by simp only [hexM, hx, if_neg hov]
          have HN : Hid (a * 16 + (d : Int) = ((acc * 16 + d : Nat) : Int) ∧ acc * 16 + d ≤ 4294967295 ∧ hexM 0 bs = hexM (acc * 16 + d) (bs.drop (k + 1))) := Lib.hid ⟨by omega, by omega, hdec.trans hF⟩
          have iov : a * 16 + (d : Int) ≤ 4294967295 := by omega
          clear hacc hF hov hdec ha hx
          go_wp2_with (go_at_call 150; refine (lower_walk _ _).mono ?_; rintro e w' ⟨rfl, rfl⟩; rw [hlow])
          all_goals exact ⟨⟨k + 1, acc * 16 + d, a * 16 + (d : Int), rfl, (by first | rfl | (congr 1; omega)), (by first | rfl | (congr 1; omega)), by omega, HN⟩, by simp [intOf]; omega⟩
      · have hF : hexM acc (c :: bs.drop (k + 1)) = Lib.NumEnd.syntax := by simp only [hexM, hx]
        rw [hF] at hdec
        clear hacc hF ha hx
        have hv0 := bits_lo_u8 .or (c.toNat : Int) 32
        have hv1 := bits_hi_u8 .or (c.toNat : Int) 32
        have hu0 := bits_lo_u8 .or 95 32
        have hu1 := bits_hi_u8 .or 95 32
        go_wp2_with (go_at_call 150; refine (lower_walk _ _).mono ?_; rintro e w' ⟨rfl, rfl⟩)
        all_goals go_ret2
        all_goals first | exact ⟨rfl, rfl⟩ | exact ⟨by rw [hdec]; rfl, rfl⟩
    · have hkk : k = t.size := by omega
      subst hkk
      have hF : hexM acc (bs.drop t.size) = .ok acc := by rw [List.drop_eq_nil_of_le (by omega)]; rfl
      rw [hF] at hdec
      subst ha
      clear hacc hF a0 a1
      go_wp2
      go_ret2
      exact ⟨rfl, rfl⟩
end Go.Proofs.YtphlamnaaogmaaaGreatDoor.M
