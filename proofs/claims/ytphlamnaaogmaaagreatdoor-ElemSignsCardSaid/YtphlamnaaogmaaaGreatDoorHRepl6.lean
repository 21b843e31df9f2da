import Derived.Test.YtphlamnaaogmaaaGreatDoorHRepl5
import Derived.Deep.DeepCutAuto
import Derived.Deep.RegionWith
import Derived.StillTailTactics
import Derived.Laws.CopyRow
import Derived.Deep.OwnRows
namespace Go.Proofs.YtphlamnaaogmaaaGreatDoor.M
open Go.RowKit Go.Proofs.Qx
set_option linter.unusedVariables false
set_option linter.unusedSimpArgs false

theorem count_walk (s : ByteArray) (c : UInt8) (w : World) : Calls Tryz.prog 218 #[.string s, .string ⟨#[c]⟩] w fun e w' => e = .returned (.int .i64 (s.data.toList.count c)) ∧ w' = w := by
  have hc : ∀ w, (callFunc 220 #[.string s, .int .u8 (c.toNat : Int)]).run Tryz.prog w = .ok (.value (.int .i64 (s.data.toList.count c))) w := fun w => by
    rw [run_callFunc_extern Tryz.func220 (by kernel_rfl) (by kernel_rfl) (by kernel_rfl) (e := Extern.BytealgCount.count) (by kernel_rfl), Lib.run_countString]
    simp [Result.andThen, Lib.countByte]
  have e0 : ∀ h, ((⟨#[c]⟩ : ByteArray)[0]'h) = c := fun _ => rfl
  go_enter Tryz.func218, Tryz.ntmps218
  go_wp2
  go_ret
  refine ⟨?_, rfl⟩
  show Ending.returned (.int .i64 ((s.data.count c : Nat) : Int)) = _
  rw [← Array.count_toList]

theorem esc_cases (c : UInt8) : match replTable.lookup c with
    | none => escB c = [c]
    | some v => escB c = v.data.toList := by
  rw [escB]
  cases replTable.lookup c <;> rfl
theorem take_set_snoc {α : Type} (l : List α) (n : Nat) (v : α) (h : n < l.length) : (l.set n v).take (n + 1) = l.take n ++ [v] := by
  rw [List.take_succ, List.getElem?_set_self h, List.take_set_of_le (Nat.le_refl _)]
  rfl
theorem add_off (b j : Nat) : (⟨b, 0, none⟩ : Addr).add j = ⟨b, j, none⟩ := by
  unfold Addr.add
  split
  · rename_i h; subst h; rfl
  · simp
theorem escL_snoc (l : List UInt8) (c : UInt8) : (escL (l ++ [c])).length = (escL l).length + (escB c).length := by
  rw [escL_append, List.length_append]
  show _ + (escB c ++ []).length = _
  rw [List.append_nil]
theorem chg_snoc (l : List UInt8) (c : UInt8) : chg (l ++ [c]) = (chg l || (replTable.lookup c).isSome) := by
  simp only [chg, List.any_append, List.any_cons, List.any_nil, Bool.or_false]
theorem sizeN_step (d : List (UInt8 × ByteArray)) (c : UInt8) (v : ByteArray) (l : List UInt8) : sizeN (d ++ [(c, v)]) l = sizeN d l + l.count c * (v.size - 1) := by
  simp [sizeN, Nat.add_assoc]
theorem anyN_step (d : List (UInt8 × ByteArray)) (c : UInt8) (v : ByteArray) (l : List UInt8) : anyN (d ++ [(c, v)]) l = (anyN d l || l.count c != 0) := by
  simp [anyN]
theorem sizeN_le (i : Nat) (l : List UInt8) : sizeN (replTable.take i) l ≤ 100 * l.length := by
  have h : ∀ c, l.count c ≤ l.length := fun c => List.count_le_length
  have h1 := h 34; have h2 := h 62; have h3 := h 60; have h4 := h 38
  have e : replTable.take i = replTable.take 0 ∨ replTable.take i = replTable.take 1 ∨ replTable.take i = replTable.take 2 ∨ replTable.take i = replTable.take 3 ∨ replTable.take i = replTable.take 4 := by
    match i with
    | 0 => exact .inl rfl
    | 1 => exact .inr (.inl rfl)
    | 2 => exact .inr (.inr (.inl rfl))
    | 3 => exact .inr (.inr (.inr (.inl rfl)))
    | n + 4 => exact .inr (.inr (.inr (.inr (by simp [replTable]))))
  rcases e with e | e | e | e | e <;> rw [e] <;> simp only [sizeN, replTable, ByteArray.size, List.take_zero, List.take_succ_cons, List.map_nil, List.map_cons, List.sum_nil, List.sum_cons, List.size_toArray, List.length_cons, List.length_nil] <;> omega

theorem copy_op (w : World) {ops : Array Oper} {rest : List Oper} {o : Oper} {a : Act} {Q : Exit → Act → World → Prop} (hgd : o.guard = none) (d s : Operand) (t t' : TypeId)
    (ho : o.op = .call { callee := .builtin .copy, args := #[d, s], argTypes := #[t, t'] }) (v u : Value) (hd : a.eval d = v) (hs : a.eval s = u) {v' : Value} {w' : World}
    (hr : (Builtin.copy_ #[t, t'] o.type #[v, u]).run Tryz.prog w = .ok v' w') (h : wpList Tryz.prog ops Q rest (a.put o.dst v') w') : wpList Tryz.prog ops Q (o :: rest) a w :=
  wpList_plain hgd fun _ hK => by
    unfold Oper.wp execOp
    simp only [ho, resolve, invoke, builtin, Sem.run_bind, Sem.run_pure, Result.andThen_ok, List.map_toArray, List.map_cons, List.map_nil, hd, hs, hr]
    exact hK _ _ h

structure SameMem (w w' : World) : Prop where
  heap : w'.heap = w.heap
  os : w'.os = w.os
  tape : w'.tape = w.tape
  output : w'.output = w.output
theorem SameMem.refl (w : World) : SameMem w w := ⟨rfl, rfl, rfl, rfl⟩
theorem SameMem.drew {w w' : World} (h : SameMem w w') : SameMem w w'.drew := ⟨h.heap, h.os, h.tape, h.output⟩
theorem SameMem.cell {w w' : World} (h : SameMem w w') (a : Addr) : w'.cell? a = w.cell? a := by simp only [World.cell?, h.heap]
theorem SameMem.below {w w' : World} (h : SameMem w w') (B : Nat) : Below B w w' := ⟨h.os, h.tape, h.output, by rw [h.heap]; exact Nat.le_refl _, fun k _ => by rw [h.heap]⟩

set_option maxHeartbeats 4000000 in
set_option maxRecDepth 100000 in
theorem tableReplace_walk (s : ByteArray) (hs : s.size ≤ 17592186044416) (B : Nat) (w : World) (t : Nat) (hT : TabAt B w t replTable) :
    Calls Tryz.prog 216 #[.pointer (some ⟨t, 0, none⟩), .string s] w fun e w' => e = .returned (.string (escS s)) ∧ Below w.heap.size w w' := by
  obtain ⟨cur, pc, p, ht, hcs, h256, hp, hps, hpt, hBt, hBp, htk, he⟩ := hT
  have c256 : w.cell? ⟨t, 256, none⟩ = some (.slice (some ⟨p, 0, none⟩) 4 4) := by
    have e : cur[256]? = some (.slice (some ⟨p, 0, none⟩) 4 4) := h256
    simp [World.cell?, ht, e]
  have hpc : pc.toList = [.string ⟨#[34]⟩, .string ⟨#[62]⟩, .string ⟨#[60]⟩, .string ⟨#[38]⟩] := by
    rw [List.take_of_length_le (by simp [hps, replTable])] at htk
    exact htk
  have cp : ∀ (j : Nat) (u : Value), pc.toList[j]? = some u → w.cell? ⟨p, j, none⟩ = some u := fun j u hu => by
    have : pc[j]? = some u := by simpa using hu
    simp [World.cell?, hp, this]
  have p0 := cp 0 (.string ⟨#[34]⟩) (by rw [hpc]; rfl)
  have p1 := cp 1 (.string ⟨#[62]⟩) (by rw [hpc]; rfl)
  have p2 := cp 2 (.string ⟨#[60]⟩) (by rw [hpc]; rfl)
  have p3 := cp 3 (.string ⟨#[38]⟩) (by rw [hpc]; rfl)
  have HE : Aside (∀ c : UInt8, EntryAt B w t p cur[c.toNat]? (replTable.lookup c)) := he
  have HT : Aside (w.heap[t]? = some (.cells cur 176 (0, 0))) := ht
  clear he ht hcs h256 hp hps htk hpc cp
  go_enter Tryz.func216, Tryz.ntmps216
  go_upto_if 26 with fail
  go_cut [5, 6] from 7 to 121 (fun x5 x6 wc => x5 = .int .i64 ((escL s.data.toList).length : Int) ∧ x6 = .bool (chg s.data.toList) ∧ SameMem w wc)
  case first =>
    go_upto_if 26 with fail
    generalize decide (32 ≤ (s.size : Int)) = D
    cases D
    rotate_left
    · go_step
      go_upto_block 0 with fail
      go_wp2_with (fail)
      go_loopg [5, 6, 32] 4 (fun k x5 x6 x32 wr => SameMem w wr ∧ k ≤ 4 ∧ x32 = .int .i64 (4 - (k : Int)) ∧ x5 = .int .i64 (sizeN (replTable.take (4 - k)) s.data.toList : Int) ∧ x6 = .bool (anyN (replTable.take (4 - k)) s.data.toList))
      case atStart => exact ⟨SameMem.refl w, Nat.le_refl _, rfl, rfl, rfl⟩
      case round =>
        obtain ⟨hw, hk, rfl, rfl, rfl⟩ := hrel
        rw [← hw.cell] at c256 p0 p1 p2 p3
        have HE' : Aside (∀ c : UInt8, EntryAt B w t p cur[c.toNat]? (replTable.lookup c)) := HE
        have HW : Aside (SameMem w wr) := hw
        have htw : wr.heap[t]? = some (.cells cur 176 (0, 0)) := by rw [hw.1]; exact HT.out
        clear hw
        obtain rfl | rfl | rfl | rfl | rfl : gk = 4 ∨ gk = 3 ∨ gk = 2 ∨ gk = 1 ∨ gk = 0 := by omega
        · obtain ⟨g, gcap, gc, fz, e1, e2, _, _, _, _, _, _⟩ : EntryAt B w t p cur[34]? (some ⟨#[38, 113, 117, 111, 116, 59]⟩) := HE.out 34
          have cT : wr.cell? ⟨t, 34, none⟩ = some (.slice (some ⟨g, 0, none⟩) 6 gcap) := by
            have e : cur[34]? = some (.slice (some ⟨g, 0, none⟩) 6 gcap) := e1
            simp [World.cell?, htw, e]
          clear e1 e2 htw
          have e34 : ∀ h, ((⟨#[34]⟩ : ByteArray)[0]'h) = 34 := fun _ => rfl
          have hN1 : replTable.take (4 - 3) = replTable.take (4 - 4) ++ [(34, ⟨#[38, 113, 117, 111, 116, 59]⟩)] := rfl
          have hN2 : sizeN (replTable.take (4 - 3)) s.data.toList = sizeN (replTable.take (4 - 4)) s.data.toList + s.data.toList.count 34 * 5 := by rw [hN1]; exact sizeN_step (replTable.take (4 - 4)) 34 ⟨#[38, 113, 117, 111, 116, 59]⟩ s.data.toList
          have hb2 : anyN (replTable.take (4 - 3)) s.data.toList = (anyN (replTable.take (4 - 4)) s.data.toList || s.data.toList.count 34 != 0) := by rw [hN1]; exact anyN_step (replTable.take (4 - 4)) 34 ⟨#[38, 113, 117, 111, 116, 59]⟩ s.data.toList
          clear hN1
          have hle := sizeN_le (4 - 4) s.data.toList
          have hcl : s.data.toList.count 34 ≤ s.data.toList.length := List.count_le_length
          rw [Array.length_toList] at hle hcl
          change _ ≤ 100 * s.size at hle
          change _ ≤ s.size at hcl
          have hcw := count_walk s 34
          generalize sizeN (replTable.take (4 - 4)) s.data.toList = N at *
          generalize anyN (replTable.take (4 - 4)) s.data.toList = b at *
          generalize s.data.toList.count 34 = n at *
          have HF : Aside (sizeN (replTable.take (4 - 3)) s.data.toList = N + n * 5 ∧ anyN (replTable.take (4 - 3)) s.data.toList = (b || n != 0)) := ⟨hN2, hb2⟩
          clear hN2 hb2
          by_cases h0 : n = 0
          · subst h0
            go_wp2_with (go_at_call 218; refine (hcw _).mono ?_; rintro e w' ⟨rfl, rfl⟩)
            go_roundg 3
            case measure => omega
            case rel => exact ⟨HW.out, by omega, rfl, by rw [HF.out.1, Nat.zero_mul, Nat.add_zero], by rw [HF.out.2]; simp⟩
          · have hne : ((n : Int) != 0) = true := by simpa using h0
            go_wp2_with (go_at_call 218; refine (hcw _).mono ?_; rintro e w' ⟨rfl, rfl⟩)
            go_region
            go_wp2
            go_roundg 3
            case measure => omega
            case rel => exact ⟨HW.out.drew, by omega, rfl, by rw [HF.out.1]; rfl, by rw [HF.out.2]; simp [h0]⟩
        · obtain ⟨g, gcap, gc, fz, e1, e2, _, _, _, _, _, _⟩ : EntryAt B w t p cur[62]? (some ⟨#[38, 103, 116, 59]⟩) := HE.out 62
          have cT : wr.cell? ⟨t, 62, none⟩ = some (.slice (some ⟨g, 0, none⟩) 4 gcap) := by
            have e : cur[62]? = some (.slice (some ⟨g, 0, none⟩) 4 gcap) := e1
            simp [World.cell?, htw, e]
          clear e1 e2 htw
          have e62 : ∀ h, ((⟨#[62]⟩ : ByteArray)[0]'h) = 62 := fun _ => rfl
          have hN1 : replTable.take (4 - 2) = replTable.take (4 - 3) ++ [(62, ⟨#[38, 103, 116, 59]⟩)] := rfl
          have hN2 : sizeN (replTable.take (4 - 2)) s.data.toList = sizeN (replTable.take (4 - 3)) s.data.toList + s.data.toList.count 62 * 3 := by rw [hN1]; exact sizeN_step (replTable.take (4 - 3)) 62 ⟨#[38, 103, 116, 59]⟩ s.data.toList
          have hb2 : anyN (replTable.take (4 - 2)) s.data.toList = (anyN (replTable.take (4 - 3)) s.data.toList || s.data.toList.count 62 != 0) := by rw [hN1]; exact anyN_step (replTable.take (4 - 3)) 62 ⟨#[38, 103, 116, 59]⟩ s.data.toList
          clear hN1
          have hle := sizeN_le (4 - 3) s.data.toList
          have hcl : s.data.toList.count 62 ≤ s.data.toList.length := List.count_le_length
          rw [Array.length_toList] at hle hcl
          change _ ≤ 100 * s.size at hle
          change _ ≤ s.size at hcl
          have hcw := count_walk s 62
          generalize sizeN (replTable.take (4 - 3)) s.data.toList = N at *
          generalize anyN (replTable.take (4 - 3)) s.data.toList = b at *
          generalize s.data.toList.count 62 = n at *
          have HF : Aside (sizeN (replTable.take (4 - 2)) s.data.toList = N + n * 3 ∧ anyN (replTable.take (4 - 2)) s.data.toList = (b || n != 0)) := ⟨hN2, hb2⟩
          clear hN2 hb2
          by_cases h0 : n = 0
          · subst h0
            go_wp2_with (go_at_call 218; refine (hcw _).mono ?_; rintro e w' ⟨rfl, rfl⟩)
            go_roundg 2
            case measure => omega
            case rel => exact ⟨HW.out, by omega, rfl, by rw [HF.out.1, Nat.zero_mul, Nat.add_zero], by rw [HF.out.2]; simp⟩
          · have hne : ((n : Int) != 0) = true := by simpa using h0
            go_wp2_with (go_at_call 218; refine (hcw _).mono ?_; rintro e w' ⟨rfl, rfl⟩)
            go_region
            go_wp2
            go_roundg 2
            case measure => omega
            case rel => exact ⟨HW.out.drew, by omega, rfl, by rw [HF.out.1]; rfl, by rw [HF.out.2]; simp [h0]⟩
        · obtain ⟨g, gcap, gc, fz, e1, e2, _, _, _, _, _, _⟩ : EntryAt B w t p cur[60]? (some ⟨#[38, 108, 116, 59]⟩) := HE.out 60
          have cT : wr.cell? ⟨t, 60, none⟩ = some (.slice (some ⟨g, 0, none⟩) 4 gcap) := by
            have e : cur[60]? = some (.slice (some ⟨g, 0, none⟩) 4 gcap) := e1
            simp [World.cell?, htw, e]
          clear e1 e2 htw
          have e60 : ∀ h, ((⟨#[60]⟩ : ByteArray)[0]'h) = 60 := fun _ => rfl
          have hN1 : replTable.take (4 - 1) = replTable.take (4 - 2) ++ [(60, ⟨#[38, 108, 116, 59]⟩)] := rfl
          have hN2 : sizeN (replTable.take (4 - 1)) s.data.toList = sizeN (replTable.take (4 - 2)) s.data.toList + s.data.toList.count 60 * 3 := by rw [hN1]; exact sizeN_step (replTable.take (4 - 2)) 60 ⟨#[38, 108, 116, 59]⟩ s.data.toList
          have hb2 : anyN (replTable.take (4 - 1)) s.data.toList = (anyN (replTable.take (4 - 2)) s.data.toList || s.data.toList.count 60 != 0) := by rw [hN1]; exact anyN_step (replTable.take (4 - 2)) 60 ⟨#[38, 108, 116, 59]⟩ s.data.toList
          clear hN1
          have hle := sizeN_le (4 - 2) s.data.toList
          have hcl : s.data.toList.count 60 ≤ s.data.toList.length := List.count_le_length
          rw [Array.length_toList] at hle hcl
          change _ ≤ 100 * s.size at hle
          change _ ≤ s.size at hcl
          have hcw := count_walk s 60
          generalize sizeN (replTable.take (4 - 2)) s.data.toList = N at *
          generalize anyN (replTable.take (4 - 2)) s.data.toList = b at *
          generalize s.data.toList.count 60 = n at *
          have HF : Aside (sizeN (replTable.take (4 - 1)) s.data.toList = N + n * 3 ∧ anyN (replTable.take (4 - 1)) s.data.toList = (b || n != 0)) := ⟨hN2, hb2⟩
          clear hN2 hb2
          by_cases h0 : n = 0
          · subst h0
            go_wp2_with (go_at_call 218; refine (hcw _).mono ?_; rintro e w' ⟨rfl, rfl⟩)
            go_roundg 1
            case measure => omega
            case rel => exact ⟨HW.out, by omega, rfl, by rw [HF.out.1, Nat.zero_mul, Nat.add_zero], by rw [HF.out.2]; simp⟩
          · have hne : ((n : Int) != 0) = true := by simpa using h0
            go_wp2_with (go_at_call 218; refine (hcw _).mono ?_; rintro e w' ⟨rfl, rfl⟩)
            go_region
            go_wp2
            go_roundg 1
            case measure => omega
            case rel => exact ⟨HW.out.drew, by omega, rfl, by rw [HF.out.1]; rfl, by rw [HF.out.2]; simp [h0]⟩
        · obtain ⟨g, gcap, gc, fz, e1, e2, _, _, _, _, _, _⟩ : EntryAt B w t p cur[38]? (some ⟨#[38, 97, 109, 112, 59]⟩) := HE.out 38
          have cT : wr.cell? ⟨t, 38, none⟩ = some (.slice (some ⟨g, 0, none⟩) 5 gcap) := by
            have e : cur[38]? = some (.slice (some ⟨g, 0, none⟩) 5 gcap) := e1
            simp [World.cell?, htw, e]
          clear e1 e2 htw
          have e38 : ∀ h, ((⟨#[38]⟩ : ByteArray)[0]'h) = 38 := fun _ => rfl
          have hN1 : replTable.take (4 - 0) = replTable.take (4 - 1) ++ [(38, ⟨#[38, 97, 109, 112, 59]⟩)] := rfl
          have hN2 : sizeN (replTable.take (4 - 0)) s.data.toList = sizeN (replTable.take (4 - 1)) s.data.toList + s.data.toList.count 38 * 4 := by rw [hN1]; exact sizeN_step (replTable.take (4 - 1)) 38 ⟨#[38, 97, 109, 112, 59]⟩ s.data.toList
          have hb2 : anyN (replTable.take (4 - 0)) s.data.toList = (anyN (replTable.take (4 - 1)) s.data.toList || s.data.toList.count 38 != 0) := by rw [hN1]; exact anyN_step (replTable.take (4 - 1)) 38 ⟨#[38, 97, 109, 112, 59]⟩ s.data.toList
          clear hN1
          have hle := sizeN_le (4 - 1) s.data.toList
          have hcl : s.data.toList.count 38 ≤ s.data.toList.length := List.count_le_length
          rw [Array.length_toList] at hle hcl
          change _ ≤ 100 * s.size at hle
          change _ ≤ s.size at hcl
          have hcw := count_walk s 38
          generalize sizeN (replTable.take (4 - 1)) s.data.toList = N at *
          generalize anyN (replTable.take (4 - 1)) s.data.toList = b at *
          generalize s.data.toList.count 38 = n at *
          have HF : Aside (sizeN (replTable.take (4 - 0)) s.data.toList = N + n * 4 ∧ anyN (replTable.take (4 - 0)) s.data.toList = (b || n != 0)) := ⟨hN2, hb2⟩
          clear hN2 hb2
          by_cases h0 : n = 0
          · subst h0
            go_wp2_with (go_at_call 218; refine (hcw _).mono ?_; rintro e w' ⟨rfl, rfl⟩)
            go_roundg 0
            case measure => omega
            case rel => exact ⟨HW.out, by omega, rfl, by rw [HF.out.1, Nat.zero_mul, Nat.add_zero], by rw [HF.out.2]; simp⟩
          · have hne : ((n : Int) != 0) = true := by simpa using h0
            go_wp2_with (go_at_call 218; refine (hcw _).mono ?_; rintro e w' ⟨rfl, rfl⟩)
            go_region
            go_wp2
            go_roundg 0
            case measure => omega
            case rel => exact ⟨HW.out.drew, by omega, rfl, by rw [HF.out.1]; rfl, by rw [HF.out.2]; simp [h0]⟩
        · go_wp2
          go_meet
          exact ⟨by rw [← sizeN_all]; rfl, by rw [← anyN_all]; rfl, HW.out⟩
    · go_step
      go_wp2
      go_loopg [5, 6, 10] s.size (fun k x5 x6 x10 wr => SameMem w wr ∧ ∃ i : Nat, i + k = s.size ∧ x10 = .int .i64 (i : Int) ∧ x5 = .int .i64 (((escL (s.data.toList.take i)).length + k : Nat) : Int) ∧ x6 = .bool (chg (s.data.toList.take i)))
      case atStart => exact ⟨SameMem.refl w, 0, by omega, rfl, by simp [escL], rfl⟩
      case round =>
        obtain ⟨hw, i, hik, rfl, rfl, rfl⟩ := hrel
        have HW : Aside (SameMem w wr) := hw
        have htw : wr.heap[t]? = some (.cells cur 176 (0, 0)) := by rw [hw.1]; exact HT.out
        clear hw
        cases gk with
        | zero =>
          obtain rfl : i = s.size := by omega
          have hnl : ¬ ((s.size : Int) < (s.size : Int)) := by omega
          have hall : s.data.toList.take s.size = s.data.toList := List.take_of_length_le (Nat.le_of_eq Array.length_toList)
          rw [hall]
          go_wp2
          go_meet
          exact ⟨by simp, rfl, HW.out⟩
        | succ k =>
          have hlt : i < s.size := by omega
          obtain ⟨c, hcc⟩ : ∃ c, c = s[i]'hlt := ⟨_, rfl⟩
          have htk : s.data.toList.take (i + 1) = s.data.toList.take i ++ [c] := by
            rw [List.take_succ, hcc]
            simp [ByteArray.getElem_eq_getElem_data, hlt]
          have hE : (escL (s.data.toList.take (i + 1))).length = (escL (s.data.toList.take i)).length + (escB c).length := by rw [htk]; exact escL_snoc _ _
          have hC : chg (s.data.toList.take (i + 1)) = (chg (s.data.toList.take i) || (replTable.lookup c).isSome) := by rw [htk]; exact chg_snoc _ _
          have hle := (escL_len (s.data.toList.take i)).2
          rw [List.length_take] at hle
          have hEn := HE.out c
          have hs0 : (escB c).length = match replTable.lookup c with | none => 1 | some v => v.size := by
            rw [escB]
            cases replTable.lookup c <;> rfl
          have hcl := (escB_len c).1
          generalize (escL (s.data.toList.take i)).length = N at *
          generalize chg (s.data.toList.take i) = b at *
          have hcE : ∀ h, s[i]'h = c := fun _ => hcc.symm
          have hnn : ∀ (ao : Addr) (n cp : Nat) (w : World), (binOp .neq 38 (.slice (some ao) n cp) (.slice none 0 0)).run Tryz.prog w = .ok (.bool true) w := fun _ _ _ _ => by kernel_rfl
          have hnz : ∀ (w : World), (binOp .neq 38 (.slice none 0 0) (.slice none 0 0)).run Tryz.prog w = .ok (.bool false) w := fun _ => by kernel_rfl
          have hc256 : c.toNat < 256 := c.toNat_lt
          cases hq : replTable.lookup c with
          | none =>
            rw [hq] at hEn hs0 hC
            have cT : wr.cell? ⟨t, c.toNat, none⟩ = some (.slice none 0 0) := by
              have e : cur[c.toNat]? = some (.slice none 0 0) := hEn
              simp [World.cell?, htw, e]
            have HF : Aside ((escL (s.data.toList.take (i + 1))).length = N + 1 ∧ chg (s.data.toList.take (i + 1)) = b) := ⟨by rw [hE, hs0], by rw [hC]; simp⟩
            clear hE hC hEn hs0 htw htk hcc hq hcl
            go_wp2
            go_roundg k
            case measure => omega
            case rel => exact ⟨HW.out, i + 1, by omega, by push_cast; rfl, by rw [HF.out.1]; congr 1; omega, by rw [HF.out.2]⟩
          | some v =>
            rw [hq] at hEn hs0 hC
            obtain ⟨g, gcap, gc, fz, e1, e2, _, _, _, _, _, _⟩ := hEn
            have cT : wr.cell? ⟨t, c.toNat, none⟩ = some (.slice (some ⟨g, 0, none⟩) v.size gcap) := by simp [World.cell?, htw, e1]
            have HF : Aside ((escL (s.data.toList.take (i + 1))).length = N + v.size ∧ chg (s.data.toList.take (i + 1)) = true) := ⟨by rw [hE, hs0], by rw [hC]; simp⟩
            have hv6 : 1 ≤ v.size ∧ v.size ≤ 6 := by have := escB_len c; rw [hs0] at this; exact this
            clear hE hC hs0 htw htk hcc hq hcl e1 e2
            go_wp2
            go_roundg k
            case measure => omega
            case rel => exact ⟨HW.out, i + 1, by omega, by push_cast; rfl, by rw [HF.out.1]; congr 1; omega, by rw [HF.out.2]⟩
  case rest =>
    obtain ⟨rfl, rfl, hwc⟩ := hcut
    have HW : Aside (SameMem w wc) := hwc
    clear hwc c256 p0 p1 p2 p3
    cases hch : chg s.data.toList with
    | false =>
      have hes : escS s = s := by
        unfold escS
        rw [escL_same hch]
      clear hch
      go_step
      go_wp2
      go_ret
      exact ⟨by rw [hes]; rfl, HW.out.below _⟩
    | true =>
      clear hch
      have hL := escL_len s.data.toList
      have hL2 : (escL s.data.toList).length ≤ 6 * s.size := by have := hL.2; rwa [Array.length_toList] at this
      have HX : Aside (∀ i, i ≤ s.size → (escL (s.data.toList.take i)).length ≤ (escL s.data.toList).length) := fun i _ => by
        conv => rhs; rw [← List.take_append_drop i s.data.toList, escL_append, List.length_append]
        omega
      clear hL
      have HS : Aside (escS s = ⟨(escL s.data.toList).toArray⟩) := rfl
      generalize hLL : escL s.data.toList = LL at *
      have HL : Aside (escL s.data.toList = LL) := hLL
      clear hLL
      have hmk : ∀ w, (Instr.makeSlice 38 (.int .i64 (LL.length : Int)) (.int .i64 (LL.length : Int))).run Tryz.prog w = .ok (.slice (some ⟨w.heap.size, 0, none⟩) LL.length LL.length) (w.alloc (.cells (madeCells #[.int .u8 0] LL.length) 5)) := fun w =>
        run_make_row' (P := Tryz.prog) 38 5 (.int .u8 0) 1 Tryz.underlying38 (by kernel_rfl) rfl .i64 .i64 LL.length (by omega) (by omega) w
      go_step
      go_wp2
      go_loopg [13, 14] s.size (fun k x13 x14 wr => ∃ (i : Nat) (row : Array Value), i + k = s.size ∧ x14 = .int .i64 (i : Int) ∧ x13 = .int .i64 ((escL (s.data.toList.take i)).length : Int) ∧ wr.heap[wc.heap.size]? = some (.cells row 5 (0, 0)) ∧ row.size = LL.length ∧
        row.toList.take (escL (s.data.toList.take i)).length = (escL (s.data.toList.take i)).map (fun x => Value.int .u8 (x.toNat : Int)) ∧ Below wc.heap.size wc wr)
      case atStart =>
        refine ⟨0, madeCells #[.int .u8 0] LL.length, by omega, rfl, rfl, heap_alloc_new _ _, size_madeCells _ _, rfl, (Below.refl _ wc).alloc (Nat.le_refl _) _⟩
      case round =>
        obtain ⟨i, row, hik, rfl, rfl, hb, hbs, hbt, hB2⟩ := hrel
        cases gk with
        | zero =>
          obtain rfl : i = s.size := by omega
          have hnl : ¬ ((s.size : Int) < (s.size : Int)) := by omega
          have hall : s.data.toList.take s.size = s.data.toList := List.take_of_length_le (Nat.le_of_eq Array.length_toList)
          rw [hall, HL.out] at hbt ⊢
          have hcv : (convert 38 9 (.slice (some ⟨wc.heap.size, 0, none⟩) LL.length LL.length)).run Tryz.prog wr = .ok (.string ⟨LL.toArray⟩) wr :=
            run_convert_bytes_back (P := Tryz.prog) wr 38 9 5 ⟨wc.heap.size, 0, none⟩ LL.length LL Tryz.underlying38 Tryz.underlying5 Tryz.underlying9 (fun j hj => by
              have : (row.toList.take LL.length)[j]? = some (.int .u8 (LL[j].toNat : Int)) := by rw [hbt]; simp [hj]
              rw [List.getElem?_take, if_pos hj] at this
              have h2 : row[j]? = some (.int .u8 (LL[j].toNat : Int)) := by simpa using this
              rw [add_off]
              simp [World.cell?, hb, h2])
          have HR : Aside (Below w.heap.size w wr) := (HW.out.below _).trans (hB2.mono (by rw [HW.out.heap]; exact Nat.le_refl _))
          clear hb hbt hB2
          go_wp2
          go_ret
          exact ⟨by rw [HS.out]; rfl, HR.out⟩
        | succ k =>
          have hlt : i < s.size := by omega
          obtain ⟨c, hcc⟩ : ∃ c, c = s[i]'hlt := ⟨_, rfl⟩
          have htk : s.data.toList.take (i + 1) = s.data.toList.take i ++ [c] := by
            rw [List.take_succ, hcc]
            simp [ByteArray.getElem_eq_getElem_data, hlt]
          have hE : escL (s.data.toList.take (i + 1)) = escL (s.data.toList.take i) ++ escB c := by
            rw [htk, escL_append]
            show _ ++ (escB c ++ []) = _
            rw [List.append_nil]
          have hX1 := HX.out (i + 1) hlt
          rw [hE, List.length_append] at hX1
          have hEn := HE.out c
          have htw : wr.heap[t]? = some (.cells cur 176 (0, 0)) := by
            have htc : wc.heap[t]? = some (.cells cur 176 (0, 0)) := by rw [HW.out.heap]; exact HT.out
            exact (hB2.block t (Array.getElem?_eq_some_iff.1 htc).1).trans htc
          have hcE : ∀ h, s[i]'h = c := fun _ => hcc.symm
          have hnn : ∀ (ao : Addr) (n cp : Nat) (w : World), (binOp .neq 38 (.slice (some ao) n cp) (.slice none 0 0)).run Tryz.prog w = .ok (.bool true) w := fun _ _ _ _ => by kernel_rfl
          have hnz : ∀ (w : World), (binOp .neq 38 (.slice none 0 0) (.slice none 0 0)).run Tryz.prog w = .ok (.bool false) w := fun _ => by kernel_rfl
          have hc256 : c.toNat < 256 := c.toNat_lt
          have hs0 := esc_cases c
          generalize hM : escL (s.data.toList.take i) = M at *
          have HM : Aside (escL (s.data.toList.take i) = M) := hM
          have HE2 : Aside (escL (s.data.toList.take (i + 1)) = M ++ escB c) := hE
          have HBt : Aside (wr.heap[wc.heap.size]? = some (.cells row 5 (0, 0)) ∧ row.size = LL.length ∧ row.toList.take M.length = M.map (fun x => Value.int .u8 (x.toNat : Int)) ∧ Below wc.heap.size wc wr) := ⟨hb, hbs, hbt, hB2⟩
          have fb : ∀ k, wr.frozen? ⟨wc.heap.size, k, none⟩ = false := fun k => by simp [World.frozen?, hb]
          obtain ⟨u, cM⟩ : ∃ u, wr.cell? ⟨wc.heap.size, M.length, none⟩ = some u := by
            have hlt2 : M.length < row.size := by have := (escB_len c).1; omega
            exact ⟨row[M.length], by simp [World.cell?, hb, hlt2]⟩
          cases hq : replTable.lookup c with
          | none =>
            rw [hq] at hEn hs0
            have cT : wr.cell? ⟨t, c.toNat, none⟩ = some (.slice none 0 0) := by
              have e : cur[c.toNat]? = some (.slice none 0 0) := hEn
              simp [World.cell?, htw, e]
            rw [hs0, List.length_singleton] at hX1
            have HF : Aside (escB c = [c]) := hs0
            have HLM : Aside (M.length < LL.length) := hX1
            clear hE hEn hs0 htw htk hcc hq hb hbs hbt hB2 hM
            go_wp2
            go_roundg k
            case measure => omega
            case rel =>
              obtain ⟨q1, q2, q3, q4⟩ := HBt.out
              refine ⟨i + 1, row.setIfInBounds M.length (.int .u8 (c.toNat : Int)), by omega, by push_cast; rfl, ?_, setC_heap q1, by simpa using q2, ?_, q4.setCell (Nat.le_refl _) _⟩
              · rw [HE2.out, HF.out, List.length_append, List.length_singleton]; push_cast; rfl
              · rw [HE2.out, HF.out, List.length_append, List.length_singleton, Array.toList_setIfInBounds, take_set_snoc _ _ _ (Nat.lt_of_lt_of_eq HLM.out (q2.symm.trans (Array.length_toList).symm)), q3]
                simp
          | some v =>
            rw [hq] at hEn hs0
            obtain ⟨g, gcap, gc, fz, e1, e2, e3, e4, e5, e6, e7, e8⟩ := hEn
            have cT : wr.cell? ⟨t, c.toNat, none⟩ = some (.slice (some ⟨g, 0, none⟩) v.size gcap) := by simp [World.cell?, htw, e1]
            have HF : Aside (escB c = v.data.toList) := hs0
            rw [hs0, Array.length_toList] at hX1
            change M.length + v.size ≤ _ at hX1
            have HLM : Aside (M.length + v.size ≤ LL.length) := hX1
            have hv6 : 1 ≤ v.size ∧ v.size ≤ 6 := by have := escB_len c; rw [hs0, Array.length_toList] at this; exact this
            clear hE hs0 htk hcc hq hM
            have hgw : ∀ (j : Nat) (u : Value), (Lib.strCells v)[j]? = some u → wr.drew.cell? ⟨g, j, none⟩ = some u := fun j u hu => by
              have hgc : wr.heap[g]? = some (.cells gc 5 fz) := by
                have h1 : wc.heap[g]? = some (.cells gc 5 fz) := by rw [HW.out.heap]; exact e2
                exact (hB2.block g (Array.getElem?_eq_some_iff.1 h1).1).trans h1
              rw [← e8, List.getElem?_take] at hu
              split at hu
              · have h2 : gc[j]? = some u := by simpa using hu
                show wr.cell? _ = _
                simp [World.cell?, hgc, h2]
              · cases hu
            have hlenS : (Lib.strCells v).length = v.size := by rw [← e8, List.length_take, Array.length_toList]; omega
            have hone : ∀ x ∈ Lib.strCells v, x.oneCell' = true := fun x hx => by
              simp only [Lib.strCells, List.mem_map] at hx
              obtain ⟨_, _, rfl⟩ := hx
              rfl
            have hcp := run_copy_row (P := Tryz.prog) wr.drew 38 38 3 5 wc.heap.size M.length (LL.length - M.length) (LL.length - M.length) ⟨g, 0, none⟩ v.size gcap row 5 (Lib.strCells v) Tryz.underlying38 (by kernel_rfl) hb (by rw [hlenS]; show v.size = min _ _; omega) (fun j u hu => by rw [add_off]; exact hgw j u hu) (by rw [hlenS, hbs]; exact hX1) hone
            rw [hlenS] at hcp
            obtain ⟨w2, hw2⟩ : ∃ w2, w2 = wr.drew.setRow wc.heap.size (row.toList.take M.length ++ Lib.strCells v ++ row.toList.drop (M.length + v.size)).toArray := ⟨_, rfl⟩
            rw [← hw2] at hcp
            have HW2 : Aside (w2 = wr.drew.setRow wc.heap.size (row.toList.take M.length ++ Lib.strCells v ++ row.toList.drop (M.length + v.size)).toArray ∧ (Lib.strCells v).length = v.size) := ⟨hw2, hlenS⟩
            have cTd : wr.drew.cell? ⟨t, c.toNat, none⟩ = some (.slice (some ⟨g, 0, none⟩) v.size gcap) := cT
            have hlM : (M.length : Int) ≤ (LL.length : Int) := by omega
            have hlMs : ((LL.length : Int) - (M.length : Int)).toNat = LL.length - M.length := by omega
            clear hw2 hgw hlenS hone e1 e2 e3 e4 e5 e6 e7 e8 hb hbs hbt hB2 htw
            go_wp2
            go_region_with (at_builtin; refine copy_op _ rfl _ _ 38 38 rfl (.slice (some ⟨wc.heap.size, M.length, none⟩) (LL.length - M.length) (LL.length - M.length)) (.slice (some ⟨g, 0, none⟩) v.size gcap) (by first | rfl | simp [hlMs]) rfl hcp ?_)
            go_wp2
            go_roundg k
            case measure => omega
            case rel =>
              obtain ⟨q1, q2, q3, q4⟩ := HBt.out
              obtain ⟨z1, z2⟩ := HW2.out
              have hv := HF.out
              have hEs : (escB c).map (fun x => Value.int .u8 (x.toNat : Int)) = Lib.strCells v := by rw [hv]; rfl
              have hlv : (escB c).length = v.size := by rw [hv, Array.length_toList]; rfl
              have hml : (row.toList.take M.length).length = M.length := by have hlm := HLM.out; rw [List.length_take, Array.length_toList (xs := row)]; omega
              refine ⟨i + 1, (row.toList.take M.length ++ Lib.strCells v ++ row.toList.drop (M.length + v.size)).toArray, by omega, by push_cast; rfl, ?_, ?_, ?_, ?_, ?_⟩
              · rw [HE2.out, List.length_append, hlv]; push_cast; rfl
              · rw [z1]; exact setRow_heap wr.drew wc.heap.size row _ 5 _ q1
              · rw [List.size_toArray, List.length_append, List.length_append, hml, z2, List.length_drop, Array.length_toList (xs := row)]; have hlm := HLM.out; omega
              · rw [HE2.out, List.length_append, hlv, List.map_append, hEs, ← q3]
                have : (row.toList.take M.length ++ Lib.strCells v).length = M.length + v.size := by rw [List.length_append, hml, z2]
                rw [← this]
                exact List.take_left
              · rw [z1]
                refine ⟨q4.os, q4.tape, q4.output, ?_, fun x hx => ?_⟩
                · rw [setRow_size]; exact q4.size
                · rw [setRow_other _ _ _ _ (by omega)]; exact q4.block x hx
end Go.Proofs.YtphlamnaaogmaaaGreatDoor.M
