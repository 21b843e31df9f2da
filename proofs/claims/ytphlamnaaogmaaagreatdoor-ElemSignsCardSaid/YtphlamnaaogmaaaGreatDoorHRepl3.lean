import Derived.Test.YtphlamnaaogmaaaGreatDoorHRepl2
namespace Go.Proofs.YtphlamnaaogmaaaGreatDoor.M
open Go.RowKit Go.Proofs.Qx
set_option linter.unusedVariables false
set_option linter.unusedSimpArgs false

theorem zeroCells_nil (c : Nat) (hc : c < 256) (v : Value) : (Tryz.zeroCells176.toList.set 256 v).toArray[c]? = some (.slice none 0 0) := by
  have h : Tryz.zeroCells176.toList.take 256 = List.replicate 256 (.slice none 0 0) := by kernel_rfl
  rw [List.getElem?_toArray, List.getElem?_set_ne (by omega)]
  have h2 : (Tryz.zeroCells176.toList.take 256)[c]? = some (.slice none 0 0) := by rw [h, List.getElem?_replicate, if_pos hc]
  rw [List.getElem?_take, if_pos hc] at h2
  exact h2

set_option maxHeartbeats 4000000 in
set_option maxRecDepth 100000 in
theorem build_walk (w : World) (r o cap : Nat) (hl : ListAt w o) (h4 : w.cell? ⟨r, 4, none⟩ = some (.slice (some ⟨o, 0, none⟩) 8 cap)) :
    Calls Tryz.prog 115 #[.pointer (some ⟨r, 0, none⟩)] w fun e w' => ∃ t, e = .returned (.iface 177 (.pointer (some ⟨t, 0, none⟩))) ∧ TabAt w.heap.size w' t replTable ∧ Below w.heap.size w w' := by
  have ho : o < w.heap.size := by obtain ⟨cur, e, h1, _⟩ := hl; exact (Array.getElem?_eq_some_iff.1 h1).1
  have HL : Aside (ListAt w o) := hl
  have c0 := hl.cell 0 _ rfl
  have c1 := hl.cell 1 _ rfl
  have c2 := hl.cell 2 _ rfl
  have c3 := hl.cell 3 _ rfl
  have c4 := hl.cell 4 _ rfl
  have c5 := hl.cell 5 _ rfl
  have c6 := hl.cell 6 _ rfl
  have c7 := hl.cell 7 _ rfl
  clear hl
  have hmk : ∀ w, (Instr.makeSlice 39 (.int .i64 0) (.int .i64 4)).run Tryz.prog w = .ok (.slice (some ⟨w.heap.size, 0, none⟩) 0 4) (w.alloc (.cells #[.string ⟨#[]⟩, .string ⟨#[]⟩, .string ⟨#[]⟩, .string ⟨#[]⟩] 9)) := fun w => by
    have h := run_make_room (P := Tryz.prog) 39 9 (.string ⟨#[]⟩) 16 Tryz.underlying39 (by kernel_rfl) rfl .i64 .i64 4 (by decide) (by decide) w
    rw [show madeCells #[Value.string ⟨#[]⟩] 4 = #[.string ⟨#[]⟩, .string ⟨#[]⟩, .string ⟨#[]⟩, .string ⟨#[]⟩] by kernel_rfl] at h
    exact h
  have hst := run_storeCells_new (P := Tryz.prog) (w.alloc (.cells #[.string ⟨#[]⟩, .string ⟨#[]⟩, .string ⟨#[]⟩, .string ⟨#[]⟩] 9)) 176 Tryz.zeroCells176 (Tryz.zeroCells176.toList.set 256 (.slice (some ⟨w.heap.size, 0, none⟩) 0 4)).toArray (by simp only [List.size_toArray, List.length_set]; kernel_rfl) (by simp) (by kernel_rfl)
  simp only [List.toList_toArray, World.size_alloc] at hst
  go_enter Tryz.func115, Tryz.ntmps115
  go_wp2
  go_rounds 5
  go_loopg [12] 4 (fun k i wr => k ≤ 4 ∧ i = .int .i64 (2 * (k : Int) - 2) ∧ TabAt w.heap.size wr (w.heap.size + 1) (replTable.take (4 - k)) ∧ Below w.heap.size w wr)
  case atStart =>
    refine ⟨Nat.le_refl _, rfl, ⟨(Tryz.zeroCells176.toList.set 256 (.slice (some ⟨w.heap.size, 0, none⟩) 0 4)).toArray, #[.string ⟨#[]⟩, .string ⟨#[]⟩, .string ⟨#[]⟩, .string ⟨#[]⟩], w.heap.size, ?_, ?_, ?_, ?_, rfl, by omega, by omega, by omega, rfl, ?_⟩, ?_⟩
    · have := heap_alloc_new (w.alloc (.cells #[.string ⟨#[]⟩, .string ⟨#[]⟩, .string ⟨#[]⟩, .string ⟨#[]⟩] 9)) (.cells (Tryz.zeroCells176.toList.set 256 (.slice (some ⟨w.heap.size, 0, none⟩) 0 4)).toArray 176)
      rw [World.size_alloc] at this
      exact this
    · simp only [List.size_toArray, List.length_set]; kernel_rfl
    · rw [List.getElem?_toArray, List.getElem?_set_self (by show 256 < _; exact (by kernel_rfl : (decide (256 < Tryz.zeroCells176.toList.length)) = true) |> of_decide_eq_true)]
      rfl
    · rw [Below.heap_alloc _ _ _ (by rw [World.size_alloc]; omega)]
      exact heap_alloc_new _ _
    · intro c
      exact zeroCells_nil _ (by have := c.toNat_lt; omega) _
    · exact ((Below.refl _ w).alloc (Nat.le_refl _) _).alloc (by rw [World.size_alloc]; omega) _
  case round =>
    obtain ⟨hk, rfl, ⟨cur, pc, p, ht, hcs, h256, hp, hps, hpt, hBt, hBp, htk, he⟩, hB⟩ := hrel
    have hLr : ListAt wr o := by
      obtain ⟨q, e, h1, h2⟩ := HL.out
      exact ⟨q, e, (hB.block o ho).trans h1, h2⟩
    obtain ⟨i0, hi, hz0, hz1⟩ : ∃ i0, Tryz.prog.info? 9 = some i0 ∧ i0.zero = some (.string ⟨#[]⟩) ∧ i0.size = 1 := ⟨((Tryz.prog.info? 9).getD default), by kernel_rfl, by kernel_rfl, by kernel_rfl⟩
    have hpl : p < wr.heap.size := (Array.getElem?_eq_some_iff.1 hp).1
    have htl : w.heap.size + 1 < wr.heap.size := (Array.getElem?_eq_some_iff.1 ht).1
    obtain rfl | rfl | rfl | rfl | rfl : gk = 4 ∨ gk = 3 ∨ gk = 2 ∨ gk = 1 ∨ gk = 0 := by omega
    · have cT : wr.cell? ⟨w.heap.size + 1, 34, none⟩ = some (.slice none 0 0) := by
        have := he 34
        have e : cur[34]? = some (.slice none 0 0) := this
        simp [World.cell?, ht, e]
      have cL : wr.cell? ⟨w.heap.size + 1, 256, none⟩ = some (.slice (some ⟨p, 0, none⟩) 0 4) := by
        have e : cur[256]? = some (.slice (some ⟨p, 0, none⟩) 0 4) := h256
        simp [World.cell?, ht, e]
      have cf : ∀ k, wr.frozen? ⟨w.heap.size + 1, k, none⟩ = false := fun k => by simp [World.frozen?, ht]
      have d6 := hLr.cell 6 _ rfl
      have d7 := hLr.cell 7 _ rfl
      have hrun := run_append_room (P := Tryz.prog) ((wr.alloc (.cells #[.int .u8 34] 5)).alloc (.cells #[.string ⟨#[34]⟩] 9)) 39 39 9 i0 Tryz.underlying39 hi p 0 4 pc (by rw [Below.heap_alloc _ _ _ (by rw [World.size_alloc]; omega), Below.heap_alloc _ _ _ hpl]; exact hp)
        ⟨wr.heap.size + 1, 0, none⟩ 1 1 [.string ⟨#[34]⟩] (by rw [hz1]; rfl) (fun j u hu => by
          cases j with
          | zero => cases hu; simp [Addr.add]
          | succ j => cases hu) (by intro u hu; simp at hu; subst hu; rfl) (by omega) (by rw [hps, hz1]; decide)
      rw [hz1] at hrun
      obtain ⟨w3, h3⟩ : ∃ w3, w3 = ((wr.alloc (.cells #[.int .u8 34] 5)).alloc (.cells #[.string ⟨#[34]⟩] 9)).setRow p (pc.toList.take 0 ++ [Value.string ⟨#[34]⟩] ++ pc.toList.drop 1).toArray := ⟨_, rfl⟩
      have hrun' : (Builtin.append_ #[39, 39] 39 #[.slice (some ⟨p, 0, none⟩) 0 4, .slice (some ⟨wr.heap.size + 1, 0, none⟩) 1 1]).run Tryz.prog ((wr.alloc (.cells #[.int .u8 34] 5)).alloc (.cells #[.string ⟨#[34]⟩] 9)) = .ok (.slice (some ⟨p, 0, none⟩) 1 4) w3 := by rw [h3]; exact hrun
      clear hrun
      have h3t : w3.heap[w.heap.size + 1]? = wr.heap[w.heap.size + 1]? := by
        rw [h3, setRow_other _ _ _ _ (by omega), Below.heap_alloc _ _ _ (by rw [World.size_alloc]; omega), Below.heap_alloc _ _ _ htl]
      have s3T : w3.cell? ⟨w.heap.size + 1, 256, none⟩ = some (.slice (some ⟨p, 0, none⟩) 0 4) := by rw [← cL]; exact World.cell?_of_block h3t
      have s3F : ∀ k, w3.frozen? ⟨w.heap.size + 1, k, none⟩ = false := fun k => by rw [← cf k]; exact World.frozen?_of_block h3t
      obtain ⟨w5, h5⟩ : ∃ w5, w5 = Lib.bytesWorld (w3.setCell ⟨w.heap.size + 1, 256, none⟩ (.slice (some ⟨p, 0, none⟩) 1 4)) 5 ⟨#[38, 113, 117, 111, 116, 59]⟩ := ⟨_, rfl⟩
      obtain ⟨cv, hcv⟩ : ∃ cv, cv = grownCap (w3.setCell ⟨w.heap.size + 1, 256, none⟩ (.slice (some ⟨p, 0, none⟩) 1 4)) 6 0 5 := ⟨_, rfl⟩
      have h5t : w5.heap[w.heap.size + 1]? = (w3.setCell ⟨w.heap.size + 1, 256, none⟩ (.slice (some ⟨p, 0, none⟩) 1 4)).heap[w.heap.size + 1]? := by
        rw [h5]; exact Lib.bytesWorld_at_old _ _ _ _ (by rw [setC_size, h3, setRow_size, World.size_alloc, World.size_alloc]; omega)
      have s5T : w5.cell? ⟨w.heap.size + 1, 34, none⟩ = some (.slice none 0 0) := by
        rw [← cT]
        refine (World.cell?_of_block h5t).trans ((World.cell?_setCell_other _ _ _ _ (by simp)).trans (World.cell?_of_block h3t))
      have s5F : ∀ k, w5.frozen? ⟨w.heap.size + 1, k, none⟩ = false := fun k => by
        refine (World.frozen?_of_block h5t).trans ?_
        simp [s3F]
      have hsb : (convert 9 38 (.string ⟨#[38, 113, 117, 111, 116, 59]⟩)).run Tryz.prog (w3.setCell ⟨w.heap.size + 1, 256, none⟩ (.slice (some ⟨p, 0, none⟩) 1 4)) = .ok (.slice (some ⟨w3.heap.size, 0, none⟩) 6 cv) w5 := by
        rw [h5, hcv]
        have := Lib.run_convert_string_bytes (P := Tryz.prog) (w3.setCell ⟨w.heap.size + 1, 256, none⟩ (.slice (some ⟨p, 0, none⟩) 1 4)) 9 38 5 ⟨#[38, 113, 117, 111, 116, 59]⟩ Tryz.underlying9 Tryz.underlying38 Tryz.underlying5
        rw [setC_size] at this
        exact this
      have fin := tabAt_round ht hcs hp hps hpt hBt hBp htk he 34 ⟨#[38, 113, 117, 111, 116, 59]⟩ rfl (by decide) hB.size (.cells #[.int .u8 34] 5) (.cells #[.string ⟨#[34]⟩] 9) h3 h5 hcv
      have HA : Aside (TabAt w.heap.size (w5.setCell ⟨w.heap.size + 1, 34, none⟩ (.slice (some ⟨w3.heap.size, 0, none⟩) 6 cv)) (w.heap.size + 1) (replTable.take (4 - 3)) ∧ Below w.heap.size wr (w5.setCell ⟨w.heap.size + 1, 34, none⟩ (.slice (some ⟨w3.heap.size, 0, none⟩) 6 cv))) := fin
      have HB : Aside (Below w.heap.size w wr) := hB
      have e34 : ∀ h, ((⟨#[34]⟩ : ByteArray)[0]'h).toNat = 34 := fun _ => rfl
      have hnn : ∀ w, (binOp .eql 38 (.slice none 0 0) (.slice none 0 0)).run Tryz.prog w = .ok (.bool true) w := fun w => by kernel_rfl
      have hcn : ∀ w : World, (convert 38 9 (.slice (some ⟨w.heap.size, 0, none⟩) 1 1)).run Tryz.prog (w.alloc (.cells #[.int .u8 34] 5)) = .ok (.string ⟨#[34]⟩) (w.alloc (.cells #[.int .u8 34] 5)) := fun w =>
        run_convert_bytes_back (P := Tryz.prog) _ 38 9 5 ⟨w.heap.size, 0, none⟩ 1 [34] Tryz.underlying38 Tryz.underlying5 Tryz.underlying9 (fun j hj => by
          obtain rfl : j = 0 := by simp at hj; omega
          simp [Addr.add])
      clear he htk h3 h5 hcv fin h5t h3t hB hp ht hcs h256 hi hz0 hz1 hLr hps
      go_wp2_with (at_builtin; refine Lib.wpList_append_run _ rfl _ _ 39 39 rfl (.slice (some ⟨p, 0, none⟩) 0 4) (.slice (some ⟨wr.heap.size + 1, 0, none⟩) 1 1) rfl rfl _ _ hrun' ?_)
      go_roundg 3
      case measure => omega
      case rel => exact ⟨by omega, rfl, HA.out.1, HB.out.trans HA.out.2⟩
    · have cT : wr.cell? ⟨w.heap.size + 1, 62, none⟩ = some (.slice none 0 0) := by
        have := he 62
        have e : cur[62]? = some (.slice none 0 0) := this
        simp [World.cell?, ht, e]
      have cL : wr.cell? ⟨w.heap.size + 1, 256, none⟩ = some (.slice (some ⟨p, 0, none⟩) 1 4) := by
        have e : cur[256]? = some (.slice (some ⟨p, 0, none⟩) 1 4) := h256
        simp [World.cell?, ht, e]
      have cf : ∀ k, wr.frozen? ⟨w.heap.size + 1, k, none⟩ = false := fun k => by simp [World.frozen?, ht]
      have d6 := hLr.cell 4 _ rfl
      have d7 := hLr.cell 5 _ rfl
      have hrun := run_append_room (P := Tryz.prog) ((wr.alloc (.cells #[.int .u8 62] 5)).alloc (.cells #[.string ⟨#[62]⟩] 9)) 39 39 9 i0 Tryz.underlying39 hi p 1 4 pc (by rw [Below.heap_alloc _ _ _ (by rw [World.size_alloc]; omega), Below.heap_alloc _ _ _ hpl]; exact hp)
        ⟨wr.heap.size + 1, 0, none⟩ 1 1 [.string ⟨#[62]⟩] (by rw [hz1]; rfl) (fun j u hu => by
          cases j with
          | zero => cases hu; simp [Addr.add]
          | succ j => cases hu) (by intro u hu; simp at hu; subst hu; rfl) (by omega) (by rw [hps, hz1]; decide)
      rw [hz1] at hrun
      obtain ⟨w3, h3⟩ : ∃ w3, w3 = ((wr.alloc (.cells #[.int .u8 62] 5)).alloc (.cells #[.string ⟨#[62]⟩] 9)).setRow p (pc.toList.take 1 ++ [Value.string ⟨#[62]⟩] ++ pc.toList.drop 2).toArray := ⟨_, rfl⟩
      have hrun' : (Builtin.append_ #[39, 39] 39 #[.slice (some ⟨p, 0, none⟩) 1 4, .slice (some ⟨wr.heap.size + 1, 0, none⟩) 1 1]).run Tryz.prog ((wr.alloc (.cells #[.int .u8 62] 5)).alloc (.cells #[.string ⟨#[62]⟩] 9)) = .ok (.slice (some ⟨p, 0, none⟩) 2 4) w3 := by rw [h3]; exact hrun
      clear hrun
      have h3t : w3.heap[w.heap.size + 1]? = wr.heap[w.heap.size + 1]? := by
        rw [h3, setRow_other _ _ _ _ (by omega), Below.heap_alloc _ _ _ (by rw [World.size_alloc]; omega), Below.heap_alloc _ _ _ htl]
      have s3T : w3.cell? ⟨w.heap.size + 1, 256, none⟩ = some (.slice (some ⟨p, 0, none⟩) 1 4) := by rw [← cL]; exact World.cell?_of_block h3t
      have s3F : ∀ k, w3.frozen? ⟨w.heap.size + 1, k, none⟩ = false := fun k => by rw [← cf k]; exact World.frozen?_of_block h3t
      obtain ⟨w5, h5⟩ : ∃ w5, w5 = Lib.bytesWorld (w3.setCell ⟨w.heap.size + 1, 256, none⟩ (.slice (some ⟨p, 0, none⟩) 2 4)) 5 ⟨#[38, 103, 116, 59]⟩ := ⟨_, rfl⟩
      obtain ⟨cv, hcv⟩ : ∃ cv, cv = grownCap (w3.setCell ⟨w.heap.size + 1, 256, none⟩ (.slice (some ⟨p, 0, none⟩) 2 4)) 4 0 5 := ⟨_, rfl⟩
      have h5t : w5.heap[w.heap.size + 1]? = (w3.setCell ⟨w.heap.size + 1, 256, none⟩ (.slice (some ⟨p, 0, none⟩) 2 4)).heap[w.heap.size + 1]? := by
        rw [h5]; exact Lib.bytesWorld_at_old _ _ _ _ (by rw [setC_size, h3, setRow_size, World.size_alloc, World.size_alloc]; omega)
      have s5T : w5.cell? ⟨w.heap.size + 1, 62, none⟩ = some (.slice none 0 0) := by
        rw [← cT]
        refine (World.cell?_of_block h5t).trans ((World.cell?_setCell_other _ _ _ _ (by simp)).trans (World.cell?_of_block h3t))
      have s5F : ∀ k, w5.frozen? ⟨w.heap.size + 1, k, none⟩ = false := fun k => by
        refine (World.frozen?_of_block h5t).trans ?_
        simp [s3F]
      have hsb : (convert 9 38 (.string ⟨#[38, 103, 116, 59]⟩)).run Tryz.prog (w3.setCell ⟨w.heap.size + 1, 256, none⟩ (.slice (some ⟨p, 0, none⟩) 2 4)) = .ok (.slice (some ⟨w3.heap.size, 0, none⟩) 4 cv) w5 := by
        rw [h5, hcv]
        have := Lib.run_convert_string_bytes (P := Tryz.prog) (w3.setCell ⟨w.heap.size + 1, 256, none⟩ (.slice (some ⟨p, 0, none⟩) 2 4)) 9 38 5 ⟨#[38, 103, 116, 59]⟩ Tryz.underlying9 Tryz.underlying38 Tryz.underlying5
        rw [setC_size] at this
        exact this
      have fin := tabAt_round ht hcs hp hps hpt hBt hBp htk he 62 ⟨#[38, 103, 116, 59]⟩ rfl (by decide) hB.size (.cells #[.int .u8 62] 5) (.cells #[.string ⟨#[62]⟩] 9) h3 h5 hcv
      have HA : Aside (TabAt w.heap.size (w5.setCell ⟨w.heap.size + 1, 62, none⟩ (.slice (some ⟨w3.heap.size, 0, none⟩) 4 cv)) (w.heap.size + 1) (replTable.take (4 - 2)) ∧ Below w.heap.size wr (w5.setCell ⟨w.heap.size + 1, 62, none⟩ (.slice (some ⟨w3.heap.size, 0, none⟩) 4 cv))) := fin
      have HB : Aside (Below w.heap.size w wr) := hB
      have e62 : ∀ h, ((⟨#[62]⟩ : ByteArray)[0]'h).toNat = 62 := fun _ => rfl
      have hnn : ∀ w, (binOp .eql 38 (.slice none 0 0) (.slice none 0 0)).run Tryz.prog w = .ok (.bool true) w := fun w => by kernel_rfl
      have hcn : ∀ w : World, (convert 38 9 (.slice (some ⟨w.heap.size, 0, none⟩) 1 1)).run Tryz.prog (w.alloc (.cells #[.int .u8 62] 5)) = .ok (.string ⟨#[62]⟩) (w.alloc (.cells #[.int .u8 62] 5)) := fun w =>
        run_convert_bytes_back (P := Tryz.prog) _ 38 9 5 ⟨w.heap.size, 0, none⟩ 1 [62] Tryz.underlying38 Tryz.underlying5 Tryz.underlying9 (fun j hj => by
          obtain rfl : j = 0 := by simp at hj; omega
          simp [Addr.add])
      clear he htk h3 h5 hcv fin h5t h3t hB hp ht hcs h256 hi hz0 hz1 hLr hps
      go_wp2_with (at_builtin; refine Lib.wpList_append_run _ rfl _ _ 39 39 rfl (.slice (some ⟨p, 0, none⟩) 1 4) (.slice (some ⟨wr.heap.size + 1, 0, none⟩) 1 1) rfl rfl _ _ hrun' ?_)
      go_roundg 2
      case measure => omega
      case rel => exact ⟨by omega, rfl, HA.out.1, HB.out.trans HA.out.2⟩
    · have cT : wr.cell? ⟨w.heap.size + 1, 60, none⟩ = some (.slice none 0 0) := by
        have := he 60
        have e : cur[60]? = some (.slice none 0 0) := this
        simp [World.cell?, ht, e]
      have cL : wr.cell? ⟨w.heap.size + 1, 256, none⟩ = some (.slice (some ⟨p, 0, none⟩) 2 4) := by
        have e : cur[256]? = some (.slice (some ⟨p, 0, none⟩) 2 4) := h256
        simp [World.cell?, ht, e]
      have cf : ∀ k, wr.frozen? ⟨w.heap.size + 1, k, none⟩ = false := fun k => by simp [World.frozen?, ht]
      have d6 := hLr.cell 2 _ rfl
      have d7 := hLr.cell 3 _ rfl
      have hrun := run_append_room (P := Tryz.prog) ((wr.alloc (.cells #[.int .u8 60] 5)).alloc (.cells #[.string ⟨#[60]⟩] 9)) 39 39 9 i0 Tryz.underlying39 hi p 2 4 pc (by rw [Below.heap_alloc _ _ _ (by rw [World.size_alloc]; omega), Below.heap_alloc _ _ _ hpl]; exact hp)
        ⟨wr.heap.size + 1, 0, none⟩ 1 1 [.string ⟨#[60]⟩] (by rw [hz1]; rfl) (fun j u hu => by
          cases j with
          | zero => cases hu; simp [Addr.add]
          | succ j => cases hu) (by intro u hu; simp at hu; subst hu; rfl) (by omega) (by rw [hps, hz1]; decide)
      rw [hz1] at hrun
      obtain ⟨w3, h3⟩ : ∃ w3, w3 = ((wr.alloc (.cells #[.int .u8 60] 5)).alloc (.cells #[.string ⟨#[60]⟩] 9)).setRow p (pc.toList.take 2 ++ [Value.string ⟨#[60]⟩] ++ pc.toList.drop 3).toArray := ⟨_, rfl⟩
      have hrun' : (Builtin.append_ #[39, 39] 39 #[.slice (some ⟨p, 0, none⟩) 2 4, .slice (some ⟨wr.heap.size + 1, 0, none⟩) 1 1]).run Tryz.prog ((wr.alloc (.cells #[.int .u8 60] 5)).alloc (.cells #[.string ⟨#[60]⟩] 9)) = .ok (.slice (some ⟨p, 0, none⟩) 3 4) w3 := by rw [h3]; exact hrun
      clear hrun
      have h3t : w3.heap[w.heap.size + 1]? = wr.heap[w.heap.size + 1]? := by
        rw [h3, setRow_other _ _ _ _ (by omega), Below.heap_alloc _ _ _ (by rw [World.size_alloc]; omega), Below.heap_alloc _ _ _ htl]
      have s3T : w3.cell? ⟨w.heap.size + 1, 256, none⟩ = some (.slice (some ⟨p, 0, none⟩) 2 4) := by rw [← cL]; exact World.cell?_of_block h3t
      have s3F : ∀ k, w3.frozen? ⟨w.heap.size + 1, k, none⟩ = false := fun k => by rw [← cf k]; exact World.frozen?_of_block h3t
      obtain ⟨w5, h5⟩ : ∃ w5, w5 = Lib.bytesWorld (w3.setCell ⟨w.heap.size + 1, 256, none⟩ (.slice (some ⟨p, 0, none⟩) 3 4)) 5 ⟨#[38, 108, 116, 59]⟩ := ⟨_, rfl⟩
      obtain ⟨cv, hcv⟩ : ∃ cv, cv = grownCap (w3.setCell ⟨w.heap.size + 1, 256, none⟩ (.slice (some ⟨p, 0, none⟩) 3 4)) 4 0 5 := ⟨_, rfl⟩
      have h5t : w5.heap[w.heap.size + 1]? = (w3.setCell ⟨w.heap.size + 1, 256, none⟩ (.slice (some ⟨p, 0, none⟩) 3 4)).heap[w.heap.size + 1]? := by
        rw [h5]; exact Lib.bytesWorld_at_old _ _ _ _ (by rw [setC_size, h3, setRow_size, World.size_alloc, World.size_alloc]; omega)
      have s5T : w5.cell? ⟨w.heap.size + 1, 60, none⟩ = some (.slice none 0 0) := by
        rw [← cT]
        refine (World.cell?_of_block h5t).trans ((World.cell?_setCell_other _ _ _ _ (by simp)).trans (World.cell?_of_block h3t))
      have s5F : ∀ k, w5.frozen? ⟨w.heap.size + 1, k, none⟩ = false := fun k => by
        refine (World.frozen?_of_block h5t).trans ?_
        simp [s3F]
      have hsb : (convert 9 38 (.string ⟨#[38, 108, 116, 59]⟩)).run Tryz.prog (w3.setCell ⟨w.heap.size + 1, 256, none⟩ (.slice (some ⟨p, 0, none⟩) 3 4)) = .ok (.slice (some ⟨w3.heap.size, 0, none⟩) 4 cv) w5 := by
        rw [h5, hcv]
        have := Lib.run_convert_string_bytes (P := Tryz.prog) (w3.setCell ⟨w.heap.size + 1, 256, none⟩ (.slice (some ⟨p, 0, none⟩) 3 4)) 9 38 5 ⟨#[38, 108, 116, 59]⟩ Tryz.underlying9 Tryz.underlying38 Tryz.underlying5
        rw [setC_size] at this
        exact this
      have fin := tabAt_round ht hcs hp hps hpt hBt hBp htk he 60 ⟨#[38, 108, 116, 59]⟩ rfl (by decide) hB.size (.cells #[.int .u8 60] 5) (.cells #[.string ⟨#[60]⟩] 9) h3 h5 hcv
      have HA : Aside (TabAt w.heap.size (w5.setCell ⟨w.heap.size + 1, 60, none⟩ (.slice (some ⟨w3.heap.size, 0, none⟩) 4 cv)) (w.heap.size + 1) (replTable.take (4 - 1)) ∧ Below w.heap.size wr (w5.setCell ⟨w.heap.size + 1, 60, none⟩ (.slice (some ⟨w3.heap.size, 0, none⟩) 4 cv))) := fin
      have HB : Aside (Below w.heap.size w wr) := hB
      have e60 : ∀ h, ((⟨#[60]⟩ : ByteArray)[0]'h).toNat = 60 := fun _ => rfl
      have hnn : ∀ w, (binOp .eql 38 (.slice none 0 0) (.slice none 0 0)).run Tryz.prog w = .ok (.bool true) w := fun w => by kernel_rfl
      have hcn : ∀ w : World, (convert 38 9 (.slice (some ⟨w.heap.size, 0, none⟩) 1 1)).run Tryz.prog (w.alloc (.cells #[.int .u8 60] 5)) = .ok (.string ⟨#[60]⟩) (w.alloc (.cells #[.int .u8 60] 5)) := fun w =>
        run_convert_bytes_back (P := Tryz.prog) _ 38 9 5 ⟨w.heap.size, 0, none⟩ 1 [60] Tryz.underlying38 Tryz.underlying5 Tryz.underlying9 (fun j hj => by
          obtain rfl : j = 0 := by simp at hj; omega
          simp [Addr.add])
      clear he htk h3 h5 hcv fin h5t h3t hB hp ht hcs h256 hi hz0 hz1 hLr hps
      go_wp2_with (at_builtin; refine Lib.wpList_append_run _ rfl _ _ 39 39 rfl (.slice (some ⟨p, 0, none⟩) 2 4) (.slice (some ⟨wr.heap.size + 1, 0, none⟩) 1 1) rfl rfl _ _ hrun' ?_)
      go_roundg 1
      case measure => omega
      case rel => exact ⟨by omega, rfl, HA.out.1, HB.out.trans HA.out.2⟩
    · have cT : wr.cell? ⟨w.heap.size + 1, 38, none⟩ = some (.slice none 0 0) := by
        have := he 38
        have e : cur[38]? = some (.slice none 0 0) := this
        simp [World.cell?, ht, e]
      have cL : wr.cell? ⟨w.heap.size + 1, 256, none⟩ = some (.slice (some ⟨p, 0, none⟩) 3 4) := by
        have e : cur[256]? = some (.slice (some ⟨p, 0, none⟩) 3 4) := h256
        simp [World.cell?, ht, e]
      have cf : ∀ k, wr.frozen? ⟨w.heap.size + 1, k, none⟩ = false := fun k => by simp [World.frozen?, ht]
      have d6 := hLr.cell 0 _ rfl
      have d7 := hLr.cell 1 _ rfl
      have hrun := run_append_room (P := Tryz.prog) ((wr.alloc (.cells #[.int .u8 38] 5)).alloc (.cells #[.string ⟨#[38]⟩] 9)) 39 39 9 i0 Tryz.underlying39 hi p 3 4 pc (by rw [Below.heap_alloc _ _ _ (by rw [World.size_alloc]; omega), Below.heap_alloc _ _ _ hpl]; exact hp)
        ⟨wr.heap.size + 1, 0, none⟩ 1 1 [.string ⟨#[38]⟩] (by rw [hz1]; rfl) (fun j u hu => by
          cases j with
          | zero => cases hu; simp [Addr.add]
          | succ j => cases hu) (by intro u hu; simp at hu; subst hu; rfl) (by omega) (by rw [hps, hz1]; decide)
      rw [hz1] at hrun
      obtain ⟨w3, h3⟩ : ∃ w3, w3 = ((wr.alloc (.cells #[.int .u8 38] 5)).alloc (.cells #[.string ⟨#[38]⟩] 9)).setRow p (pc.toList.take 3 ++ [Value.string ⟨#[38]⟩] ++ pc.toList.drop 4).toArray := ⟨_, rfl⟩
      have hrun' : (Builtin.append_ #[39, 39] 39 #[.slice (some ⟨p, 0, none⟩) 3 4, .slice (some ⟨wr.heap.size + 1, 0, none⟩) 1 1]).run Tryz.prog ((wr.alloc (.cells #[.int .u8 38] 5)).alloc (.cells #[.string ⟨#[38]⟩] 9)) = .ok (.slice (some ⟨p, 0, none⟩) 4 4) w3 := by rw [h3]; exact hrun
      clear hrun
      have h3t : w3.heap[w.heap.size + 1]? = wr.heap[w.heap.size + 1]? := by
        rw [h3, setRow_other _ _ _ _ (by omega), Below.heap_alloc _ _ _ (by rw [World.size_alloc]; omega), Below.heap_alloc _ _ _ htl]
      have s3T : w3.cell? ⟨w.heap.size + 1, 256, none⟩ = some (.slice (some ⟨p, 0, none⟩) 3 4) := by rw [← cL]; exact World.cell?_of_block h3t
      have s3F : ∀ k, w3.frozen? ⟨w.heap.size + 1, k, none⟩ = false := fun k => by rw [← cf k]; exact World.frozen?_of_block h3t
      obtain ⟨w5, h5⟩ : ∃ w5, w5 = Lib.bytesWorld (w3.setCell ⟨w.heap.size + 1, 256, none⟩ (.slice (some ⟨p, 0, none⟩) 4 4)) 5 ⟨#[38, 97, 109, 112, 59]⟩ := ⟨_, rfl⟩
      obtain ⟨cv, hcv⟩ : ∃ cv, cv = grownCap (w3.setCell ⟨w.heap.size + 1, 256, none⟩ (.slice (some ⟨p, 0, none⟩) 4 4)) 5 0 5 := ⟨_, rfl⟩
      have h5t : w5.heap[w.heap.size + 1]? = (w3.setCell ⟨w.heap.size + 1, 256, none⟩ (.slice (some ⟨p, 0, none⟩) 4 4)).heap[w.heap.size + 1]? := by
        rw [h5]; exact Lib.bytesWorld_at_old _ _ _ _ (by rw [setC_size, h3, setRow_size, World.size_alloc, World.size_alloc]; omega)
      have s5T : w5.cell? ⟨w.heap.size + 1, 38, none⟩ = some (.slice none 0 0) := by
        rw [← cT]
        refine (World.cell?_of_block h5t).trans ((World.cell?_setCell_other _ _ _ _ (by simp)).trans (World.cell?_of_block h3t))
      have s5F : ∀ k, w5.frozen? ⟨w.heap.size + 1, k, none⟩ = false := fun k => by
        refine (World.frozen?_of_block h5t).trans ?_
        simp [s3F]
      have hsb : (convert 9 38 (.string ⟨#[38, 97, 109, 112, 59]⟩)).run Tryz.prog (w3.setCell ⟨w.heap.size + 1, 256, none⟩ (.slice (some ⟨p, 0, none⟩) 4 4)) = .ok (.slice (some ⟨w3.heap.size, 0, none⟩) 5 cv) w5 := by
        rw [h5, hcv]
        have := Lib.run_convert_string_bytes (P := Tryz.prog) (w3.setCell ⟨w.heap.size + 1, 256, none⟩ (.slice (some ⟨p, 0, none⟩) 4 4)) 9 38 5 ⟨#[38, 97, 109, 112, 59]⟩ Tryz.underlying9 Tryz.underlying38 Tryz.underlying5
        rw [setC_size] at this
        exact this
      have fin := tabAt_round ht hcs hp hps hpt hBt hBp htk he 38 ⟨#[38, 97, 109, 112, 59]⟩ rfl (by decide) hB.size (.cells #[.int .u8 38] 5) (.cells #[.string ⟨#[38]⟩] 9) h3 h5 hcv
      have HA : Aside (TabAt w.heap.size (w5.setCell ⟨w.heap.size + 1, 38, none⟩ (.slice (some ⟨w3.heap.size, 0, none⟩) 5 cv)) (w.heap.size + 1) (replTable.take (4 - 0)) ∧ Below w.heap.size wr (w5.setCell ⟨w.heap.size + 1, 38, none⟩ (.slice (some ⟨w3.heap.size, 0, none⟩) 5 cv))) := fin
      have HB : Aside (Below w.heap.size w wr) := hB
      have e38 : ∀ h, ((⟨#[38]⟩ : ByteArray)[0]'h).toNat = 38 := fun _ => rfl
      have hnn : ∀ w, (binOp .eql 38 (.slice none 0 0) (.slice none 0 0)).run Tryz.prog w = .ok (.bool true) w := fun w => by kernel_rfl
      have hcn : ∀ w : World, (convert 38 9 (.slice (some ⟨w.heap.size, 0, none⟩) 1 1)).run Tryz.prog (w.alloc (.cells #[.int .u8 38] 5)) = .ok (.string ⟨#[38]⟩) (w.alloc (.cells #[.int .u8 38] 5)) := fun w =>
        run_convert_bytes_back (P := Tryz.prog) _ 38 9 5 ⟨w.heap.size, 0, none⟩ 1 [38] Tryz.underlying38 Tryz.underlying5 Tryz.underlying9 (fun j hj => by
          obtain rfl : j = 0 := by simp at hj; omega
          simp [Addr.add])
      clear he htk h3 h5 hcv fin h5t h3t hB hp ht hcs h256 hi hz0 hz1 hLr hps
      go_wp2_with (at_builtin; refine Lib.wpList_append_run _ rfl _ _ 39 39 rfl (.slice (some ⟨p, 0, none⟩) 3 4) (.slice (some ⟨wr.heap.size + 1, 0, none⟩) 1 1) rfl rfl _ _ hrun' ?_)
      go_roundg 0
      case measure => omega
      case rel => exact ⟨by omega, rfl, HA.out.1, HB.out.trans HA.out.2⟩
    · go_wp2
      go_ret
      exact ⟨w.heap.size + 1, rfl, ⟨cur, pc, p, ht, hcs, h256, hp, hps, hpt, hBt, hBp, htk, he⟩, hB⟩
end Go.Proofs.YtphlamnaaogmaaaGreatDoor.M
