/- pitch.Read, in the print's form: what the text's first sign, its signs between and its end tell, if that is its own text. -/
import Derived.Lib.Hide
import Derived.Lib.OthersKept
import Derived.Laws.RangeAny
import Derived.LoopTactic
import Derived.Test.YtnpinngdiipogaaDoorGShelf
import Derived.Test.YtnpinngdiipogaaDoorM5
set_option linter.unusedSimpArgs false
set_option linter.unusedVariables false
namespace Go.Proofs.YtnpinngdiipogaaDoor.M
open Go.RowKit Go.Shelf Go.Proofs.YtnpinngdiipogaaDoorW.PrintWords Go.Proofs.YtnpinngdiipogaaDoorW.PrintLast Go.Proofs.YtnpinngdiipogaaDoorW.PrintMore

def lettersB : ByteArray := ⟨#[67, 68, 69, 70, 71, 65, 66]⟩
/-- the step that the first n letters give to the byte c -/
def stepUpto (c : Nat) : Nat → Int
  | 0 => -1
  | n + 1 => if c = (lettersB.get! n).toNat then (n : Int) else stepUpto c n
/-- the alteration that the signs of u give, from place pos on -/
def alters (u : ByteArray) : Nat → Nat → Int → Int
  | 0, _, acc => acc
  | b + 1, pos, acc => if pos < u.size then alters u b (pos + (Utf8.decode u pos).2) (if (Utf8.decode u pos).1 = 35 then wrap64 (acc + 1) else if (Utf8.decode u pos).1 = 98 then wrap64 (acc - 1) else acc) else acc
def readOct (s : ByteArray) : Int := if Lib.hasSuffix s.data.toList [45, 49] = true then -1 else wrap64 (((s.get! (s.size - 1)).toNat : Int) - 48)
def readAlt (s : ByteArray) : Int := alters (s.extract 1 s.size) s.size 0 0
def pitch_Read.f (s : ByteArray) : Option (Int × Int × Int × Int) :=
  if s.size = 0 then some (0, 0, 0, 21) else if s.size ≤ 9223372036854775807 then
    (pitch_Text.f (stepUpto (s.get! 0).toNat 7) (readAlt s) (readOct s)).bind fun t => some (if t.2 = 0 ∧ t.1 = s then (stepUpto (s.get! 0).toNat 7, readAlt s, readOct s, 0) else (0, 0, 0, 21))
  else none

theorem letters_decode : ∀ pos : Fin 7, Utf8.decode lettersB pos.val = ((lettersB.get! pos.val).toNat, 1) := by decide +kernel
theorem width_pos (s : ByteArray) (pos : Nat) (h : pos < s.size) : 1 ≤ (Utf8.decode s pos).2 := by
  by_cases ha : (s[pos]'h).toNat < 128
  · rw [decode_ascii s pos h ha]
    exact Nat.le_refl _
  · exact (decode_high s pos h (by omega)).2
theorem size_of_nil {s : ByteArray} (e : s.toList = []) : s.size = 0 := by
  rw [ByteArray.toList_eq] at e
  obtain ⟨⟨l⟩⟩ := s
  obtain rfl : l = [] := e
  rfl
theorem same_bytes {a b : ByteArray} (h : a.toList = b.toList) : a = b := by
  rw [ByteArray.toList_eq, ByteArray.toList_eq] at h
  obtain ⟨⟨x⟩⟩ := a
  obtain ⟨⟨y⟩⟩ := b
  obtain rfl : x = y := h
  rfl

set_option maxRecDepth 100000 in
set_option maxHeartbeats 8000000 in
theorem pitch_Read.calls (a0 : ByteArray) (r1 r2 r3 r4 : Int) (w : World) (hG_ : GW w) (h : pitch_Read.f a0 = some (r1, r2, r3, r4)) : Calls Tryd.prog 29 #[.string a0] w fun e w' => e = .returned (.tuple #[.agg #[.int .i64 r1, .int .i64 r2, .int .i64 r3], .int .i64 r4]) ∧ Below w.heap.size w w' := by
  have HG := Lib.hid hG_
  clear hG_
  unfold pitch_Read.f at h
  have hB2 : Below w.heap.size w (w.alloc (.cells #[.int .i64 0, .int .i64 0, .int .i64 0] 23)) := (Below.refl _ w).alloc (Nat.le_refl _) _
  have b2 := blk_new w (.cells #[.int .i64 0, .int .i64 0, .int .i64 0] 23)
  by_cases h0 : a0.size = 0
  · rw [if_pos h0] at h
    simp only [Option.some.injEq, Prod.mk.injEq] at h
    obtain ⟨rfl, rfl, rfl, rfl⟩ := h
    have hE : a0.toList.isEmpty = true := by
      rw [ByteArray.toList_eq]
      obtain ⟨⟨l⟩⟩ := a0
      have : l = [] := List.eq_nil_of_length_eq_zero (by simpa [ByteArray.size] using h0)
      subst this
      rfl
    have c0 := (blk_cell b2 0).trans rfl
    have c1 := (blk_cell b2 1).trans rfl
    have c2 := (blk_cell b2 2).trans rfl
    have f0 := blk_frozen b2 0
    have f1 := blk_frozen b2 1
    have f2 := blk_frozen b2 2
    have H8 := Lib.hid (And.intro b2 hB2)
    clear b2 hB2
    go_enter Tryd.func29, Tryd.ntmps29
    go_wp2
    refine bodyPost_ret (results_ct rfl _ _ w.heap.size 23 #[.int .i64 0, .int .i64 0, .int .i64 0] (0, 0) _ rfl H8.out.1 Tryd.underlying23 rfl (by kernel_rfl)) rfl ?_
    exact ⟨rfl, H8.out.2⟩
  · rw [if_neg h0] at h
    by_cases hs : a0.size ≤ 9223372036854775807
    · rw [if_pos hs] at h
      have hE : a0.toList.isEmpty = false := by
        rw [List.isEmpty_eq_false_iff]
        intro e
        apply h0
        have e2 := size_of_nil e
        exact e2
      have hw : wrap64 ((a0.size : Int) - 1) = ((a0.size - 1 : Nat) : Int) := by unfold wrap64; omega
      have hlt : ((a0.size - 1 : Nat) : Int) < (a0.size : Int) := by omega
      have hlt2 : a0.size - 1 < a0.size := by omega
      have hH := Lib.hid h
      have HB := Lib.hid (And.intro hB2 b2)
      clear hB2 b2 h
      have hx : wrap64 ((a0[a0.size - 1]'hlt2).toNat : Int) = ((a0[a0.size - 1]'hlt2).toNat : Int) := by
        have := (a0[a0.size - 1]'hlt2).toNat_lt
        unfold wrap64; omega
      have ho : readOct a0 = if Lib.hasSuffix a0.data.toList [45, 49] = true then -1 else wrap64 (((a0[a0.size - 1]'hlt2).toNat : Int) - 48) := by
        unfold readOct
        rw [show a0.get! (a0.size - 1) = a0[a0.size - 1]'hlt2 from get_at a0 _ hlt2]
      have HO := Lib.hid ho
      clear ho
      have b2 : ((w.alloc (.cells #[.int .i64 0, .int .i64 0, .int .i64 0] 23)).alloc (.cells #[.int .i64 (-1), .int .i64 0, .int .i64 (wrap64 (((a0[a0.size - 1]'hlt2).toNat : Int) - 48))] 23)).heap[w.heap.size]? = some (.cells #[.int .i64 0, .int .i64 0, .int .i64 0] 23 (0, 0)) := blk_alloc (blk_new _ _) _
      have bp : ((w.alloc (.cells #[.int .i64 0, .int .i64 0, .int .i64 0] 23)).alloc (.cells #[.int .i64 (-1), .int .i64 0, .int .i64 (wrap64 (((a0[a0.size - 1]'hlt2).toNat : Int) - 48))] 23)).heap[w.heap.size + 1]? = some (.cells #[.int .i64 (-1), .int .i64 0, .int .i64 (wrap64 (((a0[a0.size - 1]'hlt2).toNat : Int) - 48))] 23 (0, 0)) := by
        have h1 := blk_new (w.alloc (.cells #[.int .i64 0, .int .i64 0, .int .i64 0] 23)) (.cells #[.int .i64 (-1), .int .i64 0, .int .i64 (wrap64 (((a0[a0.size - 1]'hlt2).toNat : Int) - 48))] 23)
        rwa [World.size_alloc] at h1
      have hBa : Below w.heap.size w ((w.alloc (.cells #[.int .i64 0, .int .i64 0, .int .i64 0] 23)).alloc (.cells #[.int .i64 (-1), .int .i64 0, .int .i64 (wrap64 (((a0[a0.size - 1]'hlt2).toNat : Int) - 48))] 23)) := ((Below.refl _ w).alloc (Nat.le_refl _) _).alloc (by simp) _
      have HBL := Lib.hid (And.intro b2 (And.intro bp hBa))
      clear b2 bp hBa
      obtain ⟨b, hb⟩ : ∃ b, Lib.hasSuffix a0.data.toList [45, 49] = b := ⟨_, rfl⟩
      have HSF := Lib.hid hb
      have HHS := Lib.hid (Tryd.strings_HasSuffix a0 ⟨#[45, 49]⟩)
      go_enter Tryd.func29, Tryd.ntmps29
      go_upto_region 6 with (first | (go_at_call 35; refine (strconv_Itoa.calls (-1) ⟨#[45, 49]⟩ _ (GW.step HG.out HBL.out.2.2) rfl).mono ?_; rintro e w1 ⟨rfl, hb1⟩; have b21 := blk_below HBL.out.1 hb1; have bp1 := blk_below HBL.out.2.1 hb1; have hB1 := HBL.out.2.2.trans (hb1.mono (by have := HBL.out.2.2.size; omega)); have cp2 := (blk_cell bp1 2).trans rfl; have fp2 := blk_frozen bp1 2; clear hb1) | (go_at_call 38; refine (HHS.out _ hs).mono ?_; rintro e w2 ⟨rfl, rfl⟩; rw [HSF.out]; clear hb; cases b))
      rotate_left
      · have ho : readOct a0 = -1 := HO.out.trans (by rw [HSF.out]; rfl)
        have hP : (w2.setCell ⟨w.heap.size + 1, 2, none⟩ (.int .i64 (-1))).heap[w.heap.size + 1]? = some (.cells #[.int .i64 (-1), .int .i64 0, .int .i64 (readOct a0)] 23 (0, 0)) := by rw [ho]; exact blk_put bp1 2 (.int .i64 (-1)) rfl
        have h2 := blk_far b21 (p := ⟨w.heap.size + 1, 2, none⟩) (by simp) (.int .i64 (-1))
        have hBW := hB1.setCell (p := ⟨w.heap.size + 1, 2, none⟩) (by simp) (.int .i64 (-1))
        generalize w2.setCell ⟨w.heap.size + 1, 2, none⟩ (.int .i64 (-1)) = W at hP h2 hBW ⊢
        clear bp1 b21 hB1 cp2 fp2 ho HSF
        have h0x : wrap32 ((a0[0]'(by omega)).toNat : Int) = ((a0[0]'(by omega)).toNat : Int) := by
          have := (a0[0]'(by omega)).toNat_lt
          unfold wrap32; omega
        have hlt0 : 0 < a0.size := by omega
        have hszW := hBW.size
        have hPlt := (Array.getElem?_eq_some_iff.1 hP).1
        have HALL := Lib.hid (And.intro hP (And.intro h2 hBW))
        clear hP h2 hBW
        go_wp2
        go_loopw [] (fun wr => ∃ pos : Nat, pos ≤ 7 ∧ Aside0 (wr.heap[W.heap.size]? = some (.stringIter lettersB pos)) ∧ Aside0 (wr.heap[w.heap.size + 1]? = some (.cells #[.int .i64 (stepUpto (a0[0]'hlt0).toNat pos), .int .i64 0, .int .i64 (readOct a0)] 23 (0, 0))) ∧ Aside0 (wr.heap[w.heap.size]? = some (.cells #[.int .i64 0, .int .i64 0, .int .i64 0] 23 (0, 0))) ∧ Aside0 (Below w.heap.size w wr) ∧ W.heap.size < wr.heap.size) (fun wr => 7 - wr.iterPos W.heap.size)
        case atStart =>
          obtain ⟨hP, h2, hBW⟩ := HALL.out
          exact ⟨0, Nat.zero_le _, ⟨World.iter_heap W lettersB 0⟩, ⟨blk_alloc hP _⟩, ⟨blk_alloc h2 _⟩, ⟨hBW.alloc hszW _⟩, by simp [World.iter]⟩
        case round =>
          obtain ⟨pos, hpos, hI, hP, h2, hB, hlw⟩ := hrel
          by_cases hlt : pos < 7
          · have hdec := letters_decode ⟨pos, hlt⟩
            simp only at hdec
            have hnx : ∀ ty, (Instr.next (.pointer (some ⟨W.heap.size, 0, none⟩)) true ty).run Tryd.prog wr = .ok (.tuple #[.bool true, .int .i64 pos, .int .i32 ((lettersB.get! pos).toNat)]) (wr.iterAt W.heap.size lettersB (pos + 1)) := fun ty => by
              rw [Lib.run_next_any_at wr W.heap.size lettersB pos ty hI.out (by exact hlt), hdec]
            have hP' := (Lib.iterAt_other wr W.heap.size (w.heap.size + 1) lettersB (pos + 1) (by omega)).trans hP.out
            have h2' := (Lib.iterAt_other wr W.heap.size w.heap.size lettersB (pos + 1) (by omega)).trans h2.out
            have hI' := Lib.iterAt_heap wr W.heap.size lettersB pos (pos + 1) hI.out
            have hB' := Lib.below_iterAt hB.out (k := W.heap.size) (by omega) lettersB (pos + 1)
            have hs' := Lib.iterAt_size wr W.heap.size lettersB (pos + 1)
            have cst := (blk_cell hP' 0).trans rfl
            have fst := blk_frozen hP' 0
            have HK := Lib.hid (And.intro hP' (And.intro h2' (And.intro hI' (And.intro hB' hs'))))
            clear hP' h2' hI' hB' hs' hdec
            have hmu : wr.iterPos W.heap.size = pos := by simp [World.iterPos, hI.out]
            by_cases hc : ((a0[0]'hlt0).toNat : Int) = ((lettersB.get! pos).toNat : Int)
            · have hcb : (((a0[0]'hlt0).toNat : Int) == ((lettersB.get! pos).toNat : Int)) = true := beq_iff_eq.2 hc
              have HC := Lib.hid hc
              clear hc
              go_wp2
              obtain ⟨hP', h2', hI', hB', hs'⟩ := HK.out
              go_roundw
              case rel => exact ⟨pos + 1, by omega, ⟨(Below.heap_setCell _ ⟨w.heap.size + 1, 0, none⟩ _ W.heap.size (by show W.heap.size ≠ w.heap.size + 1; omega)).trans hI'⟩, ⟨by rw [show stepUpto (a0[0]'hlt0).toNat (pos + 1) = (pos : Int) from if_pos (by have := HC.out; omega)]; exact blk_put hP' 0 _ rfl⟩, ⟨blk_far h2' (by simp) _⟩, ⟨hB'.setCell (by simp) _⟩, by simp; omega⟩
              case measure =>
                have hI2 := (Below.heap_setCell _ ⟨w.heap.size + 1, 0, none⟩ (.int .i64 (pos : Int)) W.heap.size (by show W.heap.size ≠ w.heap.size + 1; omega)).trans hI'
                simp only [World.iterPos, hI.out, hI2]
                omega
            · have hcb : (((a0[0]'hlt0).toNat : Int) == ((lettersB.get! pos).toNat : Int)) = false := beq_eq_false_iff_ne.2 hc
              have HC := Lib.hid hc
              clear hc
              go_wp2
              obtain ⟨hP', h2', hI', hB', hs'⟩ := HK.out
              go_roundw
              case rel => exact ⟨pos + 1, by omega, ⟨hI'⟩, ⟨by rw [show stepUpto (a0[0]'hlt0).toNat (pos + 1) = stepUpto (a0[0]'hlt0).toNat pos from if_neg (by have := HC.out; omega)]; exact hP'⟩, ⟨h2'⟩, ⟨hB'⟩, by omega⟩
              case measure =>
                simp only [World.iterPos, hI.out, hI']
                omega
          · obtain rfl : pos = 7 := by omega
            have hnx : ∀ ty, (Instr.next (.pointer (some ⟨W.heap.size, 0, none⟩)) true ty).run Tryd.prog wr = _ := fun ty => Lib.run_next_end_at wr W.heap.size lettersB 7 ty hI.out (by decide)
            have HALL2 := Lib.hid (And.intro hP.out (And.intro h2.out (And.intro hB.out hlw)))
            clear hP h2 hB HALL hI
            have h1s : (1 : Int) ≤ (a0.size : Int) := by omega
            go_wp2
            clear hnx
            generalize wr = w7 at *
            go_loopw [] (fun wr => ∃ (pos b : Nat) (acc : Int), Aside0 (alters (a0.extract 1 a0.size) b pos acc = readAlt a0) ∧ Aside0 ((a0.extract 1 a0.size).size ≤ pos + b) ∧ Aside0 (wr.heap[w7.heap.size]? = some (.stringIter (a0.extract 1 a0.size) pos)) ∧ Aside0 (wr.heap[w.heap.size + 1]? = some (.cells #[.int .i64 (stepUpto (a0[0]'hlt0).toNat 7), .int .i64 acc, .int .i64 (readOct a0)] 23 (0, 0))) ∧ Aside0 (wr.heap[w.heap.size]? = some (.cells #[.int .i64 0, .int .i64 0, .int .i64 0] 23 (0, 0))) ∧ Aside0 (Below w.heap.size w wr) ∧ w7.heap.size < wr.heap.size) (fun wr => (a0.extract 1 a0.size).size - wr.iterPos w7.heap.size)
            case atStart =>
              obtain ⟨hP, h2, hB, _⟩ := HALL2.out
              exact ⟨0, a0.size, 0, ⟨rfl⟩, ⟨by rw [ByteArray.size_extract]; omega⟩, ⟨World.iter_heap w7 _ 0⟩, ⟨blk_alloc hP _⟩, ⟨blk_alloc h2 _⟩, ⟨hB.alloc (by omega) _⟩, by simp [World.iter]⟩
            case round =>
              obtain ⟨pos, b, acc, hA, hsz, hI, hP, h2, hB, hlq⟩ := hrel
              cases b with
              | zero =>
                have hlt : ¬ pos < (a0.extract 1 a0.size).size := by have := hsz.out; omega
                have hA' : acc = readAlt a0 := by rw [← hA.out]; rfl
                have hnx : ∀ ty, (Instr.next (.pointer (some ⟨w7.heap.size, 0, none⟩)) true ty).run Tryd.prog wr = _ := fun ty => Lib.run_next_end_at wr w7.heap.size (a0.extract 1 a0.size) pos ty hI.out hlt
                subst hA'
                have HF := Lib.hid (And.intro hP.out (And.intro h2.out hB.out))
                have cq0 := (blk_cell hP.out 0).trans rfl
                have cq1 := (blk_cell hP.out 1).trans rfl
                have cq2 := (blk_cell hP.out 2).trans rfl
                obtain ⟨⟨t1, t2⟩, hT, hR⟩ := Option.bind_eq_some_iff.1 hH.out
                rw [show a0.get! 0 = a0[0]'hlt0 from get_at a0 0 hlt0] at hT hR
                have HT := Lib.hid hT
                have HR := Lib.hid hR
                clear hT hR hP h2 hB hI hA hsz HALL2
                by_cases he : t2 = 0
                · subst he
                  by_cases hq : t1 = a0
                  · subst hq
                    have hqb : (t1.toList == t1.toList) = true := beq_self_eq_true _
                    go_wp2_with (go_at_call 18; refine (pitch_Text.calls _ _ _ _ _ _ (GW.step HG.out HF.out.2.2) HT.out).mono ?_; rintro e w8 ⟨rfl, hb8⟩; have p8 := blk_below HF.out.1 hb8; have z8 := blk_below HF.out.2.1 hb8; have B8 := HF.out.2.2.trans (hb8.mono HF.out.2.2.size); have cp0 := (blk_cell p8 0).trans rfl; have cp1 := (blk_cell p8 1).trans rfl; have cp2 := (blk_cell p8 2).trans rfl; have cz0 := (blk_cell z8 0).trans rfl; have cz1 := (blk_cell z8 1).trans rfl; have cz2 := (blk_cell z8 2).trans rfl; have fz0 := blk_frozen z8 0; have fz1 := blk_frozen z8 1; have fz2 := blk_frozen z8 2; have H8 := Lib.hid (And.intro z8 B8); clear hb8 p8 z8 B8)
                    obtain ⟨z8, B8⟩ := H8.out
                    have hres : (r1, r2, r3, r4) = ((stepUpto (t1[0]'hlt0).toNat 7), (readAlt t1), (readOct t1), (0 : Int)) := by have hh := HR.out; simp at hh ⊢; omega
                    obtain ⟨rfl, rfl, rfl, rfl⟩ : r1 = (stepUpto (t1[0]'hlt0).toNat 7) ∧ r2 = (readAlt t1) ∧ r3 = (readOct t1) ∧ r4 = 0 := by simpa using hres
                    have zz := blk_put (blk_put (blk_put z8 0 (.int .i64 (stepUpto (t1[0]'hlt0).toNat 7)) rfl) 1 (.int .i64 (readAlt t1)) rfl) 2 (.int .i64 (readOct t1)) rfl
                    refine bodyPost_ret (results_ct rfl _ _ w.heap.size 23 #[.int .i64 (stepUpto (t1[0]'hlt0).toNat 7), .int .i64 (readAlt t1), .int .i64 (readOct t1)] (0, 0) _ rfl zz Tryd.underlying23 rfl (by kernel_rfl)) rfl ?_
                    exact ⟨rfl, ((B8.setCell (by simp) _).setCell (by simp) _).setCell (by simp) _⟩
                  · have hqb : (t1.toList == a0.toList) = false := beq_eq_false_iff_ne.2 (fun e => hq (same_bytes e))
                    have hqb2 : (t1.toList != a0.toList) = true := bne_iff_ne.2 (fun e => hq (same_bytes e))
                    go_wp2_with (go_at_call 18; refine (pitch_Text.calls _ _ _ _ _ _ (GW.step HG.out HF.out.2.2) HT.out).mono ?_; rintro e w8 ⟨rfl, hb8⟩; have p8 := blk_below HF.out.1 hb8; have z8 := blk_below HF.out.2.1 hb8; have B8 := HF.out.2.2.trans (hb8.mono HF.out.2.2.size); have cp0 := (blk_cell p8 0).trans rfl; have cp1 := (blk_cell p8 1).trans rfl; have cp2 := (blk_cell p8 2).trans rfl; have cz0 := (blk_cell z8 0).trans rfl; have cz1 := (blk_cell z8 1).trans rfl; have cz2 := (blk_cell z8 2).trans rfl; have fz0 := blk_frozen z8 0; have fz1 := blk_frozen z8 1; have fz2 := blk_frozen z8 2; have H8 := Lib.hid (And.intro z8 B8); clear hb8 p8 z8 B8)
                    obtain ⟨z8, B8⟩ := H8.out
                    have hres : (r1, r2, r3, r4) = (0, 0, 0, (21 : Int)) := by have hh := HR.out; simp [hq] at hh ⊢; omega
                    obtain ⟨rfl, rfl, rfl, rfl⟩ : r1 = 0 ∧ r2 = 0 ∧ r3 = 0 ∧ r4 = 21 := by simpa using hres
                    have zz := blk_put (blk_put (blk_put z8 0 (.int .i64 0) rfl) 1 (.int .i64 0) rfl) 2 (.int .i64 0) rfl
                    refine bodyPost_ret (results_ct rfl _ _ w.heap.size 23 #[.int .i64 0, .int .i64 0, .int .i64 0] (0, 0) _ rfl zz Tryd.underlying23 rfl (by kernel_rfl)) rfl ?_
                    exact ⟨rfl, ((B8.setCell (by simp) _).setCell (by simp) _).setCell (by simp) _⟩
                · have heb : (t2 == 0) = false := beq_eq_false_iff_ne.2 he
                  have heb2 : (t2 != 0) = true := bne_iff_ne.2 he
                  go_wp2_with (go_at_call 18; refine (pitch_Text.calls _ _ _ _ _ _ (GW.step HG.out HF.out.2.2) HT.out).mono ?_; rintro e w8 ⟨rfl, hb8⟩; have p8 := blk_below HF.out.1 hb8; have z8 := blk_below HF.out.2.1 hb8; have B8 := HF.out.2.2.trans (hb8.mono HF.out.2.2.size); have cp0 := (blk_cell p8 0).trans rfl; have cp1 := (blk_cell p8 1).trans rfl; have cp2 := (blk_cell p8 2).trans rfl; have cz0 := (blk_cell z8 0).trans rfl; have cz1 := (blk_cell z8 1).trans rfl; have cz2 := (blk_cell z8 2).trans rfl; have fz0 := blk_frozen z8 0; have fz1 := blk_frozen z8 1; have fz2 := blk_frozen z8 2; have H8 := Lib.hid (And.intro z8 B8); clear hb8 p8 z8 B8)
                  obtain ⟨z8, B8⟩ := H8.out
                  have hres : (r1, r2, r3, r4) = (0, 0, 0, (21 : Int)) := by have hh := HR.out; simp [he] at hh ⊢; omega
                  obtain ⟨rfl, rfl, rfl, rfl⟩ : r1 = 0 ∧ r2 = 0 ∧ r3 = 0 ∧ r4 = 21 := by simpa using hres
                  have zz := blk_put (blk_put (blk_put z8 0 (.int .i64 0) rfl) 1 (.int .i64 0) rfl) 2 (.int .i64 0) rfl
                  refine bodyPost_ret (results_ct rfl _ _ w.heap.size 23 #[.int .i64 0, .int .i64 0, .int .i64 0] (0, 0) _ rfl zz Tryd.underlying23 rfl (by kernel_rfl)) rfl ?_
                  exact ⟨rfl, ((B8.setCell (by simp) _).setCell (by simp) _).setCell (by simp) _⟩
              | succ b =>
              by_cases hlt : pos < (a0.extract 1 a0.size).size
              · have hnx : ∀ ty, (Instr.next (.pointer (some ⟨w7.heap.size, 0, none⟩)) true ty).run Tryd.prog wr = _ := fun ty => Lib.run_next_any_at wr w7.heap.size (a0.extract 1 a0.size) pos ty hI.out hlt
                have hwd := width_pos (a0.extract 1 a0.size) pos hlt
                have hA1 : alters (a0.extract 1 a0.size) b (pos + (Utf8.decode (a0.extract 1 a0.size) pos).2) (if (Utf8.decode (a0.extract 1 a0.size) pos).1 = 35 then wrap64 (acc + 1) else if (Utf8.decode (a0.extract 1 a0.size) pos).1 = 98 then wrap64 (acc - 1) else acc) = readAlt a0 := by
                  rw [← hA.out, alters, if_pos hlt]
                have hmu : wr.iterPos w7.heap.size = pos := by simp [World.iterPos, hI.out]
                have hlw := HALL2.out.2.2.2
                have hne : w.heap.size + 1 ≠ w7.heap.size := by omega
                have hne0 : w.heap.size ≠ w7.heap.size := by omega
                generalize hr : (Utf8.decode (a0.extract 1 a0.size) pos).1 = c at hnx hA1
                generalize hr2 : (Utf8.decode (a0.extract 1 a0.size) pos).2 = wd at hnx hA1 hwd
                clear hr hr2
                have hP' := (Lib.iterAt_other wr w7.heap.size (w.heap.size + 1) (a0.extract 1 a0.size) (pos + wd) hne).trans hP.out
                have h2' := (Lib.iterAt_other wr w7.heap.size w.heap.size (a0.extract 1 a0.size) (pos + wd) hne0).trans h2.out
                have hI' := Lib.iterAt_heap wr w7.heap.size (a0.extract 1 a0.size) pos (pos + wd) hI.out
                have hB' := Lib.below_iterAt hB.out (k := w7.heap.size) (by omega) (a0.extract 1 a0.size) (pos + wd)
                have hs' := Lib.iterAt_size wr w7.heap.size (a0.extract 1 a0.size) (pos + wd)
                have cst := (blk_cell hP' 1).trans rfl
                have fst := blk_frozen hP' 1
                have HK := Lib.hid (And.intro hP' (And.intro h2' (And.intro hI' (And.intro hB' hs'))))
                have HMU := Lib.hid hmu
                have HHA := Lib.hid (And.intro hA1 (And.intro hsz.out (And.intro hwd hlt)))
                clear hP' h2' hI' hB' hs' hP h2 hI hB hA hsz hA1 hmu hwd hlt HALL2
                by_cases h35 : c = 35
                · subst h35
                  go_wp2
                  obtain ⟨hP', h2', hI', hB', hs'⟩ := HK.out
                  obtain ⟨hA1, hsz, hwd, hlt⟩ := HHA.out
                  have hI2 := (Below.heap_setCell _ ⟨w.heap.size + 1, 1, none⟩ (.int .i64 (wrap64 (acc + 1))) w7.heap.size (by show w7.heap.size ≠ w.heap.size + 1; omega)).trans hI'
                  go_roundw
                  case rel => exact ⟨pos + wd, b, wrap64 (acc + 1), ⟨hA1⟩, ⟨by omega⟩, ⟨hI2⟩, ⟨blk_put hP' 1 _ rfl⟩, ⟨blk_far h2' (by simp) _⟩, ⟨hB'.setCell (by simp) _⟩, by simp; omega⟩
                  case measure =>
                    rw [HMU.out]
                    simp only [World.iterPos, hI2]
                    omega
                · have h35b : ((c : Int) == 35) = false := beq_eq_false_iff_ne.2 (by omega)
                  have H35 := Lib.hid h35
                  clear h35
                  by_cases h98 : c = 98
                  · subst h98
                    go_wp2
                    obtain ⟨hP', h2', hI', hB', hs'⟩ := HK.out
                    obtain ⟨hA1, hsz, hwd, hlt⟩ := HHA.out
                    have hI2 := (Below.heap_setCell _ ⟨w.heap.size + 1, 1, none⟩ (.int .i64 (wrap64 (acc - 1))) w7.heap.size (by show w7.heap.size ≠ w.heap.size + 1; omega)).trans hI'
                    go_roundw
                    case rel => exact ⟨pos + wd, b, wrap64 (acc - 1), ⟨hA1⟩, ⟨by omega⟩, ⟨hI2⟩, ⟨blk_put hP' 1 _ rfl⟩, ⟨blk_far h2' (by simp) _⟩, ⟨hB'.setCell (by simp) _⟩, by simp; omega⟩
                    case measure =>
                      rw [HMU.out]
                      simp only [World.iterPos, hI2]
                      omega
                  · have h98b : ((c : Int) == 98) = false := beq_eq_false_iff_ne.2 (by omega)
                    have H98 := Lib.hid h98
                    clear h98
                    go_wp2
                    obtain ⟨hP', h2', hI', hB', hs'⟩ := HK.out
                    obtain ⟨hA1, hsz, hwd, hlt⟩ := HHA.out
                    rw [if_neg H35.out, if_neg H98.out] at hA1
                    go_roundw
                    case rel => exact ⟨pos + wd, b, acc, ⟨hA1⟩, ⟨by omega⟩, ⟨hI'⟩, ⟨hP'⟩, ⟨h2'⟩, ⟨hB'⟩, by omega⟩
                    case measure =>
                      rw [HMU.out]
                      simp only [World.iterPos, hI']
                      omega
              · have hA' : acc = readAlt a0 := by rw [← hA.out, alters, if_neg hlt]
                have hnx : ∀ ty, (Instr.next (.pointer (some ⟨w7.heap.size, 0, none⟩)) true ty).run Tryd.prog wr = _ := fun ty => Lib.run_next_end_at wr w7.heap.size (a0.extract 1 a0.size) pos ty hI.out hlt
                subst hA'
                have HF := Lib.hid (And.intro hP.out (And.intro h2.out hB.out))
                have cq0 := (blk_cell hP.out 0).trans rfl
                have cq1 := (blk_cell hP.out 1).trans rfl
                have cq2 := (blk_cell hP.out 2).trans rfl
                obtain ⟨⟨t1, t2⟩, hT, hR⟩ := Option.bind_eq_some_iff.1 hH.out
                rw [show a0.get! 0 = a0[0]'hlt0 from get_at a0 0 hlt0] at hT hR
                have HT := Lib.hid hT
                have HR := Lib.hid hR
                clear hT hR hP h2 hB hI hA hsz HALL2
                by_cases he : t2 = 0
                · subst he
                  by_cases hq : t1 = a0
                  · subst hq
                    have hqb : (t1.toList == t1.toList) = true := beq_self_eq_true _
                    go_wp2_with (go_at_call 18; refine (pitch_Text.calls _ _ _ _ _ _ (GW.step HG.out HF.out.2.2) HT.out).mono ?_; rintro e w8 ⟨rfl, hb8⟩; have p8 := blk_below HF.out.1 hb8; have z8 := blk_below HF.out.2.1 hb8; have B8 := HF.out.2.2.trans (hb8.mono HF.out.2.2.size); have cp0 := (blk_cell p8 0).trans rfl; have cp1 := (blk_cell p8 1).trans rfl; have cp2 := (blk_cell p8 2).trans rfl; have cz0 := (blk_cell z8 0).trans rfl; have cz1 := (blk_cell z8 1).trans rfl; have cz2 := (blk_cell z8 2).trans rfl; have fz0 := blk_frozen z8 0; have fz1 := blk_frozen z8 1; have fz2 := blk_frozen z8 2; have H8 := Lib.hid (And.intro z8 B8); clear hb8 p8 z8 B8)
                    obtain ⟨z8, B8⟩ := H8.out
                    have hres : (r1, r2, r3, r4) = ((stepUpto (t1[0]'hlt0).toNat 7), (readAlt t1), (readOct t1), (0 : Int)) := by have hh := HR.out; simp at hh ⊢; omega
                    obtain ⟨rfl, rfl, rfl, rfl⟩ : r1 = (stepUpto (t1[0]'hlt0).toNat 7) ∧ r2 = (readAlt t1) ∧ r3 = (readOct t1) ∧ r4 = 0 := by simpa using hres
                    have zz := blk_put (blk_put (blk_put z8 0 (.int .i64 (stepUpto (t1[0]'hlt0).toNat 7)) rfl) 1 (.int .i64 (readAlt t1)) rfl) 2 (.int .i64 (readOct t1)) rfl
                    refine bodyPost_ret (results_ct rfl _ _ w.heap.size 23 #[.int .i64 (stepUpto (t1[0]'hlt0).toNat 7), .int .i64 (readAlt t1), .int .i64 (readOct t1)] (0, 0) _ rfl zz Tryd.underlying23 rfl (by kernel_rfl)) rfl ?_
                    exact ⟨rfl, ((B8.setCell (by simp) _).setCell (by simp) _).setCell (by simp) _⟩
                  · have hqb : (t1.toList == a0.toList) = false := beq_eq_false_iff_ne.2 (fun e => hq (same_bytes e))
                    have hqb2 : (t1.toList != a0.toList) = true := bne_iff_ne.2 (fun e => hq (same_bytes e))
                    go_wp2_with (go_at_call 18; refine (pitch_Text.calls _ _ _ _ _ _ (GW.step HG.out HF.out.2.2) HT.out).mono ?_; rintro e w8 ⟨rfl, hb8⟩; have p8 := blk_below HF.out.1 hb8; have z8 := blk_below HF.out.2.1 hb8; have B8 := HF.out.2.2.trans (hb8.mono HF.out.2.2.size); have cp0 := (blk_cell p8 0).trans rfl; have cp1 := (blk_cell p8 1).trans rfl; have cp2 := (blk_cell p8 2).trans rfl; have cz0 := (blk_cell z8 0).trans rfl; have cz1 := (blk_cell z8 1).trans rfl; have cz2 := (blk_cell z8 2).trans rfl; have fz0 := blk_frozen z8 0; have fz1 := blk_frozen z8 1; have fz2 := blk_frozen z8 2; have H8 := Lib.hid (And.intro z8 B8); clear hb8 p8 z8 B8)
                    obtain ⟨z8, B8⟩ := H8.out
                    have hres : (r1, r2, r3, r4) = (0, 0, 0, (21 : Int)) := by have hh := HR.out; simp [hq] at hh ⊢; omega
                    obtain ⟨rfl, rfl, rfl, rfl⟩ : r1 = 0 ∧ r2 = 0 ∧ r3 = 0 ∧ r4 = 21 := by simpa using hres
                    have zz := blk_put (blk_put (blk_put z8 0 (.int .i64 0) rfl) 1 (.int .i64 0) rfl) 2 (.int .i64 0) rfl
                    refine bodyPost_ret (results_ct rfl _ _ w.heap.size 23 #[.int .i64 0, .int .i64 0, .int .i64 0] (0, 0) _ rfl zz Tryd.underlying23 rfl (by kernel_rfl)) rfl ?_
                    exact ⟨rfl, ((B8.setCell (by simp) _).setCell (by simp) _).setCell (by simp) _⟩
                · have heb : (t2 == 0) = false := beq_eq_false_iff_ne.2 he
                  have heb2 : (t2 != 0) = true := bne_iff_ne.2 he
                  go_wp2_with (go_at_call 18; refine (pitch_Text.calls _ _ _ _ _ _ (GW.step HG.out HF.out.2.2) HT.out).mono ?_; rintro e w8 ⟨rfl, hb8⟩; have p8 := blk_below HF.out.1 hb8; have z8 := blk_below HF.out.2.1 hb8; have B8 := HF.out.2.2.trans (hb8.mono HF.out.2.2.size); have cp0 := (blk_cell p8 0).trans rfl; have cp1 := (blk_cell p8 1).trans rfl; have cp2 := (blk_cell p8 2).trans rfl; have cz0 := (blk_cell z8 0).trans rfl; have cz1 := (blk_cell z8 1).trans rfl; have cz2 := (blk_cell z8 2).trans rfl; have fz0 := blk_frozen z8 0; have fz1 := blk_frozen z8 1; have fz2 := blk_frozen z8 2; have H8 := Lib.hid (And.intro z8 B8); clear hb8 p8 z8 B8)
                  obtain ⟨z8, B8⟩ := H8.out
                  have hres : (r1, r2, r3, r4) = (0, 0, 0, (21 : Int)) := by have hh := HR.out; simp [he] at hh ⊢; omega
                  obtain ⟨rfl, rfl, rfl, rfl⟩ : r1 = 0 ∧ r2 = 0 ∧ r3 = 0 ∧ r4 = 21 := by simpa using hres
                  have zz := blk_put (blk_put (blk_put z8 0 (.int .i64 0) rfl) 1 (.int .i64 0) rfl) 2 (.int .i64 0) rfl
                  refine bodyPost_ret (results_ct rfl _ _ w.heap.size 23 #[.int .i64 0, .int .i64 0, .int .i64 0] (0, 0) _ rfl zz Tryd.underlying23 rfl (by kernel_rfl)) rfl ?_
                  exact ⟨rfl, ((B8.setCell (by simp) _).setCell (by simp) _).setCell (by simp) _⟩
      · have ho : readOct a0 = wrap64 (((a0[a0.size - 1]'hlt2).toNat : Int) - 48) := HO.out.trans (by rw [HSF.out]; rfl)
        have hP : w2.heap[w.heap.size + 1]? = some (.cells #[.int .i64 (-1), .int .i64 0, .int .i64 (readOct a0)] 23 (0, 0)) := by rw [ho]; exact bp1
        have h2 := b21
        have hBW := hB1
        generalize w2 = W at hP h2 hBW bp1 b21 hB1 cp2 fp2 ⊢
        clear bp1 b21 hB1 cp2 fp2 ho HSF
        have h0x : wrap32 ((a0[0]'(by omega)).toNat : Int) = ((a0[0]'(by omega)).toNat : Int) := by
          have := (a0[0]'(by omega)).toNat_lt
          unfold wrap32; omega
        have hlt0 : 0 < a0.size := by omega
        have hszW := hBW.size
        have hPlt := (Array.getElem?_eq_some_iff.1 hP).1
        have HALL := Lib.hid (And.intro hP (And.intro h2 hBW))
        clear hP h2 hBW
        go_wp2
        go_loopw [] (fun wr => ∃ pos : Nat, pos ≤ 7 ∧ Aside0 (wr.heap[W.heap.size]? = some (.stringIter lettersB pos)) ∧ Aside0 (wr.heap[w.heap.size + 1]? = some (.cells #[.int .i64 (stepUpto (a0[0]'hlt0).toNat pos), .int .i64 0, .int .i64 (readOct a0)] 23 (0, 0))) ∧ Aside0 (wr.heap[w.heap.size]? = some (.cells #[.int .i64 0, .int .i64 0, .int .i64 0] 23 (0, 0))) ∧ Aside0 (Below w.heap.size w wr) ∧ W.heap.size < wr.heap.size) (fun wr => 7 - wr.iterPos W.heap.size)
        case atStart =>
          obtain ⟨hP, h2, hBW⟩ := HALL.out
          exact ⟨0, Nat.zero_le _, ⟨World.iter_heap W lettersB 0⟩, ⟨blk_alloc hP _⟩, ⟨blk_alloc h2 _⟩, ⟨hBW.alloc hszW _⟩, by simp [World.iter]⟩
        case round =>
          obtain ⟨pos, hpos, hI, hP, h2, hB, hlw⟩ := hrel
          by_cases hlt : pos < 7
          · have hdec := letters_decode ⟨pos, hlt⟩
            simp only at hdec
            have hnx : ∀ ty, (Instr.next (.pointer (some ⟨W.heap.size, 0, none⟩)) true ty).run Tryd.prog wr = .ok (.tuple #[.bool true, .int .i64 pos, .int .i32 ((lettersB.get! pos).toNat)]) (wr.iterAt W.heap.size lettersB (pos + 1)) := fun ty => by
              rw [Lib.run_next_any_at wr W.heap.size lettersB pos ty hI.out (by exact hlt), hdec]
            have hP' := (Lib.iterAt_other wr W.heap.size (w.heap.size + 1) lettersB (pos + 1) (by omega)).trans hP.out
            have h2' := (Lib.iterAt_other wr W.heap.size w.heap.size lettersB (pos + 1) (by omega)).trans h2.out
            have hI' := Lib.iterAt_heap wr W.heap.size lettersB pos (pos + 1) hI.out
            have hB' := Lib.below_iterAt hB.out (k := W.heap.size) (by omega) lettersB (pos + 1)
            have hs' := Lib.iterAt_size wr W.heap.size lettersB (pos + 1)
            have cst := (blk_cell hP' 0).trans rfl
            have fst := blk_frozen hP' 0
            have HK := Lib.hid (And.intro hP' (And.intro h2' (And.intro hI' (And.intro hB' hs'))))
            clear hP' h2' hI' hB' hs' hdec
            have hmu : wr.iterPos W.heap.size = pos := by simp [World.iterPos, hI.out]
            by_cases hc : ((a0[0]'hlt0).toNat : Int) = ((lettersB.get! pos).toNat : Int)
            · have hcb : (((a0[0]'hlt0).toNat : Int) == ((lettersB.get! pos).toNat : Int)) = true := beq_iff_eq.2 hc
              have HC := Lib.hid hc
              clear hc
              go_wp2
              obtain ⟨hP', h2', hI', hB', hs'⟩ := HK.out
              go_roundw
              case rel => exact ⟨pos + 1, by omega, ⟨(Below.heap_setCell _ ⟨w.heap.size + 1, 0, none⟩ _ W.heap.size (by show W.heap.size ≠ w.heap.size + 1; omega)).trans hI'⟩, ⟨by rw [show stepUpto (a0[0]'hlt0).toNat (pos + 1) = (pos : Int) from if_pos (by have := HC.out; omega)]; exact blk_put hP' 0 _ rfl⟩, ⟨blk_far h2' (by simp) _⟩, ⟨hB'.setCell (by simp) _⟩, by simp; omega⟩
              case measure =>
                have hI2 := (Below.heap_setCell _ ⟨w.heap.size + 1, 0, none⟩ (.int .i64 (pos : Int)) W.heap.size (by show W.heap.size ≠ w.heap.size + 1; omega)).trans hI'
                simp only [World.iterPos, hI.out, hI2]
                omega
            · have hcb : (((a0[0]'hlt0).toNat : Int) == ((lettersB.get! pos).toNat : Int)) = false := beq_eq_false_iff_ne.2 hc
              have HC := Lib.hid hc
              clear hc
              go_wp2
              obtain ⟨hP', h2', hI', hB', hs'⟩ := HK.out
              go_roundw
              case rel => exact ⟨pos + 1, by omega, ⟨hI'⟩, ⟨by rw [show stepUpto (a0[0]'hlt0).toNat (pos + 1) = stepUpto (a0[0]'hlt0).toNat pos from if_neg (by have := HC.out; omega)]; exact hP'⟩, ⟨h2'⟩, ⟨hB'⟩, by omega⟩
              case measure =>
                simp only [World.iterPos, hI.out, hI']
                omega
          · obtain rfl : pos = 7 := by omega
            have hnx : ∀ ty, (Instr.next (.pointer (some ⟨W.heap.size, 0, none⟩)) true ty).run Tryd.prog wr = _ := fun ty => Lib.run_next_end_at wr W.heap.size lettersB 7 ty hI.out (by decide)
            have HALL2 := Lib.hid (And.intro hP.out (And.intro h2.out (And.intro hB.out hlw)))
            clear hP h2 hB HALL hI
            have h1s : (1 : Int) ≤ (a0.size : Int) := by omega
            go_wp2
            clear hnx
            generalize wr = w7 at *
            go_loopw [] (fun wr => ∃ (pos b : Nat) (acc : Int), Aside0 (alters (a0.extract 1 a0.size) b pos acc = readAlt a0) ∧ Aside0 ((a0.extract 1 a0.size).size ≤ pos + b) ∧ Aside0 (wr.heap[w7.heap.size]? = some (.stringIter (a0.extract 1 a0.size) pos)) ∧ Aside0 (wr.heap[w.heap.size + 1]? = some (.cells #[.int .i64 (stepUpto (a0[0]'hlt0).toNat 7), .int .i64 acc, .int .i64 (readOct a0)] 23 (0, 0))) ∧ Aside0 (wr.heap[w.heap.size]? = some (.cells #[.int .i64 0, .int .i64 0, .int .i64 0] 23 (0, 0))) ∧ Aside0 (Below w.heap.size w wr) ∧ w7.heap.size < wr.heap.size) (fun wr => (a0.extract 1 a0.size).size - wr.iterPos w7.heap.size)
            case atStart =>
              obtain ⟨hP, h2, hB, _⟩ := HALL2.out
              exact ⟨0, a0.size, 0, ⟨rfl⟩, ⟨by rw [ByteArray.size_extract]; omega⟩, ⟨World.iter_heap w7 _ 0⟩, ⟨blk_alloc hP _⟩, ⟨blk_alloc h2 _⟩, ⟨hB.alloc (by omega) _⟩, by simp [World.iter]⟩
            case round =>
              obtain ⟨pos, b, acc, hA, hsz, hI, hP, h2, hB, hlq⟩ := hrel
              cases b with
              | zero =>
                have hlt : ¬ pos < (a0.extract 1 a0.size).size := by have := hsz.out; omega
                have hA' : acc = readAlt a0 := by rw [← hA.out]; rfl
                have hnx : ∀ ty, (Instr.next (.pointer (some ⟨w7.heap.size, 0, none⟩)) true ty).run Tryd.prog wr = _ := fun ty => Lib.run_next_end_at wr w7.heap.size (a0.extract 1 a0.size) pos ty hI.out hlt
                subst hA'
                have HF := Lib.hid (And.intro hP.out (And.intro h2.out hB.out))
                have cq0 := (blk_cell hP.out 0).trans rfl
                have cq1 := (blk_cell hP.out 1).trans rfl
                have cq2 := (blk_cell hP.out 2).trans rfl
                obtain ⟨⟨t1, t2⟩, hT, hR⟩ := Option.bind_eq_some_iff.1 hH.out
                rw [show a0.get! 0 = a0[0]'hlt0 from get_at a0 0 hlt0] at hT hR
                have HT := Lib.hid hT
                have HR := Lib.hid hR
                clear hT hR hP h2 hB hI hA hsz HALL2
                by_cases he : t2 = 0
                · subst he
                  by_cases hq : t1 = a0
                  · subst hq
                    have hqb : (t1.toList == t1.toList) = true := beq_self_eq_true _
                    go_wp2_with (go_at_call 18; refine (pitch_Text.calls _ _ _ _ _ _ (GW.step HG.out HF.out.2.2) HT.out).mono ?_; rintro e w8 ⟨rfl, hb8⟩; have p8 := blk_below HF.out.1 hb8; have z8 := blk_below HF.out.2.1 hb8; have B8 := HF.out.2.2.trans (hb8.mono HF.out.2.2.size); have cp0 := (blk_cell p8 0).trans rfl; have cp1 := (blk_cell p8 1).trans rfl; have cp2 := (blk_cell p8 2).trans rfl; have cz0 := (blk_cell z8 0).trans rfl; have cz1 := (blk_cell z8 1).trans rfl; have cz2 := (blk_cell z8 2).trans rfl; have fz0 := blk_frozen z8 0; have fz1 := blk_frozen z8 1; have fz2 := blk_frozen z8 2; have H8 := Lib.hid (And.intro z8 B8); clear hb8 p8 z8 B8)
                    obtain ⟨z8, B8⟩ := H8.out
                    have hres : (r1, r2, r3, r4) = ((stepUpto (t1[0]'hlt0).toNat 7), (readAlt t1), (readOct t1), (0 : Int)) := by have hh := HR.out; simp at hh ⊢; omega
                    obtain ⟨rfl, rfl, rfl, rfl⟩ : r1 = (stepUpto (t1[0]'hlt0).toNat 7) ∧ r2 = (readAlt t1) ∧ r3 = (readOct t1) ∧ r4 = 0 := by simpa using hres
                    have zz := blk_put (blk_put (blk_put z8 0 (.int .i64 (stepUpto (t1[0]'hlt0).toNat 7)) rfl) 1 (.int .i64 (readAlt t1)) rfl) 2 (.int .i64 (readOct t1)) rfl
                    refine bodyPost_ret (results_ct rfl _ _ w.heap.size 23 #[.int .i64 (stepUpto (t1[0]'hlt0).toNat 7), .int .i64 (readAlt t1), .int .i64 (readOct t1)] (0, 0) _ rfl zz Tryd.underlying23 rfl (by kernel_rfl)) rfl ?_
                    exact ⟨rfl, ((B8.setCell (by simp) _).setCell (by simp) _).setCell (by simp) _⟩
                  · have hqb : (t1.toList == a0.toList) = false := beq_eq_false_iff_ne.2 (fun e => hq (same_bytes e))
                    have hqb2 : (t1.toList != a0.toList) = true := bne_iff_ne.2 (fun e => hq (same_bytes e))
                    go_wp2_with (go_at_call 18; refine (pitch_Text.calls _ _ _ _ _ _ (GW.step HG.out HF.out.2.2) HT.out).mono ?_; rintro e w8 ⟨rfl, hb8⟩; have p8 := blk_below HF.out.1 hb8; have z8 := blk_below HF.out.2.1 hb8; have B8 := HF.out.2.2.trans (hb8.mono HF.out.2.2.size); have cp0 := (blk_cell p8 0).trans rfl; have cp1 := (blk_cell p8 1).trans rfl; have cp2 := (blk_cell p8 2).trans rfl; have cz0 := (blk_cell z8 0).trans rfl; have cz1 := (blk_cell z8 1).trans rfl; have cz2 := (blk_cell z8 2).trans rfl; have fz0 := blk_frozen z8 0; have fz1 := blk_frozen z8 1; have fz2 := blk_frozen z8 2; have H8 := Lib.hid (And.intro z8 B8); clear hb8 p8 z8 B8)
                    obtain ⟨z8, B8⟩ := H8.out
                    have hres : (r1, r2, r3, r4) = (0, 0, 0, (21 : Int)) := by have hh := HR.out; simp [hq] at hh ⊢; omega
                    obtain ⟨rfl, rfl, rfl, rfl⟩ : r1 = 0 ∧ r2 = 0 ∧ r3 = 0 ∧ r4 = 21 := by simpa using hres
                    have zz := blk_put (blk_put (blk_put z8 0 (.int .i64 0) rfl) 1 (.int .i64 0) rfl) 2 (.int .i64 0) rfl
                    refine bodyPost_ret (results_ct rfl _ _ w.heap.size 23 #[.int .i64 0, .int .i64 0, .int .i64 0] (0, 0) _ rfl zz Tryd.underlying23 rfl (by kernel_rfl)) rfl ?_
                    exact ⟨rfl, ((B8.setCell (by simp) _).setCell (by simp) _).setCell (by simp) _⟩
                · have heb : (t2 == 0) = false := beq_eq_false_iff_ne.2 he
                  have heb2 : (t2 != 0) = true := bne_iff_ne.2 he
                  go_wp2_with (go_at_call 18; refine (pitch_Text.calls _ _ _ _ _ _ (GW.step HG.out HF.out.2.2) HT.out).mono ?_; rintro e w8 ⟨rfl, hb8⟩; have p8 := blk_below HF.out.1 hb8; have z8 := blk_below HF.out.2.1 hb8; have B8 := HF.out.2.2.trans (hb8.mono HF.out.2.2.size); have cp0 := (blk_cell p8 0).trans rfl; have cp1 := (blk_cell p8 1).trans rfl; have cp2 := (blk_cell p8 2).trans rfl; have cz0 := (blk_cell z8 0).trans rfl; have cz1 := (blk_cell z8 1).trans rfl; have cz2 := (blk_cell z8 2).trans rfl; have fz0 := blk_frozen z8 0; have fz1 := blk_frozen z8 1; have fz2 := blk_frozen z8 2; have H8 := Lib.hid (And.intro z8 B8); clear hb8 p8 z8 B8)
                  obtain ⟨z8, B8⟩ := H8.out
                  have hres : (r1, r2, r3, r4) = (0, 0, 0, (21 : Int)) := by have hh := HR.out; simp [he] at hh ⊢; omega
                  obtain ⟨rfl, rfl, rfl, rfl⟩ : r1 = 0 ∧ r2 = 0 ∧ r3 = 0 ∧ r4 = 21 := by simpa using hres
                  have zz := blk_put (blk_put (blk_put z8 0 (.int .i64 0) rfl) 1 (.int .i64 0) rfl) 2 (.int .i64 0) rfl
                  refine bodyPost_ret (results_ct rfl _ _ w.heap.size 23 #[.int .i64 0, .int .i64 0, .int .i64 0] (0, 0) _ rfl zz Tryd.underlying23 rfl (by kernel_rfl)) rfl ?_
                  exact ⟨rfl, ((B8.setCell (by simp) _).setCell (by simp) _).setCell (by simp) _⟩
              | succ b =>
              by_cases hlt : pos < (a0.extract 1 a0.size).size
              · have hnx : ∀ ty, (Instr.next (.pointer (some ⟨w7.heap.size, 0, none⟩)) true ty).run Tryd.prog wr = _ := fun ty => Lib.run_next_any_at wr w7.heap.size (a0.extract 1 a0.size) pos ty hI.out hlt
                have hwd := width_pos (a0.extract 1 a0.size) pos hlt
                have hA1 : alters (a0.extract 1 a0.size) b (pos + (Utf8.decode (a0.extract 1 a0.size) pos).2) (if (Utf8.decode (a0.extract 1 a0.size) pos).1 = 35 then wrap64 (acc + 1) else if (Utf8.decode (a0.extract 1 a0.size) pos).1 = 98 then wrap64 (acc - 1) else acc) = readAlt a0 := by
                  rw [← hA.out, alters, if_pos hlt]
                have hmu : wr.iterPos w7.heap.size = pos := by simp [World.iterPos, hI.out]
                have hlw := HALL2.out.2.2.2
                have hne : w.heap.size + 1 ≠ w7.heap.size := by omega
                have hne0 : w.heap.size ≠ w7.heap.size := by omega
                generalize hr : (Utf8.decode (a0.extract 1 a0.size) pos).1 = c at hnx hA1
                generalize hr2 : (Utf8.decode (a0.extract 1 a0.size) pos).2 = wd at hnx hA1 hwd
                clear hr hr2
                have hP' := (Lib.iterAt_other wr w7.heap.size (w.heap.size + 1) (a0.extract 1 a0.size) (pos + wd) hne).trans hP.out
                have h2' := (Lib.iterAt_other wr w7.heap.size w.heap.size (a0.extract 1 a0.size) (pos + wd) hne0).trans h2.out
                have hI' := Lib.iterAt_heap wr w7.heap.size (a0.extract 1 a0.size) pos (pos + wd) hI.out
                have hB' := Lib.below_iterAt hB.out (k := w7.heap.size) (by omega) (a0.extract 1 a0.size) (pos + wd)
                have hs' := Lib.iterAt_size wr w7.heap.size (a0.extract 1 a0.size) (pos + wd)
                have cst := (blk_cell hP' 1).trans rfl
                have fst := blk_frozen hP' 1
                have HK := Lib.hid (And.intro hP' (And.intro h2' (And.intro hI' (And.intro hB' hs'))))
                have HMU := Lib.hid hmu
                have HHA := Lib.hid (And.intro hA1 (And.intro hsz.out (And.intro hwd hlt)))
                clear hP' h2' hI' hB' hs' hP h2 hI hB hA hsz hA1 hmu hwd hlt HALL2
                by_cases h35 : c = 35
                · subst h35
                  go_wp2
                  obtain ⟨hP', h2', hI', hB', hs'⟩ := HK.out
                  obtain ⟨hA1, hsz, hwd, hlt⟩ := HHA.out
                  have hI2 := (Below.heap_setCell _ ⟨w.heap.size + 1, 1, none⟩ (.int .i64 (wrap64 (acc + 1))) w7.heap.size (by show w7.heap.size ≠ w.heap.size + 1; omega)).trans hI'
                  go_roundw
                  case rel => exact ⟨pos + wd, b, wrap64 (acc + 1), ⟨hA1⟩, ⟨by omega⟩, ⟨hI2⟩, ⟨blk_put hP' 1 _ rfl⟩, ⟨blk_far h2' (by simp) _⟩, ⟨hB'.setCell (by simp) _⟩, by simp; omega⟩
                  case measure =>
                    rw [HMU.out]
                    simp only [World.iterPos, hI2]
                    omega
                · have h35b : ((c : Int) == 35) = false := beq_eq_false_iff_ne.2 (by omega)
                  have H35 := Lib.hid h35
                  clear h35
                  by_cases h98 : c = 98
                  · subst h98
                    go_wp2
                    obtain ⟨hP', h2', hI', hB', hs'⟩ := HK.out
                    obtain ⟨hA1, hsz, hwd, hlt⟩ := HHA.out
                    have hI2 := (Below.heap_setCell _ ⟨w.heap.size + 1, 1, none⟩ (.int .i64 (wrap64 (acc - 1))) w7.heap.size (by show w7.heap.size ≠ w.heap.size + 1; omega)).trans hI'
                    go_roundw
                    case rel => exact ⟨pos + wd, b, wrap64 (acc - 1), ⟨hA1⟩, ⟨by omega⟩, ⟨hI2⟩, ⟨blk_put hP' 1 _ rfl⟩, ⟨blk_far h2' (by simp) _⟩, ⟨hB'.setCell (by simp) _⟩, by simp; omega⟩
                    case measure =>
                      rw [HMU.out]
                      simp only [World.iterPos, hI2]
                      omega
                  · have h98b : ((c : Int) == 98) = false := beq_eq_false_iff_ne.2 (by omega)
                    have H98 := Lib.hid h98
                    clear h98
                    go_wp2
                    obtain ⟨hP', h2', hI', hB', hs'⟩ := HK.out
                    obtain ⟨hA1, hsz, hwd, hlt⟩ := HHA.out
                    rw [if_neg H35.out, if_neg H98.out] at hA1
                    go_roundw
                    case rel => exact ⟨pos + wd, b, acc, ⟨hA1⟩, ⟨by omega⟩, ⟨hI'⟩, ⟨hP'⟩, ⟨h2'⟩, ⟨hB'⟩, by omega⟩
                    case measure =>
                      rw [HMU.out]
                      simp only [World.iterPos, hI']
                      omega
              · have hA' : acc = readAlt a0 := by rw [← hA.out, alters, if_neg hlt]
                have hnx : ∀ ty, (Instr.next (.pointer (some ⟨w7.heap.size, 0, none⟩)) true ty).run Tryd.prog wr = _ := fun ty => Lib.run_next_end_at wr w7.heap.size (a0.extract 1 a0.size) pos ty hI.out hlt
                subst hA'
                have HF := Lib.hid (And.intro hP.out (And.intro h2.out hB.out))
                have cq0 := (blk_cell hP.out 0).trans rfl
                have cq1 := (blk_cell hP.out 1).trans rfl
                have cq2 := (blk_cell hP.out 2).trans rfl
                obtain ⟨⟨t1, t2⟩, hT, hR⟩ := Option.bind_eq_some_iff.1 hH.out
                rw [show a0.get! 0 = a0[0]'hlt0 from get_at a0 0 hlt0] at hT hR
                have HT := Lib.hid hT
                have HR := Lib.hid hR
                clear hT hR hP h2 hB hI hA hsz HALL2
                by_cases he : t2 = 0
                · subst he
                  by_cases hq : t1 = a0
                  · subst hq
                    have hqb : (t1.toList == t1.toList) = true := beq_self_eq_true _
                    go_wp2_with (go_at_call 18; refine (pitch_Text.calls _ _ _ _ _ _ (GW.step HG.out HF.out.2.2) HT.out).mono ?_; rintro e w8 ⟨rfl, hb8⟩; have p8 := blk_below HF.out.1 hb8; have z8 := blk_below HF.out.2.1 hb8; have B8 := HF.out.2.2.trans (hb8.mono HF.out.2.2.size); have cp0 := (blk_cell p8 0).trans rfl; have cp1 := (blk_cell p8 1).trans rfl; have cp2 := (blk_cell p8 2).trans rfl; have cz0 := (blk_cell z8 0).trans rfl; have cz1 := (blk_cell z8 1).trans rfl; have cz2 := (blk_cell z8 2).trans rfl; have fz0 := blk_frozen z8 0; have fz1 := blk_frozen z8 1; have fz2 := blk_frozen z8 2; have H8 := Lib.hid (And.intro z8 B8); clear hb8 p8 z8 B8)
                    obtain ⟨z8, B8⟩ := H8.out
                    have hres : (r1, r2, r3, r4) = ((stepUpto (t1[0]'hlt0).toNat 7), (readAlt t1), (readOct t1), (0 : Int)) := by have hh := HR.out; simp at hh ⊢; omega
                    obtain ⟨rfl, rfl, rfl, rfl⟩ : r1 = (stepUpto (t1[0]'hlt0).toNat 7) ∧ r2 = (readAlt t1) ∧ r3 = (readOct t1) ∧ r4 = 0 := by simpa using hres
                    have zz := blk_put (blk_put (blk_put z8 0 (.int .i64 (stepUpto (t1[0]'hlt0).toNat 7)) rfl) 1 (.int .i64 (readAlt t1)) rfl) 2 (.int .i64 (readOct t1)) rfl
                    refine bodyPost_ret (results_ct rfl _ _ w.heap.size 23 #[.int .i64 (stepUpto (t1[0]'hlt0).toNat 7), .int .i64 (readAlt t1), .int .i64 (readOct t1)] (0, 0) _ rfl zz Tryd.underlying23 rfl (by kernel_rfl)) rfl ?_
                    exact ⟨rfl, ((B8.setCell (by simp) _).setCell (by simp) _).setCell (by simp) _⟩
                  · have hqb : (t1.toList == a0.toList) = false := beq_eq_false_iff_ne.2 (fun e => hq (same_bytes e))
                    have hqb2 : (t1.toList != a0.toList) = true := bne_iff_ne.2 (fun e => hq (same_bytes e))
                    go_wp2_with (go_at_call 18; refine (pitch_Text.calls _ _ _ _ _ _ (GW.step HG.out HF.out.2.2) HT.out).mono ?_; rintro e w8 ⟨rfl, hb8⟩; have p8 := blk_below HF.out.1 hb8; have z8 := blk_below HF.out.2.1 hb8; have B8 := HF.out.2.2.trans (hb8.mono HF.out.2.2.size); have cp0 := (blk_cell p8 0).trans rfl; have cp1 := (blk_cell p8 1).trans rfl; have cp2 := (blk_cell p8 2).trans rfl; have cz0 := (blk_cell z8 0).trans rfl; have cz1 := (blk_cell z8 1).trans rfl; have cz2 := (blk_cell z8 2).trans rfl; have fz0 := blk_frozen z8 0; have fz1 := blk_frozen z8 1; have fz2 := blk_frozen z8 2; have H8 := Lib.hid (And.intro z8 B8); clear hb8 p8 z8 B8)
                    obtain ⟨z8, B8⟩ := H8.out
                    have hres : (r1, r2, r3, r4) = (0, 0, 0, (21 : Int)) := by have hh := HR.out; simp [hq] at hh ⊢; omega
                    obtain ⟨rfl, rfl, rfl, rfl⟩ : r1 = 0 ∧ r2 = 0 ∧ r3 = 0 ∧ r4 = 21 := by simpa using hres
                    have zz := blk_put (blk_put (blk_put z8 0 (.int .i64 0) rfl) 1 (.int .i64 0) rfl) 2 (.int .i64 0) rfl
                    refine bodyPost_ret (results_ct rfl _ _ w.heap.size 23 #[.int .i64 0, .int .i64 0, .int .i64 0] (0, 0) _ rfl zz Tryd.underlying23 rfl (by kernel_rfl)) rfl ?_
                    exact ⟨rfl, ((B8.setCell (by simp) _).setCell (by simp) _).setCell (by simp) _⟩
                · have heb : (t2 == 0) = false := beq_eq_false_iff_ne.2 he
                  have heb2 : (t2 != 0) = true := bne_iff_ne.2 he
                  go_wp2_with (go_at_call 18; refine (pitch_Text.calls _ _ _ _ _ _ (GW.step HG.out HF.out.2.2) HT.out).mono ?_; rintro e w8 ⟨rfl, hb8⟩; have p8 := blk_below HF.out.1 hb8; have z8 := blk_below HF.out.2.1 hb8; have B8 := HF.out.2.2.trans (hb8.mono HF.out.2.2.size); have cp0 := (blk_cell p8 0).trans rfl; have cp1 := (blk_cell p8 1).trans rfl; have cp2 := (blk_cell p8 2).trans rfl; have cz0 := (blk_cell z8 0).trans rfl; have cz1 := (blk_cell z8 1).trans rfl; have cz2 := (blk_cell z8 2).trans rfl; have fz0 := blk_frozen z8 0; have fz1 := blk_frozen z8 1; have fz2 := blk_frozen z8 2; have H8 := Lib.hid (And.intro z8 B8); clear hb8 p8 z8 B8)
                  obtain ⟨z8, B8⟩ := H8.out
                  have hres : (r1, r2, r3, r4) = (0, 0, 0, (21 : Int)) := by have hh := HR.out; simp [he] at hh ⊢; omega
                  obtain ⟨rfl, rfl, rfl, rfl⟩ : r1 = 0 ∧ r2 = 0 ∧ r3 = 0 ∧ r4 = 21 := by simpa using hres
                  have zz := blk_put (blk_put (blk_put z8 0 (.int .i64 0) rfl) 1 (.int .i64 0) rfl) 2 (.int .i64 0) rfl
                  refine bodyPost_ret (results_ct rfl _ _ w.heap.size 23 #[.int .i64 0, .int .i64 0, .int .i64 0] (0, 0) _ rfl zz Tryd.underlying23 rfl (by kernel_rfl)) rfl ?_
                  exact ⟨rfl, ((B8.setCell (by simp) _).setCell (by simp) _).setCell (by simp) _⟩
    · rw [if_neg hs] at h; cases h
end Go.Proofs.YtnpinngdiipogaaDoor.M
