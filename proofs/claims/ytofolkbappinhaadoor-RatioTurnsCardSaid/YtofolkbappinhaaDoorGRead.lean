/- ratio.Read, in the print's form: the numbers ahead of the first slash and behind it, if the text is the text of their ratio. -/
import Derived.Lib.Hide
import Derived.Outline
import Derived.Lib.OthersKept
import Derived.Test.YtofolkbappinhaaDoorGAtoi
import Derived.Test.YtofolkbappinhaaDoorM11
set_option linter.unusedSimpArgs false
set_option linter.unusedVariables false
namespace Go.Proofs.YtofolkbappinhaaDoor.M
open Go.RowKit Go.Proofs.YtofolkbappinhaaDoorW.PrintWords Go.Proofs.YtofolkbappinhaaDoorW.PrintLast Go.Proofs.YtofolkbappinhaaDoorW.PrintMore

/-- the two numbers of a text, and whether both are such -/
def readTwo (s : ByteArray) : Int × Int × Bool :=
  if (readCut s).2.2 = true ∧ (readNum (readCut s).1).2 = true then ((readNum (readCut s).1).1, (readNum (readCut s).2.1).1, (readNum (readCut s).2.1).2) else ((readNum (readCut s).1).1, 1, (readNum (readCut s).1).2)
def ratio_Read.f (k : Nat) (s : ByteArray) : Option (Int × Int × Int) :=
  if s.size ≤ 1000000000 then (ratio_Text.f k (readTwo s).1 (readTwo s).2.1).bind fun t => some (if (readTwo s).2.2 = true ∧ t.2 = 0 ∧ t.1 = s then ((readTwo s).1, (readTwo s).2.1, 0) else (0, 0, 12)) else none
theorem ratio_Read.mono : ∀ a0 k, LeO (ratio_Read.f k a0) (ratio_Read.f (k + 1) a0) := by
  intro a0 k
  unfold ratio_Read.f
  split
  · exact LeO.bind (ratio_Text.mono _ _ _) (fun _ => LeO.refl _)
  · exact LeO.refl _
theorem same_bytes {a b : ByteArray} (h : a.toList = b.toList) : a = b := by
  rw [ByteArray.toList_eq, ByteArray.toList_eq] at h
  obtain ⟨⟨x⟩⟩ := a
  obtain ⟨⟨y⟩⟩ := b
  obtain rfl : x = y := h
  rfl

set_option maxRecDepth 100000 in
set_option maxHeartbeats 8000000 in
theorem ratio_Read.calls (k : Nat) (a0 : ByteArray) (r1 r2 r3 : Int) (w : World) (hG_ : GW w) (h : ratio_Read.f k a0 = some (r1, r2, r3)) : Calls Tryd.prog 14 #[.string a0] w fun e w' => e = .returned (.tuple #[.agg #[.int .i64 r1, .int .i64 r2], .int .i64 r3]) ∧ Below w.heap.size w w' := by
  have HG := Lib.hid hG_
  clear hG_
  unfold ratio_Read.f at h
  by_cases hs : a0.size ≤ 1000000000
  · rw [if_pos hs] at h
    have hB2 : Below w.heap.size w (w.alloc (.cells #[.int .i64 0, .int .i64 0] 23)) := (Below.refl _ w).alloc (Nat.le_refl _) _
    have b2 := blk_new w (.cells #[.int .i64 0, .int .i64 0] 23)
    have HB := Lib.hid (And.intro hB2 b2)
    clear hB2 b2
    obtain ⟨c1, c2, sl, hC, hz1, hz2⟩ := cut_parts a0 hs
    have hz1 : c1.size ≤ 281474976710656 := by omega
    have hz2 : c2.size ≤ 281474976710656 := by omega
    have e1 : (readCut a0).1 = c1.data.toList := by rw [hC]
    have e2 : (readCut a0).2.1 = c2.data.toList := by rw [hC]
    have e3 : (readCut a0).2.2 = sl := by rw [hC]
    unfold readTwo at h
    rw [e1, e2, e3] at h
    have HC := Lib.hid hC
    clear hC e1 e2 e3
    obtain ⟨n1, ok1, hn1⟩ : ∃ n1 ok1, readNum c1.data.toList = (n1, ok1) := ⟨_, _, rfl⟩
    obtain ⟨n2, ok2, hn2⟩ : ∃ n2 ok2, readNum c2.data.toList = (n2, ok2) := ⟨_, _, rfl⟩
    rw [hn1, hn2] at h
    have H1 := Lib.hid hn1
    have H2 := Lib.hid hn2
    clear hn1 hn2
    cases sl with
    | true =>
      cases ok1 with
      | true =>
        rw [if_pos (by simp)] at h
        obtain ⟨⟨t1, t2⟩, hT, hR⟩ := Option.bind_eq_some_iff.1 h
        cases ok2 with
        | true =>
          have HT := Lib.hid hT
          have HR := Lib.hid hR
          clear h hT hR
          by_cases he : t2 = 0
          · have heb : (t2 == 0) = true := beq_iff_eq.2 he
            have heb2 : (t2 != 0) = false := bne_eq_false_iff_eq.2 he
            have HE := Lib.hid he
            clear he
            by_cases hq : t1 = a0
            · have hqb : (t1.toList == a0.toList) = true := beq_iff_eq.2 (by rw [hq])
              have hqb2 : (t1.toList != a0.toList) = false := bne_eq_false_iff_eq.2 (by rw [hq])
              have HQ := Lib.hid hq
              clear hq
              go_enter Tryd.func14, Tryd.ntmps14
              go_wp2_with (first | (go_at_call 31; refine (cut_any a0 hs c1 c2 true HC.out _ (GW.step HG.out HB.out.1)).mono ?_; rintro e w1 ⟨rfl, hb⟩; have n1_ := Lib.hid (And.intro (HB.out.1.trans (hb.mono HB.out.1.size)) (blk_below HB.out.2 hb)); clear hb HB; have HB := n1_; clear n1_) | (go_at_call 32; refine (atoi_ok' c1 n1 hz1 _ H1.out).mono ?_; rintro e w2 ⟨rfl, hb⟩; have n1_ := Lib.hid (And.intro (HB.out.1.trans (hb.mono HB.out.1.size)) (blk_below HB.out.2 hb)); clear hb HB H1; have HB := n1_; clear n1_) | (go_at_call 32; refine (atoi_ok' c2 n2 hz2 _ H2.out).mono ?_; rintro e w2 ⟨rfl, hb⟩; have n1_ := Lib.hid (And.intro (HB.out.1.trans (hb.mono HB.out.1.size)) (blk_below HB.out.2 hb)); clear hb HB H2; have HB := n1_; clear n1_))
              have HB3 := Lib.hid (And.intro (HB.out.1.alloc HB.out.1.size (.cells #[.int .i64 n1, .int .i64 n2] 23)) (And.intro (blk_alloc HB.out.2 (.cells #[.int .i64 n1, .int .i64 n2] 23)) (blk_new w2 (.cells #[.int .i64 n1, .int .i64 n2] 23))))
              refine (ratio_Text.calls k n1 n2 t1 t2 _ (GW.step HG.out HB3.out.1) HT.out).mono ?_
              rintro e w3 ⟨rfl, hb⟩
              have z8 := blk_below HB3.out.2.1 hb
              have p8 := blk_below HB3.out.2.2 hb
              have B8 := HB3.out.1.trans (hb.mono HB3.out.1.size)
              have cp0 := (blk_cell p8 0).trans rfl
              have cz0 := (blk_cell z8 0).trans rfl
              have fz0 := blk_frozen z8 0
              have cp1 := (blk_cell p8 1).trans rfl
              have cz1 := (blk_cell z8 1).trans rfl
              have fz1 := blk_frozen z8 1
              have H8 := Lib.hid (And.intro z8 B8)
              clear hb p8 z8 B8
              go_wp2_with (fail)
              obtain ⟨z8, B8⟩ := H8.out
              obtain ⟨rfl, rfl, rfl⟩ : r1 = n1 ∧ r2 = n2 ∧ r3 = 0 := by have hh := HR.out; rw [if_pos ⟨by simp, HE.out, HQ.out⟩] at hh; simp at hh; omega
              have zz := blk_put (blk_put z8 0 (.int .i64 r1) rfl) 1 (.int .i64 r2) rfl
              refine bodyPost_ret (results_ct rfl _ _ w.heap.size 23 #[.int .i64 r1, .int .i64 r2] (0, 0) _ rfl zz Tryd.underlying23 rfl (by kernel_rfl)) rfl ?_
              exact ⟨rfl, (B8.setCell (by simp) _).setCell (by simp) _⟩
            · have hqb : (t1.toList == a0.toList) = false := beq_eq_false_iff_ne.2 (fun e => hq (same_bytes e))
              have hqb2 : (t1.toList != a0.toList) = true := bne_iff_ne.2 (fun e => hq (same_bytes e))
              have HQ := Lib.hid hq
              clear hq
              go_enter Tryd.func14, Tryd.ntmps14
              go_wp2_with (first | (go_at_call 31; refine (cut_any a0 hs c1 c2 true HC.out _ (GW.step HG.out HB.out.1)).mono ?_; rintro e w1 ⟨rfl, hb⟩; have n1_ := Lib.hid (And.intro (HB.out.1.trans (hb.mono HB.out.1.size)) (blk_below HB.out.2 hb)); clear hb HB; have HB := n1_; clear n1_) | (go_at_call 32; refine (atoi_ok' c1 n1 hz1 _ H1.out).mono ?_; rintro e w2 ⟨rfl, hb⟩; have n1_ := Lib.hid (And.intro (HB.out.1.trans (hb.mono HB.out.1.size)) (blk_below HB.out.2 hb)); clear hb HB H1; have HB := n1_; clear n1_) | (go_at_call 32; refine (atoi_ok' c2 n2 hz2 _ H2.out).mono ?_; rintro e w2 ⟨rfl, hb⟩; have n1_ := Lib.hid (And.intro (HB.out.1.trans (hb.mono HB.out.1.size)) (blk_below HB.out.2 hb)); clear hb HB H2; have HB := n1_; clear n1_))
              have HB3 := Lib.hid (And.intro (HB.out.1.alloc HB.out.1.size (.cells #[.int .i64 n1, .int .i64 n2] 23)) (And.intro (blk_alloc HB.out.2 (.cells #[.int .i64 n1, .int .i64 n2] 23)) (blk_new w2 (.cells #[.int .i64 n1, .int .i64 n2] 23))))
              refine (ratio_Text.calls k n1 n2 t1 t2 _ (GW.step HG.out HB3.out.1) HT.out).mono ?_
              rintro e w3 ⟨rfl, hb⟩
              have z8 := blk_below HB3.out.2.1 hb
              have p8 := blk_below HB3.out.2.2 hb
              have B8 := HB3.out.1.trans (hb.mono HB3.out.1.size)
              have cp0 := (blk_cell p8 0).trans rfl
              have cz0 := (blk_cell z8 0).trans rfl
              have fz0 := blk_frozen z8 0
              have cp1 := (blk_cell p8 1).trans rfl
              have cz1 := (blk_cell z8 1).trans rfl
              have fz1 := blk_frozen z8 1
              have H8 := Lib.hid (And.intro z8 B8)
              clear hb p8 z8 B8
              go_wp2_with (fail)
              obtain ⟨z8, B8⟩ := H8.out
              obtain ⟨rfl, rfl, rfl⟩ : r1 = 0 ∧ r2 = 0 ∧ r3 = 12 := by have hh := HR.out; rw [if_neg (fun h => HQ.out h.2.2)] at hh; simp at hh; omega
              have zz := blk_put (blk_put z8 0 (.int .i64 0) rfl) 1 (.int .i64 0) rfl
              refine bodyPost_ret (results_ct rfl _ _ w.heap.size 23 #[.int .i64 0, .int .i64 0] (0, 0) _ rfl zz Tryd.underlying23 rfl (by kernel_rfl)) rfl ?_
              exact ⟨rfl, (B8.setCell (by simp) _).setCell (by simp) _⟩
          · have heb : (t2 == 0) = false := beq_eq_false_iff_ne.2 he
            have heb2 : (t2 != 0) = true := bne_iff_ne.2 he
            have HE := Lib.hid he
            clear he
            go_enter Tryd.func14, Tryd.ntmps14
            go_wp2_with (first | (go_at_call 31; refine (cut_any a0 hs c1 c2 true HC.out _ (GW.step HG.out HB.out.1)).mono ?_; rintro e w1 ⟨rfl, hb⟩; have n1_ := Lib.hid (And.intro (HB.out.1.trans (hb.mono HB.out.1.size)) (blk_below HB.out.2 hb)); clear hb HB; have HB := n1_; clear n1_) | (go_at_call 32; refine (atoi_ok' c1 n1 hz1 _ H1.out).mono ?_; rintro e w2 ⟨rfl, hb⟩; have n1_ := Lib.hid (And.intro (HB.out.1.trans (hb.mono HB.out.1.size)) (blk_below HB.out.2 hb)); clear hb HB H1; have HB := n1_; clear n1_) | (go_at_call 32; refine (atoi_ok' c2 n2 hz2 _ H2.out).mono ?_; rintro e w2 ⟨rfl, hb⟩; have n1_ := Lib.hid (And.intro (HB.out.1.trans (hb.mono HB.out.1.size)) (blk_below HB.out.2 hb)); clear hb HB H2; have HB := n1_; clear n1_))
            have HB3 := Lib.hid (And.intro (HB.out.1.alloc HB.out.1.size (.cells #[.int .i64 n1, .int .i64 n2] 23)) (And.intro (blk_alloc HB.out.2 (.cells #[.int .i64 n1, .int .i64 n2] 23)) (blk_new w2 (.cells #[.int .i64 n1, .int .i64 n2] 23))))
            refine (ratio_Text.calls k n1 n2 t1 t2 _ (GW.step HG.out HB3.out.1) HT.out).mono ?_
            rintro e w3 ⟨rfl, hb⟩
            have z8 := blk_below HB3.out.2.1 hb
            have p8 := blk_below HB3.out.2.2 hb
            have B8 := HB3.out.1.trans (hb.mono HB3.out.1.size)
            have cp0 := (blk_cell p8 0).trans rfl
            have cz0 := (blk_cell z8 0).trans rfl
            have fz0 := blk_frozen z8 0
            have cp1 := (blk_cell p8 1).trans rfl
            have cz1 := (blk_cell z8 1).trans rfl
            have fz1 := blk_frozen z8 1
            have H8 := Lib.hid (And.intro z8 B8)
            clear hb p8 z8 B8
            go_wp2_with (fail)
            obtain ⟨z8, B8⟩ := H8.out
            obtain ⟨rfl, rfl, rfl⟩ : r1 = 0 ∧ r2 = 0 ∧ r3 = 12 := by have hh := HR.out; rw [if_neg (fun h => HE.out h.2.1)] at hh; simp at hh; omega
            have zz := blk_put (blk_put z8 0 (.int .i64 0) rfl) 1 (.int .i64 0) rfl
            refine bodyPost_ret (results_ct rfl _ _ w.heap.size 23 #[.int .i64 0, .int .i64 0] (0, 0) _ rfl zz Tryd.underlying23 rfl (by kernel_rfl)) rfl ?_
            exact ⟨rfl, (B8.setCell (by simp) _).setCell (by simp) _⟩
        | false =>
          have HT := Lib.hid hT
          have HR := Lib.hid hR
          clear h hT hR
          go_enter Tryd.func14, Tryd.ntmps14
          go_wp2_with (first | (go_at_call 31; refine (cut_any a0 hs c1 c2 true HC.out _ (GW.step HG.out HB.out.1)).mono ?_; rintro e w1 ⟨rfl, hb⟩; have n1_ := Lib.hid (And.intro (HB.out.1.trans (hb.mono HB.out.1.size)) (blk_below HB.out.2 hb)); clear hb HB; have HB := n1_; clear n1_) | (go_at_call 32; refine (atoi_ok' c1 n1 hz1 _ H1.out).mono ?_; rintro e w2 ⟨rfl, hb⟩; have n1_ := Lib.hid (And.intro (HB.out.1.trans (hb.mono HB.out.1.size)) (blk_below HB.out.2 hb)); clear hb HB H1; have HB := n1_; clear n1_) | (go_at_call 32; refine (atoi_no' c2 n2 hz2 _ (GW.step HG.out HB.out.1) H2.out).mono ?_; rintro e w2 ⟨⟨Nc2, rfl⟩, hb⟩; have n1_ := Lib.hid (And.intro (HB.out.1.trans (hb.mono HB.out.1.size)) (blk_below HB.out.2 hb)); clear hb HB H2; have HB := n1_; clear n1_))
          have HB3 := Lib.hid (And.intro (HB.out.1.alloc HB.out.1.size (.cells #[.int .i64 n1, .int .i64 n2] 23)) (And.intro (blk_alloc HB.out.2 (.cells #[.int .i64 n1, .int .i64 n2] 23)) (blk_new w2 (.cells #[.int .i64 n1, .int .i64 n2] 23))))
          refine (ratio_Text.calls k n1 n2 t1 t2 _ (GW.step HG.out HB3.out.1) HT.out).mono ?_
          rintro e w3 ⟨rfl, hb⟩
          have z8 := blk_below HB3.out.2.1 hb
          have p8 := blk_below HB3.out.2.2 hb
          have B8 := HB3.out.1.trans (hb.mono HB3.out.1.size)
          have cp0 := (blk_cell p8 0).trans rfl
          have cz0 := (blk_cell z8 0).trans rfl
          have fz0 := blk_frozen z8 0
          have cp1 := (blk_cell p8 1).trans rfl
          have cz1 := (blk_cell z8 1).trans rfl
          have fz1 := blk_frozen z8 1
          have H8 := Lib.hid (And.intro z8 B8)
          clear hb p8 z8 B8
          go_wp2_with (fail)
          obtain ⟨z8, B8⟩ := H8.out
          obtain ⟨rfl, rfl, rfl⟩ : r1 = 0 ∧ r2 = 0 ∧ r3 = 12 := by have hh := HR.out; rw [if_neg (fun h => absurd h.1 (by simp))] at hh; simp at hh; omega
          have zz := blk_put (blk_put z8 0 (.int .i64 0) rfl) 1 (.int .i64 0) rfl
          refine bodyPost_ret (results_ct rfl _ _ w.heap.size 23 #[.int .i64 0, .int .i64 0] (0, 0) _ rfl zz Tryd.underlying23 rfl (by kernel_rfl)) rfl ?_
          exact ⟨rfl, (B8.setCell (by simp) _).setCell (by simp) _⟩
      | false =>
        rw [if_neg (by simp)] at h
        obtain ⟨⟨t1, t2⟩, hT, hR⟩ := Option.bind_eq_some_iff.1 h
        have HT := Lib.hid hT
        have HR := Lib.hid hR
        clear h hT hR
        go_enter Tryd.func14, Tryd.ntmps14
        go_wp2_with (first | (go_at_call 31; refine (cut_any a0 hs c1 c2 true HC.out _ (GW.step HG.out HB.out.1)).mono ?_; rintro e w1 ⟨rfl, hb⟩; have n1_ := Lib.hid (And.intro (HB.out.1.trans (hb.mono HB.out.1.size)) (blk_below HB.out.2 hb)); clear hb HB; have HB := n1_; clear n1_) | (go_at_call 32; refine (atoi_no' c1 n1 hz1 _ (GW.step HG.out HB.out.1) H1.out).mono ?_; rintro e w2 ⟨⟨Nc1, rfl⟩, hb⟩; have n1_ := Lib.hid (And.intro (HB.out.1.trans (hb.mono HB.out.1.size)) (blk_below HB.out.2 hb)); clear hb HB H1; have HB := n1_; clear n1_))
        have HB3 := Lib.hid (And.intro (HB.out.1.alloc HB.out.1.size (.cells #[.int .i64 n1, .int .i64 1] 23)) (And.intro (blk_alloc HB.out.2 (.cells #[.int .i64 n1, .int .i64 1] 23)) (blk_new w2 (.cells #[.int .i64 n1, .int .i64 1] 23))))
        refine (ratio_Text.calls k n1 1 t1 t2 _ (GW.step HG.out HB3.out.1) HT.out).mono ?_
        rintro e w3 ⟨rfl, hb⟩
        have z8 := blk_below HB3.out.2.1 hb
        have p8 := blk_below HB3.out.2.2 hb
        have B8 := HB3.out.1.trans (hb.mono HB3.out.1.size)
        have cp0 := (blk_cell p8 0).trans rfl
        have cz0 := (blk_cell z8 0).trans rfl
        have fz0 := blk_frozen z8 0
        have cp1 := (blk_cell p8 1).trans rfl
        have cz1 := (blk_cell z8 1).trans rfl
        have fz1 := blk_frozen z8 1
        have H8 := Lib.hid (And.intro z8 B8)
        clear hb p8 z8 B8
        go_wp2_with (fail)
        obtain ⟨z8, B8⟩ := H8.out
        obtain ⟨rfl, rfl, rfl⟩ : r1 = 0 ∧ r2 = 0 ∧ r3 = 12 := by have hh := HR.out; rw [if_neg (fun h => absurd h.1 (by simp))] at hh; simp at hh; omega
        have zz := blk_put (blk_put z8 0 (.int .i64 0) rfl) 1 (.int .i64 0) rfl
        refine bodyPost_ret (results_ct rfl _ _ w.heap.size 23 #[.int .i64 0, .int .i64 0] (0, 0) _ rfl zz Tryd.underlying23 rfl (by kernel_rfl)) rfl ?_
        exact ⟨rfl, (B8.setCell (by simp) _).setCell (by simp) _⟩
    | false =>
      cases ok1 with
      | true =>
        rw [if_neg (by simp)] at h
        obtain ⟨⟨t1, t2⟩, hT, hR⟩ := Option.bind_eq_some_iff.1 h
        have HT := Lib.hid hT
        have HR := Lib.hid hR
        clear h hT hR
        by_cases he : t2 = 0
        · have heb : (t2 == 0) = true := beq_iff_eq.2 he
          have heb2 : (t2 != 0) = false := bne_eq_false_iff_eq.2 he
          have HE := Lib.hid he
          clear he
          by_cases hq : t1 = a0
          · have hqb : (t1.toList == a0.toList) = true := beq_iff_eq.2 (by rw [hq])
            have hqb2 : (t1.toList != a0.toList) = false := bne_eq_false_iff_eq.2 (by rw [hq])
            have HQ := Lib.hid hq
            clear hq
            go_enter Tryd.func14, Tryd.ntmps14
            go_wp2_with (first | (go_at_call 31; refine (cut_any a0 hs c1 c2 false HC.out _ (GW.step HG.out HB.out.1)).mono ?_; rintro e w1 ⟨rfl, hb⟩; have n1_ := Lib.hid (And.intro (HB.out.1.trans (hb.mono HB.out.1.size)) (blk_below HB.out.2 hb)); clear hb HB; have HB := n1_; clear n1_) | (go_at_call 32; refine (atoi_ok' c1 n1 hz1 _ H1.out).mono ?_; rintro e w2 ⟨rfl, hb⟩; have n1_ := Lib.hid (And.intro (HB.out.1.trans (hb.mono HB.out.1.size)) (blk_below HB.out.2 hb)); clear hb HB H1; have HB := n1_; clear n1_))
            have HB3 := Lib.hid (And.intro (HB.out.1.alloc HB.out.1.size (.cells #[.int .i64 n1, .int .i64 1] 23)) (And.intro (blk_alloc HB.out.2 (.cells #[.int .i64 n1, .int .i64 1] 23)) (blk_new w2 (.cells #[.int .i64 n1, .int .i64 1] 23))))
            refine (ratio_Text.calls k n1 1 t1 t2 _ (GW.step HG.out HB3.out.1) HT.out).mono ?_
            rintro e w3 ⟨rfl, hb⟩
            have z8 := blk_below HB3.out.2.1 hb
            have p8 := blk_below HB3.out.2.2 hb
            have B8 := HB3.out.1.trans (hb.mono HB3.out.1.size)
            have cp0 := (blk_cell p8 0).trans rfl
            have cz0 := (blk_cell z8 0).trans rfl
            have fz0 := blk_frozen z8 0
            have cp1 := (blk_cell p8 1).trans rfl
            have cz1 := (blk_cell z8 1).trans rfl
            have fz1 := blk_frozen z8 1
            have H8 := Lib.hid (And.intro z8 B8)
            clear hb p8 z8 B8
            go_wp2_with (fail)
            obtain ⟨z8, B8⟩ := H8.out
            obtain ⟨rfl, rfl, rfl⟩ : r1 = n1 ∧ r2 = 1 ∧ r3 = 0 := by have hh := HR.out; rw [if_pos ⟨by simp, HE.out, HQ.out⟩] at hh; simp at hh; omega
            have zz := blk_put (blk_put z8 0 (.int .i64 r1) rfl) 1 (.int .i64 1) rfl
            refine bodyPost_ret (results_ct rfl _ _ w.heap.size 23 #[.int .i64 r1, .int .i64 1] (0, 0) _ rfl zz Tryd.underlying23 rfl (by kernel_rfl)) rfl ?_
            exact ⟨rfl, (B8.setCell (by simp) _).setCell (by simp) _⟩
          · have hqb : (t1.toList == a0.toList) = false := beq_eq_false_iff_ne.2 (fun e => hq (same_bytes e))
            have hqb2 : (t1.toList != a0.toList) = true := bne_iff_ne.2 (fun e => hq (same_bytes e))
            have HQ := Lib.hid hq
            clear hq
            go_enter Tryd.func14, Tryd.ntmps14
            go_wp2_with (first | (go_at_call 31; refine (cut_any a0 hs c1 c2 false HC.out _ (GW.step HG.out HB.out.1)).mono ?_; rintro e w1 ⟨rfl, hb⟩; have n1_ := Lib.hid (And.intro (HB.out.1.trans (hb.mono HB.out.1.size)) (blk_below HB.out.2 hb)); clear hb HB; have HB := n1_; clear n1_) | (go_at_call 32; refine (atoi_ok' c1 n1 hz1 _ H1.out).mono ?_; rintro e w2 ⟨rfl, hb⟩; have n1_ := Lib.hid (And.intro (HB.out.1.trans (hb.mono HB.out.1.size)) (blk_below HB.out.2 hb)); clear hb HB H1; have HB := n1_; clear n1_))
            have HB3 := Lib.hid (And.intro (HB.out.1.alloc HB.out.1.size (.cells #[.int .i64 n1, .int .i64 1] 23)) (And.intro (blk_alloc HB.out.2 (.cells #[.int .i64 n1, .int .i64 1] 23)) (blk_new w2 (.cells #[.int .i64 n1, .int .i64 1] 23))))
            refine (ratio_Text.calls k n1 1 t1 t2 _ (GW.step HG.out HB3.out.1) HT.out).mono ?_
            rintro e w3 ⟨rfl, hb⟩
            have z8 := blk_below HB3.out.2.1 hb
            have p8 := blk_below HB3.out.2.2 hb
            have B8 := HB3.out.1.trans (hb.mono HB3.out.1.size)
            have cp0 := (blk_cell p8 0).trans rfl
            have cz0 := (blk_cell z8 0).trans rfl
            have fz0 := blk_frozen z8 0
            have cp1 := (blk_cell p8 1).trans rfl
            have cz1 := (blk_cell z8 1).trans rfl
            have fz1 := blk_frozen z8 1
            have H8 := Lib.hid (And.intro z8 B8)
            clear hb p8 z8 B8
            go_wp2_with (fail)
            obtain ⟨z8, B8⟩ := H8.out
            obtain ⟨rfl, rfl, rfl⟩ : r1 = 0 ∧ r2 = 0 ∧ r3 = 12 := by have hh := HR.out; rw [if_neg (fun h => HQ.out h.2.2)] at hh; simp at hh; omega
            have zz := blk_put (blk_put z8 0 (.int .i64 0) rfl) 1 (.int .i64 0) rfl
            refine bodyPost_ret (results_ct rfl _ _ w.heap.size 23 #[.int .i64 0, .int .i64 0] (0, 0) _ rfl zz Tryd.underlying23 rfl (by kernel_rfl)) rfl ?_
            exact ⟨rfl, (B8.setCell (by simp) _).setCell (by simp) _⟩
        · have heb : (t2 == 0) = false := beq_eq_false_iff_ne.2 he
          have heb2 : (t2 != 0) = true := bne_iff_ne.2 he
          have HE := Lib.hid he
          clear he
          go_enter Tryd.func14, Tryd.ntmps14
          go_wp2_with (first | (go_at_call 31; refine (cut_any a0 hs c1 c2 false HC.out _ (GW.step HG.out HB.out.1)).mono ?_; rintro e w1 ⟨rfl, hb⟩; have n1_ := Lib.hid (And.intro (HB.out.1.trans (hb.mono HB.out.1.size)) (blk_below HB.out.2 hb)); clear hb HB; have HB := n1_; clear n1_) | (go_at_call 32; refine (atoi_ok' c1 n1 hz1 _ H1.out).mono ?_; rintro e w2 ⟨rfl, hb⟩; have n1_ := Lib.hid (And.intro (HB.out.1.trans (hb.mono HB.out.1.size)) (blk_below HB.out.2 hb)); clear hb HB H1; have HB := n1_; clear n1_))
          have HB3 := Lib.hid (And.intro (HB.out.1.alloc HB.out.1.size (.cells #[.int .i64 n1, .int .i64 1] 23)) (And.intro (blk_alloc HB.out.2 (.cells #[.int .i64 n1, .int .i64 1] 23)) (blk_new w2 (.cells #[.int .i64 n1, .int .i64 1] 23))))
          refine (ratio_Text.calls k n1 1 t1 t2 _ (GW.step HG.out HB3.out.1) HT.out).mono ?_
          rintro e w3 ⟨rfl, hb⟩
          have z8 := blk_below HB3.out.2.1 hb
          have p8 := blk_below HB3.out.2.2 hb
          have B8 := HB3.out.1.trans (hb.mono HB3.out.1.size)
          have cp0 := (blk_cell p8 0).trans rfl
          have cz0 := (blk_cell z8 0).trans rfl
          have fz0 := blk_frozen z8 0
          have cp1 := (blk_cell p8 1).trans rfl
          have cz1 := (blk_cell z8 1).trans rfl
          have fz1 := blk_frozen z8 1
          have H8 := Lib.hid (And.intro z8 B8)
          clear hb p8 z8 B8
          go_wp2_with (fail)
          obtain ⟨z8, B8⟩ := H8.out
          obtain ⟨rfl, rfl, rfl⟩ : r1 = 0 ∧ r2 = 0 ∧ r3 = 12 := by have hh := HR.out; rw [if_neg (fun h => HE.out h.2.1)] at hh; simp at hh; omega
          have zz := blk_put (blk_put z8 0 (.int .i64 0) rfl) 1 (.int .i64 0) rfl
          refine bodyPost_ret (results_ct rfl _ _ w.heap.size 23 #[.int .i64 0, .int .i64 0] (0, 0) _ rfl zz Tryd.underlying23 rfl (by kernel_rfl)) rfl ?_
          exact ⟨rfl, (B8.setCell (by simp) _).setCell (by simp) _⟩
      | false =>
        rw [if_neg (by simp)] at h
        obtain ⟨⟨t1, t2⟩, hT, hR⟩ := Option.bind_eq_some_iff.1 h
        have HT := Lib.hid hT
        have HR := Lib.hid hR
        clear h hT hR
        go_enter Tryd.func14, Tryd.ntmps14
        go_wp2_with (first | (go_at_call 31; refine (cut_any a0 hs c1 c2 false HC.out _ (GW.step HG.out HB.out.1)).mono ?_; rintro e w1 ⟨rfl, hb⟩; have n1_ := Lib.hid (And.intro (HB.out.1.trans (hb.mono HB.out.1.size)) (blk_below HB.out.2 hb)); clear hb HB; have HB := n1_; clear n1_) | (go_at_call 32; refine (atoi_no' c1 n1 hz1 _ (GW.step HG.out HB.out.1) H1.out).mono ?_; rintro e w2 ⟨⟨Nc1, rfl⟩, hb⟩; have n1_ := Lib.hid (And.intro (HB.out.1.trans (hb.mono HB.out.1.size)) (blk_below HB.out.2 hb)); clear hb HB H1; have HB := n1_; clear n1_))
        have HB3 := Lib.hid (And.intro (HB.out.1.alloc HB.out.1.size (.cells #[.int .i64 n1, .int .i64 1] 23)) (And.intro (blk_alloc HB.out.2 (.cells #[.int .i64 n1, .int .i64 1] 23)) (blk_new w2 (.cells #[.int .i64 n1, .int .i64 1] 23))))
        refine (ratio_Text.calls k n1 1 t1 t2 _ (GW.step HG.out HB3.out.1) HT.out).mono ?_
        rintro e w3 ⟨rfl, hb⟩
        have z8 := blk_below HB3.out.2.1 hb
        have p8 := blk_below HB3.out.2.2 hb
        have B8 := HB3.out.1.trans (hb.mono HB3.out.1.size)
        have cp0 := (blk_cell p8 0).trans rfl
        have cz0 := (blk_cell z8 0).trans rfl
        have fz0 := blk_frozen z8 0
        have cp1 := (blk_cell p8 1).trans rfl
        have cz1 := (blk_cell z8 1).trans rfl
        have fz1 := blk_frozen z8 1
        have H8 := Lib.hid (And.intro z8 B8)
        clear hb p8 z8 B8
        go_wp2_with (fail)
        obtain ⟨z8, B8⟩ := H8.out
        obtain ⟨rfl, rfl, rfl⟩ : r1 = 0 ∧ r2 = 0 ∧ r3 = 12 := by have hh := HR.out; rw [if_neg (fun h => absurd h.1 (by simp))] at hh; simp at hh; omega
        have zz := blk_put (blk_put z8 0 (.int .i64 0) rfl) 1 (.int .i64 0) rfl
        refine bodyPost_ret (results_ct rfl _ _ w.heap.size 23 #[.int .i64 0, .int .i64 0] (0, 0) _ rfl zz Tryd.underlying23 rfl (by kernel_rfl)) rfl ?_
        exact ⟨rfl, (B8.setCell (by simp) _).setCell (by simp) _⟩
  · rw [if_neg hs] at h; cases h
end Go.Proofs.YtofolkbappinhaaDoor.M
