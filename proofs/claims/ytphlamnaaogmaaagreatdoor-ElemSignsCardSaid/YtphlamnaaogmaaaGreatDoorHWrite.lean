import Derived.Test.YtphlamnaaogmaaaGreatDoorHBuilder
import Derived.Lib.AppendStr
import Derived.Lib.UnsafeStr
import Derived.OwnWalk
import Derived.Lib.AppendZeros
namespace Go.Proofs.YtphlamnaaogmaaaGreatDoor.M
open Go.RowKit Go.Proofs.Qx
set_option linter.unusedVariables false
set_option linter.unusedSimpArgs false

theorem setC_heap {w : World} {g p : Nat} {v : Value} {cur : Array Value} {e : TypeId} (h : w.heap[g]? = some (.cells cur e (0, 0))) : (w.setCell ⟨g, p, none⟩ v).heap[g]? = some (.cells (cur.setIfInBounds p v) e (0, 0)) := by
  unfold World.setCell
  simp [Array.getElem?_modify, h]
theorem setC_other {w : World} {g p k : Nat} {v : Value} (h : k ≠ g) : (w.setCell ⟨g, p, none⟩ v).heap[k]? = w.heap[k]? := by
  unfold World.setCell
  simp only [Array.getElem?_modify]
  rw [if_neg (fun e => h e.symm)]
theorem setC_size {w : World} {g p : Nat} {v : Value} : (w.setCell ⟨g, p, none⟩ v).heap.size = w.heap.size := by
  unfold World.setCell; simp
theorem setC_os {w : World} {a : Addr} {v : Value} : (w.setCell a v).os = w.os ∧ (w.setCell a v).tape = w.tape ∧ (w.setCell a v).output = w.output := by unfold World.setCell; exact ⟨rfl, rfl, rfl⟩

theorem copyCheck_any (b : Nat) (w : World) (p buf : Value) (hab : w.heap[b]? = some (.cells #[p, buf] 59 (0, 0))) (hp : p = .pointer none ∨ p = .pointer (some ⟨b, 0, none⟩)) :
    Calls Tryz.prog 45 #[.pointer (some ⟨b, 0, none⟩)] w fun e w' => e = .returned (.tuple #[]) ∧ w'.heap[b]? = some (.cells #[.pointer (some ⟨b, 0, none⟩), buf] 59 (0, 0)) ∧
      (∀ g, g ≠ b → w'.heap[g]? = w.heap[g]?) ∧ w'.heap.size = w.heap.size ∧ w'.os = w.os ∧ w'.tape = w.tape ∧ w'.output = w.output := by
  rcases hp with rfl | rfl
  · refine (copyCheck_fresh b w (by simp [World.cell?, hab]) (by simp [World.shape?, hab]) (by simp [World.frozen?, hab])).mono ?_
    rintro e w' ⟨rfl, rfl⟩
    exact ⟨rfl, setC_heap hab, fun g hg => setC_other hg, setC_size, setC_os⟩
  · refine (copyCheck_used b w (by simp [World.cell?, hab])).mono ?_
    rintro e w' ⟨rfl, rfl⟩
    exact ⟨rfl, hab, fun _ _ => rfl, rfl, rfl, rfl, rfl⟩

set_option maxHeartbeats 2000000 in
set_option maxRecDepth 100000 in
theorem writeString_walk (B b : Nat) (w : World) (p buf : Value) (n : Nat) (xs : List Value) (s : ByteArray) (hab : w.heap[b]? = some (.cells #[p, buf] 59 (0, 0))) (hp : p = .pointer none ∨ p = .pointer (some ⟨b, 0, none⟩)) (hown : w.ownsRow B 5 1 buf n xs)
    (hne : buf.ownBlock ≠ some b) (hlen : n + s.size ≤ 140737488355328) (hB : B ≤ w.heap.size) :
    Calls Tryz.prog 31 #[.pointer (some ⟨b, 0, none⟩), .string s] w fun e w' => e = .returned (.tuple #[.int .i64 s.size, .nilIface]) ∧ ∃ buf', w'.heap[b]? = some (.cells #[.pointer (some ⟨b, 0, none⟩), buf'] 59 (0, 0)) ∧
      w'.ownsRow B 5 1 buf' (n + s.size) (xs ++ Lib.strCells s) ∧ (buf' = .slice none 0 0 ↔ buf = .slice none 0 0 ∧ s.size = 0) ∧ (buf'.ownBlock = buf.ownBlock ∨ buf'.ownBlock = some w.heap.size) ∧ (∀ g, g < w.heap.size → g ≠ b → buf.ownBlock ≠ some g → w'.heap[g]? = w.heap[g]?) ∧
      w.heap.size ≤ w'.heap.size ∧ w'.os = w.os ∧ w'.tape = w.tape ∧ w'.output = w.output := by
  have hbl : b < w.heap.size := (Array.getElem?_eq_some_iff.1 hab).1
  have u37 := run_underlying (P := Tryz.prog) Tryz.underlying38
  have u9 := run_underlying (P := Tryz.prog) Tryz.underlying9
  have e45 : ∀ args w, (callFunc 45 args).run Tryz.prog w = .ok (.enter 45 args) w := fun args w => by kernel_rfl
  go_enter Tryz.func31, Tryz.ntmps31
  go_wp2_with (go_at_call 45; refine (copyCheck_any b _ p buf hab hp).mono ?_)
  rintro e w1 ⟨rfl, hb1, hoth, hsz, hos, htp, hout⟩
  have hown1 : w1.ownsRow B 5 1 buf n xs := ownsRow_of_block hown fun g hg => hoth g fun e => hne (e ▸ hg)
  have c1 : w1.cell? ⟨b, 1, none⟩ = some buf := by simp [World.cell?, hb1]
  have hr : ∃ v' w2, (Builtin.append_ #[38, 9] 38 #[buf, .string s]).run Tryz.prog w1 = .ok v' w2 ∧ w2.ownsRow B 5 1 v' (n + s.size) (xs ++ Lib.strCells s) ∧ w1.grownBy w2 buf.ownBlock ∧ (v' = .slice none 0 0 ↔ buf = .slice none 0 0 ∧ s.size = 0) ∧ (v'.ownBlock = buf.ownBlock ∨ v'.ownBlock = some w1.heap.size) := by
    obtain ⟨i0, hi, hz0, hz1, hz2⟩ : ∃ i0, Tryz.prog.info? 5 = some i0 ∧ i0.zero = some (.int .u8 0) ∧ i0.size = 1 ∧ i0.bytes = 1 := ⟨((Tryz.prog.info? 5).getD default), by kernel_rfl, by kernel_rfl, by kernel_rfl, by kernel_rfl⟩
    exact append_run_str w1 B 38 9 38 5 i0 Tryz.underlying38 Tryz.underlying9 hi hz0 hz1 hz2 buf n xs hown1 s hlen (by omega)
  obtain ⟨v', w2, hrun, hown', hgrow, hnil, hblk⟩ := hr
  have hb2 : w2.heap[b]? = some (.cells #[.pointer (some ⟨b, 0, none⟩), buf] 59 (0, 0)) := (hgrow.block b (by omega) (fun e => hne e.symm)).trans hb1
  have d0 : w2.cell? ⟨b, 0, none⟩ = some (.pointer (some ⟨b, 0, none⟩)) := by simp [World.cell?, hb2]
  have d1 : w2.cell? ⟨b, 1, none⟩ = some buf := by simp [World.cell?, hb2]
  have f1 : w2.frozen? ⟨b, 1, none⟩ = false := by simp [World.frozen?, hb2]
  obtain ⟨ao, n', cap, hv'⟩ : ∃ ao n' cap, v' = .slice ao n' cap := by
    rcases hown'.2 with ⟨hv, _⟩ | ⟨g, cap, cur, hv, _⟩
    · exact ⟨_, _, _, hv⟩
    · exact ⟨_, _, _, hv⟩
  have fin : ∃ buf', (w2.setCell ⟨b, 1, none⟩ v').heap[b]? = some (.cells #[.pointer (some ⟨b, 0, none⟩), buf'] 59 (0, 0)) ∧
      (w2.setCell ⟨b, 1, none⟩ v').ownsRow B 5 1 buf' (n + s.size) (xs ++ Lib.strCells s) ∧ (buf' = .slice none 0 0 ↔ buf = .slice none 0 0 ∧ s.size = 0) ∧ (buf'.ownBlock = buf.ownBlock ∨ buf'.ownBlock = some w.heap.size) ∧ (∀ g, g < w.heap.size → g ≠ b → buf.ownBlock ≠ some g → (w2.setCell ⟨b, 1, none⟩ v').heap[g]? = w.heap[g]?) ∧
      w.heap.size ≤ (w2.setCell ⟨b, 1, none⟩ v').heap.size ∧ (w2.setCell ⟨b, 1, none⟩ v').os = w.os ∧ (w2.setCell ⟨b, 1, none⟩ v').tape = w.tape ∧ (w2.setCell ⟨b, 1, none⟩ v').output = w.output := by
    have hnb : ∀ g, v'.ownBlock = some g → g ≠ b := fun g e q => by
      subst q
      rcases hblk with q | q
      · exact hne (q ▸ e)
      · rw [e] at q; cases q; omega
    refine ⟨v', setC_heap hb2, ownsRow_of_block hown' fun g e => setC_other (hnb g e), hnil, by rw [← hsz]; exact hblk, fun g hg hgb hgu => ?_, ?_, ?_, ?_, ?_⟩
    · rw [setC_other hgb, hgrow.block g (by omega) (fun e => hgu e.symm), hoth g hgb]
    · rw [setC_size]; have := hgrow.size; omega
    · simp only [setC_os]; exact hgrow.os.trans hos
    · simp only [setC_os]; exact hgrow.tape.trans htp
    · simp only [setC_os]; exact hgrow.output.trans hout
  subst hv'
  clear hown' hown1 hown hgrow hnil hblk
  go_wp2_with (at_builtin; refine Lib.wpList_append_run _ rfl _ _ 38 9 rfl buf (.string s) rfl rfl _ _ hrun ?_)
  go_wp2
  go_ret2
  exact ⟨rfl, fin⟩

set_option maxHeartbeats 2000000 in
set_option maxRecDepth 100000 in
theorem string_walk (B b : Nat) (w : World) (p buf : Value) (s : ByteArray) (hab : w.heap[b]? = some (.cells #[p, buf] 59 (0, 0))) (hrep : BytesRep B w 5 s false buf) (hne : buf.ownBlock ≠ some b) :
    Calls Tryz.prog 33 #[.pointer (some ⟨b, 0, none⟩)] w fun e w' => e = .returned (.string s) ∧ (∀ g, buf.ownBlock ≠ some g → w'.heap[g]? = w.heap[g]?) ∧ BytesRep B w' 5 s true buf ∧ w'.heap.size = w.heap.size ∧ w'.os = w.os ∧ w'.tape = w.tape ∧ w'.output = w.output ∧ Below B w w' := by
  have u38 := run_underlying (P := Tryz.prog) Tryz.underlying38
  have u85 := run_underlying (P := Tryz.prog) Tryz.underlying85
  have c1 : w.drew.cell? ⟨b, 1, none⟩ = some buf := by
    have : w.drew.heap[b]? = some (.cells #[p, buf] 59 (0, 0)) := hab
    simp [World.cell?, this]
  rcases hrep with ⟨e0, rfl⟩ | ⟨hpos, g, cap, cur, f, rfl, hBg, hcell, hfz, hle0, hmax, hsz, htk⟩
  · have hUS : ∀ W : World, (Builtin.unsafeString_ #[85, 3] 9 #[.pointer none, .int .i64 0]).run Tryz.prog W = .ok (.string .empty) W := fun W => Lib.run_unsafeString_none W 85 3 9 none
    have hSD : (Builtin.unsafeSliceData_ #[38] 85 #[.slice none 0 0]).run Tryz.prog w.drew = .ok (.pointer none) w.drew := rfl
    have hs : s = .empty := by
      obtain ⟨⟨l⟩⟩ := s
      have : l = [] := List.eq_nil_of_length_eq_zero e0
      subst this; rfl
    subst hs
    go_enter Tryz.func33, Tryz.ntmps33
    go_wp2
    go_region
    all_goals (go_wp2; go_ret; exact ⟨rfl, fun _ _ => rfl, .inl ⟨rfl, rfl⟩, rfl, rfl, rfl, rfl, Below.drew (Below.refl B w)⟩)
  · have hlen : s.data.toList.length = s.size := Array.length_toList
    have hcells : Tryz.prog.cellsOf 5 = 1 := by kernel_rfl
    have hcd : w.drew.heap[g]? = some (.cells cur 5 f) := hcell
    have hSD : (Builtin.unsafeSliceData_ #[38] 85 #[.slice (some ⟨g, 0, none⟩) s.size cap]).run Tryz.prog w.drew = .ok (.pointer (some ⟨g, 0, none⟩)) w.drew := Lib.run_unsafeSliceData_row _ _ _ _ _ _ (by omega)
    have hUS : (Builtin.unsafeString_ #[85, 3] 9 #[.pointer (some ⟨g, 0, none⟩), .int .i64 s.size]).run Tryz.prog w.drew = .ok (.string s) (w.drew.freeze ⟨g, 0, none⟩ s.size) := by
      have := Lib.run_unsafeString_row (P := Tryz.prog) (w := w.drew) 85 3 9 5 Tryz.underlying85 hcells g cur.size (by simp [World.shape?, hcd]) s.data.toList (by intro e; rw [e] at hlen; simp at hlen; omega) (by rw [hlen, hsz]; exact hle0) (by rw [hlen]; simp only [maxLen] at hmax; omega) (fun j x hj => by
        have hjl : j < s.size := by rw [← hlen]; exact (List.getElem?_eq_some_iff.1 hj).1
        have hc : (cur.toList.take s.size)[j]? = some (.int .u8 x.toNat) := by
          rw [htk]; unfold Lib.strCells; rw [List.getElem?_map, hj]; rfl
        rw [List.getElem?_take, if_pos hjl] at hc
        rw [add_addr, Nat.zero_add]
        simp [World.cell?, hcd]
        simpa using hc)
      rw [hlen] at this
      exact this
    have hoth : ∀ k, k ≠ g → (w.drew.freeze ⟨g, 0, none⟩ s.size).heap[k]? = w.heap[k]? := fun k hk => by
      unfold World.freeze
      rw [if_neg (by omega)]
      simp only [Array.getElem?_modify]
      rw [if_neg (fun e => hk e.symm)]
      rfl
    obtain ⟨f', hg'⟩ : ∃ f', (w.drew.freeze ⟨g, 0, none⟩ s.size).heap[g]? = some (.cells cur 5 f') := by
      unfold World.freeze
      rw [if_neg (by omega)]
      simp only [Array.getElem?_modify, if_true, hcd]
      exact ⟨_, rfl⟩
    have fin : (∀ k, (Value.slice (some ⟨g, 0, none⟩) s.size cap).ownBlock ≠ some k → (w.drew.freeze ⟨g, 0, none⟩ s.size).heap[k]? = w.heap[k]?) ∧ BytesRep B (w.drew.freeze ⟨g, 0, none⟩ s.size) 5 s true (.slice (some ⟨g, 0, none⟩) s.size cap) ∧ (w.drew.freeze ⟨g, 0, none⟩ s.size).heap.size = w.heap.size ∧
        (w.drew.freeze ⟨g, 0, none⟩ s.size).os = w.os ∧ (w.drew.freeze ⟨g, 0, none⟩ s.size).tape = w.tape ∧ (w.drew.freeze ⟨g, 0, none⟩ s.size).output = w.output ∧ Below B w (w.drew.freeze ⟨g, 0, none⟩ s.size) := by
      have hb := Lib.below_freeze (Below.drew (Below.refl B w)) (p := ⟨g, 0, none⟩) hBg s.size
      refine ⟨fun k hk => hoth k fun e => hk (by subst e; rfl), .inr ⟨hpos, g, cap, cur, f', rfl, hBg, hg', (fun e => by cases e), hle0, hmax, hsz, htk⟩, ?_, hb.os, hb.tape, hb.output, hb⟩
      unfold World.freeze
      rw [if_neg (by omega)]
      simp
    clear hcd hcell htk hoth hg'
    go_enter Tryz.func33, Tryz.ntmps33
    go_wp2
    go_region
    all_goals (go_wp2; go_ret; exact ⟨rfl, fin⟩)

theorem append_data (a b : ByteArray) : Lib.strCells (a ++ b) = Lib.strCells a ++ Lib.strCells b := by
  unfold Lib.strCells
  rw [ByteArray.data_append, Array.toList_append, List.map_append]

def writeM : MSum
  | [.ptr b 0, .str t], h => match h[b]? with
    | some (.cells 59 [.val (.pointer none), .val (.slice none 0 0)] .own) => some (.mk Unit (if t.size ≤ 140737488355328 then some () else none) (fun _ => (.ret (.tup [.int .i64 t.size, .val .nilIface]), h.set b (.bld 59 5 t false))) (fun β _ k => k (.ret (.tup [.int .i64 t.size, .val .nilIface])) (h.set b (.bld 59 5 t false))) fun _ _ _ => rfl)
    | some (.bld 59 5 s false) => some (.mk Unit (if s.size + t.size ≤ 140737488355328 then some () else none) (fun _ => (.ret (.tup [.int .i64 t.size, .val .nilIface]), h.set b (.bld 59 5 (s ++ t) false))) (fun β _ k => k (.ret (.tup [.int .i64 t.size, .val .nilIface])) (h.set b (.bld 59 5 (s ++ t) false))) fun _ _ _ => rfl)
    | _ => none
  | _, _ => none

theorem write_rep {B : Nat} {wB : World} {G : Gh} {h : Hp} {w w' : World} (H : HRep G B h w) (hb : Bel B wB w) {b : Nat} {bk : Blk} (hk : h[b]? = some bk) (hown : bk.own = true) {buf buf' : Value} {s' : ByteArray} {fz : Bool} (hft : ∀ g, g ∈ G.ft b ↔ g = G.at_ b ∨ buf.ownBlock = some g)
    (hbB : ∀ g, buf.ownBlock = some g → B ≤ g) (h1 : w'.heap[G.at_ b]? = some (.cells #[.pointer (some ⟨G.at_ b, 0, none⟩), buf'] 59 (0, 0))) (hrep : BytesRep B w' 5 s' fz buf') (hlt : ∀ g, buf'.ownBlock = some g → B ≤ g ∧ g < w'.heap.size)
    (hblk : buf'.ownBlock = buf.ownBlock ∨ buf'.ownBlock = some w.heap.size) (hne : buf.ownBlock ≠ some (G.at_ b)) (hoth : ∀ g, g < w.heap.size → g ≠ G.at_ b → buf.ownBlock ≠ some g → w'.heap[g]? = w.heap[g]?) (hsz : w.heap.size ≤ w'.heap.size) (hos : w'.os = w.os) (htp : w'.tape = w.tape) (hout : w'.output = w.output) :
    ∃ G', HRep G' B (h.set b (.bld 59 5 s' fz)) w' ∧ Mv B wB G w G' w' := by
  have hbn : b < G.n := by rw [← H.len]; exact (List.getElem?_eq_some_iff.1 hk).1
  have hO := H.own b _ hk hown
  have hatf : G.at_ b ∈ G.ft b := (hft _).2 (.inl rfl)
  have hnef : ∀ i, i < G.n → i ≠ b → ∀ g ∈ G.ft i, g ≠ G.at_ b ∧ buf.ownBlock ≠ some g := fun i hi hib g hg => ⟨fun e => H.inj i b hi hbn hib g hg (e ▸ hatf), fun e => H.inj i b hi hbn hib g hg ((hft g).2 (.inr e))⟩
  have hle : G.le w { G with ft := fun i => if i = b then G.at_ b :: buf'.ownBlock.toList else G.ft i } w' := ⟨Nat.le_refl _, fun _ _ => rfl, fun _ _ q => q, fun g o q => by
    refine World.cell?_of_block (hoth g (H.imm g o q) (fun e => (hO _ hatf).2 o (e ▸ q)) fun e => (hO g ((hft g).2 (.inr e))).2 o q), fun _ _ => Nat.le_refl _, fun _ _ _ => rfl, rfl⟩
  have hne' : buf'.ownBlock ≠ some (G.at_ b) := fun e => by
    rcases hblk with q | q
    · exact hne (q ▸ e)
    · rw [e] at q; have := Option.some.inj q; have := H.lt b hbn _ hatf; omega
  have hmem : ∀ g, g ∈ G.at_ b :: buf'.ownBlock.toList → g = G.at_ b ∨ buf'.ownBlock = some g := fun g hg => by
    rcases List.mem_cons.1 hg with e | e
    · exact .inl e
    · exact .inr (ownBlock_mem.1 e)
  refine ⟨_, H.turn hbn _ hle rfl rfl (fun j hj => ⟨rfl, rfl, rfl, by simp [hj]⟩) hsz (fun j hj hjb g hg => hoth g (H.lt j hj g hg) (hnef j hj hjb g hg).1 (hnef j hj hjb g hg).2) (fun g hg => ?_) (fun _ g hg => ?_) ⟨.pointer (some ⟨G.at_ b, 0, none⟩), buf', by simp, h1, .inr rfl, hne', hrep⟩,
    .of hle (hb.trans ⟨hos, htp, hout, hsz, fun g hg => hoth g (Nat.lt_of_lt_of_le hg hb.size) (fun e => by have := (hO _ hatf).1; omega) fun e => by have := hbB g e; omega⟩) rfl hsz (fun g hg hn => hoth g hg (fun e => hn b hbn (e ▸ hatf)) fun e => hn b hbn ((hft g).2 (.inr e))) fun i hi g hg => ?_⟩
  · simp only [if_true] at hg
    rcases hmem g hg with rfl | e
    · exact ⟨.inl hatf, Nat.lt_of_lt_of_le (H.lt b hbn _ hatf) hsz⟩
    · refine ⟨?_, (hlt g e).2⟩
      rcases hblk with q | q
      · exact .inl ((hft g).2 (.inr (q ▸ e)))
      · rw [e] at q; cases q; exact .inr (Nat.le_refl _)
  · simp only [if_true] at hg
    rcases hmem g hg with rfl | e
    · exact hO _ hatf
    · refine ⟨(hlt g e).1, fun o q' => ?_⟩
      rcases hblk with q | q
      · exact (hO g ((hft g).2 (.inr (q ▸ e)))).2 o q'
      · rw [e] at q; cases q; have := H.imm _ o q'; omega
  · by_cases hib : i = b
    · subst hib
      simp only [if_true] at hg
      rcases hmem g hg with rfl | e
      · exact .inl ⟨i, hbn, hatf⟩
      · rcases hblk with q | q
        · exact .inl ⟨i, hbn, (hft g).2 (.inr (q ▸ e))⟩
        · rw [e] at q; cases q; exact .inr (Nat.le_refl _)
    · simp only [if_neg hib] at hg; exact .inl ⟨i, hi, hg⟩

theorem bytes_any {w : World} {B : Nat} {s : ByteArray} {v : Value} (h : w.ownsRow B 5 1 v s.size (Lib.strCells s)) (hn : v = .slice none 0 0 ↔ s.size = 0) : BytesRep B w 5 s false v := bytes_of_ownsRow h hn

theorem writeM.ok {B : Nat} {wB : World} (stab_ : ∀ w', Bel B wB w' → GW w') : HandM Tryz.prog lay B wB 31 writeM := by
  intro args h τ x out sel ok t0 hs hx G w vs H hΛ hb hl
  unfold writeM at hs
  split at hs
  · rename_i b t
    simp only [AV.isL] at hl
    obtain ⟨p, rest, hvs, hp, ev, rest2, hr2, hev, hr3⟩ := hl
    simp only [AV.is] at hp hev
    obtain ⟨hbn, rfl⟩ := hp
    subst hev hr3 hr2
    obtain rfl : vs = #[.pointer (some ⟨G.at_ b, 0, none⟩), .string t] := Array.ext' (by simpa using hvs)
    have res : ∀ (G' : Gh) (w' : World), (Res.ret (.tup [.int .i64 t.size, .val .nilIface])).isE G' w' (.returned (.tuple #[.int .i64 t.size, .nilIface])) := fun G' w' => ⟨_, rfl, by simp only [AV.is, AV.isL]; exact ⟨_, rfl, _, _, rfl, rfl, _, _, rfl, rfl, rfl⟩⟩
    have go : ∀ (bk : Blk) (pp buf : Value) (s : ByteArray), h[b]? = some bk → bk.own = true → (∀ g, g ∈ G.ft b ↔ g = G.at_ b ∨ buf.ownBlock = some g) → w.heap[G.at_ b]? = some (.cells #[pp, buf] 59 (0, 0)) → (pp = .pointer none ∨ pp = .pointer (some ⟨G.at_ b, 0, none⟩)) → buf.ownBlock ≠ some (G.at_ b) → BytesRep B w 5 s false buf →
        s.size + t.size ≤ 140737488355328 → Calls Tryz.prog 31 #[.pointer (some ⟨G.at_ b, 0, none⟩), .string t] w fun e w' => ∃ G', HRep G' B (h.set b (.bld 59 5 (s ++ t) false)) w' ∧ Mv B wB G w G' w' ∧ (Res.ret (.tup [.int .i64 t.size, .val .nilIface])).isE G' w' e := fun bk pp buf s hk hown hft hheap hpp hne hrep hsize => by
      have how := ownsRow_of_bytes hrep
      have hnil : buf = .slice none 0 0 ↔ s.size = 0 := by
        rcases hrep with ⟨e, rfl⟩ | ⟨e, g, cap, cur, f, rfl, _⟩
        · exact ⟨fun _ => e, fun _ => rfl⟩
        · constructor
          · intro q; cases q
          · intro q; omega
      refine (writeString_walk B (G.at_ b) w pp buf s.size _ t hheap hpp how hne hsize hb.size).mono ?_
      rintro e w' ⟨rfl, buf', q1, q2, q3, q4, q5, q6, q7, q8, q9⟩
      have hst : (s ++ t).size = s.size + t.size := ByteArray.size_append
      obtain ⟨G', H', m⟩ := write_rep H hb hk hown (buf := buf) (buf' := buf') (s' := s ++ t) (fz := false) hft (fun g e => (how.lt g e).1) q1 (bytes_any (by rw [hst, append_data]; exact q2) (by rw [q3, hnil, hst]; omega)) q2.lt q4 hne q5 q6 q7 q8 q9
      exact ⟨G', H', m, res _ _⟩
    split at hs
    · rename_i hk
      cases hs
      split at hx
      · rename_i hsize
        obtain ⟨hft, _, c, hc, hcl⟩ := H.blk b _ hk
        simp only [AV.isL] at hcl
        obtain ⟨u, r, e1, e2, u1, r1, e3, e4, e5⟩ := hcl
        simp only [AV.is] at e2 e4
        subst e2 e4 e5
        obtain rfl : c = #[.pointer none, .slice none 0 0] := Array.ext' (by rw [e1, e3])
        have := go _ _ _ ⟨#[]⟩ hk rfl (fun g => by rw [hft]; simp [Value.ownBlock]) hc (.inl rfl) (by simp [Value.ownBlock]) (.inl ⟨rfl, rfl⟩) (by have : (⟨#[]⟩ : ByteArray).size = 0 := rfl; omega)
        have he : (⟨#[]⟩ : ByteArray) ++ t = t := ByteArray.empty_append
        rw [he] at this
        exact this
      · cases hx
    · rename_i s hk
      cases hs
      split at hx
      · rename_i hsize
        obtain ⟨pp, buf, h1, h2, h3, h4, h5⟩ := H.blk b _ hk
        exact go _ pp buf s hk rfl (fun g => by rw [h1]; simp) h2 h3 h4 h5 hsize
      · cases hx
    · cases hs
  · cases hs

def stringS : List AV → Hp → Option (Res × Hp)
  | [.ptr b 0], h => match h[b]? with
    | some (.bld 59 5 s false) => some (.ret (.str s), h.set b (.bld 59 5 s true))
    | _ => none
  | _, _ => none

theorem stringS.ok {B : Nat} {wB : World} (stab_ : ∀ w', Bel B wB w' → GW w') : HandAt Tryz.prog lay B wB 33 stringS := by
  intro args h res h' hs G w vs H hΛ hb hl
  unfold stringS at hs
  split at hs
  · rename_i b
    simp only [AV.isL] at hl
    obtain ⟨p, rest, hvs, hp, hr3⟩ := hl
    simp only [AV.is] at hp
    obtain ⟨hbn, rfl⟩ := hp
    subst hr3
    obtain rfl : vs = #[.pointer (some ⟨G.at_ b, 0, none⟩)] := Array.ext' (by simpa using hvs)
    split at hs
    · rename_i s hk
      cases hs
      obtain ⟨pp, buf, h1, h2, h3, h4, h5⟩ := H.blk b _ hk
      have hO := H.own b _ hk rfl
      refine (string_walk B (G.at_ b) w pp buf s h2 h5 h4).mono ?_
      rintro e w' ⟨rfl, q1, q2, q3, q4, q5, q6, q7⟩
      have hle : G.le w G w' := ⟨Nat.le_refl _, fun _ _ => rfl, fun _ _ q => q, fun g o q => World.cell?_of_block (q1 g fun e => (hO g (by rw [h1]; simp [e])).2 o q), fun _ _ => Nat.le_refl _, fun _ _ _ => rfl, rfl⟩
      refine ⟨G, H.turn hbn (.bld 59 5 s true) hle rfl rfl (fun _ _ => ⟨rfl, rfl, rfl, rfl⟩) (by omega) (fun j hj hjb g hg => q1 g fun e => H.inj j b hj hbn hjb g hg (by rw [h1]; simp [e])) (fun g hg => ⟨.inl hg, by have := H.lt b hbn g hg; omega⟩) (fun _ g hg => hO g hg)
        ⟨pp, buf, h1, (q1 _ h4).trans h2, h3, h4, q2⟩, .of hle (hb.trans q7) rfl (by omega) (fun g hg hn => q1 g fun e => hn b hbn (by rw [h1]; simp [e])) (fun i hi g hg => .inl ⟨i, hi, hg⟩), ⟨_, rfl, by simp only [AV.is]⟩⟩
    · cases hs
  · cases hs
end Go.Proofs.YtphlamnaaogmaaaGreatDoor.M
