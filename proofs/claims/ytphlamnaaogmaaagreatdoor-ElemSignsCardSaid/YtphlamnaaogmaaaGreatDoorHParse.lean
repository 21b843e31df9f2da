import Derived.Test.YtphlamnaaogmaaaGreatDoorLay
import Derived.Shelf.Pu.ErrVarParseUint
import Derived.Test.YtphlamnaaogmaaaGreatDoorHHex
namespace Go.Proofs.YtphlamnaaogmaaaGreatDoor.M
open Go.RowKit Go.Proofs.Qx

def readUint (l : List UInt8) : Int × Bool := match Lib.parseUintB 32 l with
  | .ok u => ((u : Int), true)
  | .range => (4294967295, false)
  | _ => (0, false)
def readHex (l : List UInt8) : Int × Bool := match (if l = [] then Lib.NumEnd.syntax else hexM 0 l) with
  | .ok u => ((u : Int), true)
  | .range => (4294967295, false)
  | _ => (0, false)
def strconv_ParseUint.f (a0 : ByteArray) (a1 a2 : Int) : Option (Int × Bool) := if a1 = 10 ∧ a2 = 32 ∧ a0.size ≤ 1000000000 then some (readUint a0.data.toList) else if a1 = 16 ∧ a2 = 32 ∧ a0.size ≤ 1000000000 then some (readHex a0.data.toList) else none
def strconv_ParseUint.out (r : Int × Bool) : Res := .ret (.tup [.int .u64 r.1, cond r.2 (.val .nilIface) (.ifc 198 .junk)])
def strconv_ParseUint.sel (β : Type) (r : Int × Bool) (k : Res → Option β) : Option β := cond r.2 (k (.ret (.tup [.int .u64 r.1, .val .nilIface]))) (k (.ret (.tup [.int .u64 r.1, .ifc 198 .junk])))
theorem strconv_ParseUint.sel_ok (β : Type) (t : Int × Bool) (k : Res → Option β) : strconv_ParseUint.sel β t k = k (strconv_ParseUint.out t) := by
  obtain ⟨n, b⟩ := t
  cases b <;> rfl
def strconv_ParseUint.tells (f : ByteArray → Int → Int → Option (Int × Bool)) : Tells
  | [.str a0, .int .i64 a1, .int .i64 a2] => some (.mk (Int × Bool) (f a0 a1 a2) strconv_ParseUint.out strconv_ParseUint.sel strconv_ParseUint.sel_ok)
  | _ => none
def strconv_ParseUint.ce (f : ByteArray → Int → Int → Option (Int × Bool)) : CE := ⟨[.one (.str), .one (.int .i64), .one (.int .i64)], .froz, strconv_ParseUint.tells f⟩

theorem parseUint_walk (s : ByteArray) (hs : s.size ≤ 281474976710656) (w : World) (hG : GW w) :
    Calls Tryz.prog 128 #[.string s, .int .i64 10, .int .i64 32] w fun e w' => ∃ v, e = .returned (.tuple #[.int .u64 (readUint s.data.toList).1, v]) ∧ ((readUint s.data.toList).2 = true → v = .nilIface) ∧ ((readUint s.data.toList).2 = false → ∃ p, v = .iface 198 p) ∧ Below w.heap.size w w' := by
  obtain ⟨_, _, ⟨tp, p, h3⟩, ⟨tq, q, h4⟩⟩ := hG
  unfold readUint
  cases hc : Lib.parseUintB 32 s.data.toList
  · rename_i v
    refine (Tryz.strconv_ParseUint_10_at32_ok s (by omega) v hc w).mono ?_
    rintro e w' ⟨rfl, hw⟩
    refine ⟨_, rfl, fun _ => rfl, fun h => (by cases h), ?_⟩
    rcases hw with rfl | rfl
    · exact Below.refl _ _
    · exact Lib.bytesWorld_below w _ s
  · refine (Any.strconv_ParseUint_10_at32_syntax_var Tryz.laysPu14 s hs hc tp p w h3).mono ?_
    rintro e w' ⟨N, rfl, _, _, hb⟩
    exact ⟨_, rfl, fun h => (by cases h), fun _ => ⟨_, rfl⟩, hb⟩
  · refine (Any.strconv_ParseUint_10_at32_range_var Tryz.laysPu14 s hs hc tq q w h4).mono ?_
    rintro e w' ⟨N, rfl, _, _, hb⟩
    exact ⟨_, rfl, fun h => (by cases h), fun _ => ⟨_, rfl⟩, hb⟩

theorem hex_all (t : ByteArray) (hmax : t.size ≤ 281474976710656) (w : World) :
    Calls Tryz.prog 142 #[.string t, .int .i64 16, .int .i64 32] w fun e w' => e = .returned (Lib.uintTupleM 196 4294967295 (if t.data.toList = [] then Lib.NumEnd.syntax else hexM 0 t.data.toList)) ∧ (w' = w ∨ w' = Lib.bytesWorld w 5 t) := by
  by_cases h0 : t.size = 0
  · have ht : t = ⟨#[]⟩ := by
      apply ByteArray.ext
      exact Array.eq_empty_of_size_eq_zero h0
    subst ht
    exact (AnyPu.internal_strconv_ParseUint_empty { Tryz.laysPu14 with } 16 32 w).mono fun e w' ⟨he, hw⟩ => ⟨he, Or.inl hw⟩
  · have hne : t.data.toList ≠ [] := fun h => h0 (by rw [Lib.size_eq, h]; rfl)
    refine (hex_walk t h0 hmax w).mono fun e w' ⟨he, hw⟩ => ⟨?_, Or.inr hw⟩
    rw [he, if_neg hne]

set_option maxHeartbeats 4000000 in
set_option maxRecDepth 100000 in
theorem parseHex_walk (s : ByteArray) (hs : s.size ≤ 281474976710656) (w : World) (hG : GW w) :
    Calls Tryz.prog 128 #[.string s, .int .i64 16, .int .i64 32] w fun e w' => ∃ v, e = .returned (.tuple #[.int .u64 (readHex s.data.toList).1, v]) ∧ ((readHex s.data.toList).2 = true → v = .nilIface) ∧ ((readHex s.data.toList).2 = false → ∃ p, v = .iface 198 p) ∧ Below w.heap.size w w' := by
  obtain ⟨_, _, ⟨tp, p, h3⟩, ⟨tq, q, h4⟩⟩ := hG
  have hI := hex_all s hs w
  have e142 : ∀ args w, (callFunc 142 args).run Tryz.prog w = .ok (.enter 142 args) w := fun args w => by kernel_rfl
  have e143 : ∀ args w, (callFunc 143 args).run Tryz.prog w = .ok (.enter 143 args) w := fun args w => by kernel_rfl
  unfold readHex
  cases hc : (if s.data.toList = [] then Lib.NumEnd.syntax else hexM 0 s.data.toList)
  · rename_i u
    rw [hc] at hI
    have hI : Calls Tryz.prog 142 #[.string s, .int .i64 16, .int .i64 32] w fun e w' => e = .returned (.tuple #[.int .u64 u, .nilIface]) ∧ (w' = w ∨ w' = Lib.bytesWorld w 5 s) := hI
    clear hc h3 h4
    go_enter Tryz.func128, Tryz.ntmps128
    go_wp2_with (go_at_call 142; refine hI.mono ?_; rintro e W1 ⟨rfl, hW⟩)
    go_wp2
    go_ret2
    refine ⟨_, rfl, fun _ => rfl, fun h => (by cases h), ?_⟩
    rcases hW with rfl | rfl
    · exact Below.refl _ _
    · exact Lib.bytesWorld_below w _ s
  · rw [hc] at hI
    have hI : Calls Tryz.prog 142 #[.string s, .int .i64 16, .int .i64 32] w fun e w' => e = .returned (.tuple #[.int .u64 0, .iface 196 (.int .i64 2)]) ∧ (w' = w ∨ w' = Lib.bytesWorld w 5 s) := hI
    have hv := World.var?_cell Tryz.laysPu14.m0 h3 0
    have hGl := Lib.lt_of_cell hv
    clear hc h3 h4
    go_enter Tryz.func128, Tryz.ntmps128
    go_wp2_with (go_at_call 142; refine hI.mono ?_)
    intro e W1 he hW
    subst he
    have hb1 : Below w.heap.size w W1 := by
      rcases hW with rfl | rfl
      · exact Below.refl _ _
      · exact Lib.bytesWorld_below _ _ _
    have hv1 := (hb1.cell hGl).trans hv
    clear hW hv hI
    go_wp2_with (go_at_call 143; refine (AnyPu.strconv_toError_syntax { Tryz.laysPu14 with } ⟨#[80, 97, 114, 115, 101, 85, 105, 110, 116]⟩ s 16 32 (.iface tp p) _ hs (by simpa using hv1) (Or.inr ⟨tp, p, rfl⟩)).mono ?_)
    rintro e W2 ⟨N, rfl, h1, h2, h3⟩
    go_wp2
    go_ret2
    exact ⟨_, rfl, fun h => (by cases h), fun _ => ⟨_, rfl⟩, hb1.trans (h3.mono hb1.size)⟩
  · rw [hc] at hI
    have hI : Calls Tryz.prog 142 #[.string s, .int .i64 16, .int .i64 32] w fun e w' => e = .returned (.tuple #[.int .u64 4294967295, .iface 196 (.int .i64 1)]) ∧ (w' = w ∨ w' = Lib.bytesWorld w 5 s) := hI
    have hv := World.var?_cell Tryz.laysPu14.m1 h4 0
    have hGl := Lib.lt_of_cell hv
    clear hc h3 h4
    go_enter Tryz.func128, Tryz.ntmps128
    go_wp2_with (go_at_call 142; refine hI.mono ?_)
    intro e W1 he hW
    subst he
    have hb1 : Below w.heap.size w W1 := by
      rcases hW with rfl | rfl
      · exact Below.refl _ _
      · exact Lib.bytesWorld_below _ _ _
    have hv1 := (hb1.cell hGl).trans hv
    clear hW hv hI
    go_wp2_with (go_at_call 143; refine (AnyPu.strconv_toError_range { Tryz.laysPu14 with } ⟨#[80, 97, 114, 115, 101, 85, 105, 110, 116]⟩ s 16 32 (.iface tq q) _ hs (by simpa using hv1) (Or.inr ⟨tq, q, rfl⟩)).mono ?_)
    rintro e W2 ⟨N, rfl, h1, h2, h3⟩
    go_wp2
    go_ret2
    exact ⟨_, rfl, fun h => (by cases h), fun _ => ⟨_, rfl⟩, hb1.trans (h3.mono hb1.size)⟩

theorem strconv_ParseUint.ok (k : Nat) : CEOk Tryz.prog GW lay 128 (strconv_ParseUint.ce strconv_ParseUint.f) :=
  tells_of (fun args w => by kernel_rfl) fun args τ x out sel ok r hs hx => by
    unfold strconv_ParseUint.tells at hs
    split at hs
    · rename_i a0 a1 a2
      cases hs
      unfold strconv_ParseUint.f at hx
      have key : ∀ (b : Int) (rd : Int × Bool), (∀ w, GW w → Calls Tryz.prog 128 #[.string a0, .int .i64 b, .int .i64 32] w fun e w' => ∃ v, e = .returned (.tuple #[.int .u64 rd.1, v]) ∧ (rd.2 = true → v = .nilIface) ∧ (rd.2 = false → ∃ p, v = .iface 198 p) ∧ Below w.heap.size w w') →
          AV.simpleL [.str a0, .int .i64 b, .int .i64 32] = true ∧ ∃ av, strconv_ParseUint.out rd = .ret av ∧
            ∀ w, GW w → Calls Tryz.prog 128 (AV.denL [.str a0, .int .i64 b, .int .i64 32]).toArray w (fun e w' => ∃ v, e = .returned v ∧ Below w.heap.size w w' ∧ ∀ (imm : Nat → Nat → Prop), (∀ b o, imm b o → b < w.heap.size) → ∃ imm', After imm w imm' w' ∧ ∀ G : Gh, G.lay = lay → av.is { G with imm := imm' } w' v) := fun b rd hwalk => by
        refine ⟨rfl, _, rfl, fun w hw => (hwalk w hw).mono ?_⟩
        rintro e w' ⟨v, rfl, h1, h2, hb⟩
        refine ⟨_, rfl, hb, fun imm himm => ⟨imm, ⟨fun _ _ q => q, fun _ _ _ q => q, fun b o q => Nat.lt_of_lt_of_le (himm b o q) hb.size, hb⟩, fun G _ => ?_⟩⟩
        simp only [AV.is]
        refine ⟨_, rfl, ?_⟩
        simp only [AV.isL]
        refine ⟨_, _, rfl, by simp only [AV.is], _, _, rfl, ?_, rfl⟩
        cases hb2 : rd.2
        · obtain ⟨p, rfl⟩ := h2 hb2
          simp only [cond_false, AV.is]
          exact ⟨p, rfl, trivial⟩
        · rw [h1 hb2]
          simp only [cond_true, AV.is]
      split at hx
      · rename_i h
        obtain ⟨rfl, rfl, hsz⟩ := h
        cases hx
        exact key 10 _ fun w hw => parseUint_walk a0 (by omega) w hw
      · split at hx
        · rename_i h
          obtain ⟨rfl, rfl, hsz⟩ := h
          cases hx
          exact key 16 _ fun w hw => parseHex_walk a0 (by omega) w hw
        · cases hx
    · cases hs
end Go.Proofs.YtphlamnaaogmaaaGreatDoor.M
