import Derived.Test.YtphlamnaaogmaaaGreatDoorHRepl6
namespace Go.Proofs.YtphlamnaaogmaaaGreatDoor.M
open Go.RowKit Go.Proofs.Qx
set_option linter.unusedVariables false
set_option linter.unusedSimpArgs false

set_option maxHeartbeats 4000000 in
set_option maxRecDepth 100000 in
theorem written_walk (s : ByteArray) (hs : s.size ≤ 17592186044416) (w : World) :
    Calls Tryz.prog 46 #[.string s] w fun e w' => e = .returned (.string (escS s)) ∧ Below w.heap.size w w' := by
  have hrep : ReplacesTo s (escS s) := fun B w t hT => tableReplace_walk s hs B w t hT
  have hl0 : ListAt (w.alloc (.cells replList.toArray 9)) w.heap.size := ⟨replList.toArray, 9, heap_alloc_new _ _, fun j u hu => by rw [List.getElem?_toArray]; exact hu⟩
  have hnew := newReplacer_walk (w.alloc (.cells replList.toArray 9)) w.heap.size (by rw [World.size_alloc]; omega) hl0
  have hB0 : Below w.heap.size w (w.alloc (.cells replList.toArray 9)) := (Below.refl _ w).alloc (Nat.le_refl _) _
  have HB0 : Aside (Below w.heap.size w (w.alloc (.cells replList.toArray 9)) ∧ (w.alloc (.cells replList.toArray 9)).heap.size = w.heap.size + 1) := ⟨hB0, World.size_alloc _ _⟩
  have HR : Aside (ReplacesTo s (escS s)) := hrep
  have e1 : (.cells #[.string ⟨#[38]⟩, .string ⟨#[38, 97, 109, 112, 59]⟩, .string ⟨#[60]⟩, .string ⟨#[38, 108, 116, 59]⟩, .string ⟨#[62]⟩, .string ⟨#[38, 103, 116, 59]⟩, .string ⟨#[34]⟩, .string ⟨#[38, 113, 117, 111, 116, 59]⟩] 9 : Obj) = .cells replList.toArray 9 := rfl
  rw [← e1] at hnew HB0
  clear hl0 hB0 hrep e1
  go_enter Tryz.func46, Tryz.ntmps46
  go_wp2_with (go_at_call 69; refine hnew.mono ?_)
  rintro e w1 ⟨r, rfl, hr, hra, hb1⟩
  have hcall := fun w1' (h : w1' = w1) => replace_walk s (escS s) HR.out w.heap.size w1 r (by have := HB0.out.2; omega) hra
  have h70 := hcall w1 rfl
  have HB1 : Aside (Below w.heap.size w w1) := HB0.out.1.trans (hb1.mono (by have := HB0.out.2; omega))
  clear hcall hra hb1 hr hnew
  go_wp2_with (go_at_call 70; refine h70.mono ?_)
  rintro e w2 ⟨rfl, hb2⟩
  have HB2 : Aside (Below w.heap.size w w2) := HB1.out.trans hb2
  clear hb2 h70
  go_wp2
  go_ret
  exact ⟨rfl, HB2.out⟩

def yK.f (a0 : ByteArray) : Option ByteArray := if a0.size ≤ 17592186044416 then some (escS a0) else none
def yK.out (r : ByteArray) : Res := .ret (.str r)
def yK.sel (β : Type) (r : ByteArray) (k : Res → Option β) : Option β := k (.ret (.str r))
theorem yK.sel_ok (β : Type) (t : ByteArray) (k : Res → Option β) : yK.sel β t k = k (yK.out t) := rfl
def yK.tells (f : ByteArray → Option ByteArray) : Tells
  | [.str a0] => some (.mk ByteArray (f a0) yK.out yK.sel yK.sel_ok)
  | _ => none
def yK.ce (f : ByteArray → Option ByteArray) : CE := ⟨[.one (.str)], .froz, yK.tells f⟩

theorem yK.ok (k : Nat) : CEOk Tryz.prog GW lay 46 (yK.ce yK.f) :=
  tells_simple (fun args w => by kernel_rfl) fun args τ x out sel ok r hs hx => by
    unfold yK.tells at hs
    split at hs
    · rename_i a0
      cases hs
      unfold yK.f at hx
      split at hx
      · rename_i h
        cases hx
        exact ⟨rfl, _, rfl, rfl, fun w hw => written_walk a0 h w⟩
      · cases hx
    · cases hs
end Go.Proofs.YtphlamnaaogmaaaGreatDoor.M
