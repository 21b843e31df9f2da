import Derived.Test.YtphlamnaaogmaaaGreatDoorHWrite
import Derived.Laws.LoneSync
import Derived.Defers
namespace Go.Proofs.YtphlamnaaogmaaaGreatDoor.M
open Go.RowKit Go.Proofs.Qx
set_option linter.unusedVariables false
set_option linter.unusedSimpArgs false

def replList : List Value := [.string ⟨#[38]⟩, .string ⟨#[38, 97, 109, 112, 59]⟩, .string ⟨#[60]⟩, .string ⟨#[38, 108, 116, 59]⟩, .string ⟨#[62]⟩, .string ⟨#[38, 103, 116, 59]⟩, .string ⟨#[34]⟩, .string ⟨#[38, 113, 117, 111, 116, 59]⟩]

def ListAt (w : World) (o : Nat) : Prop := ∃ (cur : Array Value) (e : TypeId), w.heap[o]? = some (.cells cur e (0, 0)) ∧ ∀ (j : Nat) (u : Value), replList[j]? = some u → cur[j]? = some u
def ReplAt (w : World) (r : Nat) : Prop := ∃ o cap, ListAt w o ∧ o ≠ r ∧ w.heap[r]? = some (.cells #[.int .u32 0, .int .i32 0, .int .u32 0, .nilIface, .slice (some ⟨o, 0, none⟩) 8 cap] 132 (0, 0))

theorem ListAt.cell {w : World} {o : Nat} (h : ListAt w o) (j : Nat) (u : Value) (hu : replList[j]? = some u) : w.cell? ⟨o, j, none⟩ = some u := by
  obtain ⟨cur, e, h1, h2⟩ := h
  simp [World.cell?, h1, h2 j u hu]

set_option maxHeartbeats 2000000 in
set_option maxRecDepth 100000 in
theorem newReplacer_walk (w : World) (b : Nat) (hb : b < w.heap.size) (hl : ListAt w b) :
    Calls Tryz.prog 69 #[.slice (some ⟨b, 0, none⟩) 8 8] w fun e w' => ∃ r, e = .returned (.pointer (some ⟨r, 0, none⟩)) ∧ w.heap.size ≤ r ∧ ReplAt w' r ∧ Below w.heap.size w w' := by
  have u39 := run_underlying (P := Tryz.prog) Tryz.underlying39
  have hr : ∃ v' w2, (Builtin.append_ #[39, 39] 39 #[.slice none 0 0, .slice (some ⟨b, 0, none⟩) 8 8]).run Tryz.prog w = .ok v' w2 ∧ w2.ownsRow w.heap.size 9 1 v' 8 ([] ++ replList) ∧ w.grownBy w2 none := by
    obtain ⟨i0, hi, hz0, hz1, hz2⟩ : ∃ i0, Tryz.prog.info? 9 = some i0 ∧ i0.zero = some (.string ⟨#[]⟩) ∧ i0.size = 1 ∧ i0.bytes ≤ 16 := ⟨((Tryz.prog.info? 9).getD default), by kernel_rfl, by kernel_rfl, by kernel_rfl, by decide +kernel⟩
    obtain ⟨v', w2, h1, h2, h3, _⟩ := append_run (P := Tryz.prog) w w.heap.size 39 39 9 i0 (.string ⟨#[]⟩) 1 Tryz.underlying39 hi hz0 hz1 (by rfl) (by omega) (.slice none 0 0) 0 [] (World.ownsRow_nil w w.heap.size 9 1) (.slice (some ⟨b, 0, none⟩) 8 8) 8 replList (by rfl)
      (.inr ⟨_, _, rfl, fun j u hu => by
        have := hl.cell j u hu
        simp only [Addr.add, Nat.zero_add]
        split
        · rename_i h0; subst h0; exact this
        · exact this⟩) (by intro u hu; simp [replList] at hu; rcases hu with rfl | rfl | rfl | rfl | rfl | rfl | rfl | rfl <;> rfl) (by decide) (by omega) (Nat.le_refl _)
    exact ⟨v', w2, h1, h2, h3⟩
  obtain ⟨v', w2, hrun, hown, hgrow⟩ := hr
  obtain ⟨g, cap, cur, rfl, hbg, hg, _, _, _, htake⟩ : ∃ g cap cur, v' = .slice (some ⟨g, 0, none⟩) 8 cap ∧ w.heap.size ≤ g ∧ w2.heap[g]? = some (.cells cur 9 (0, 0)) ∧ True ∧ True ∧ True ∧ cur.toList.take 8 = replList := by
    rcases hown.2 with ⟨_, e⟩ | ⟨g, cap, cur, e1, h2, h3, _, _, _, h6⟩
    · cases e
    · exact ⟨g, cap, cur, e1, h2, h3, trivial, trivial, trivial, by simpa using h6⟩
  have hgl : g < w2.heap.size := (Array.getElem?_eq_some_iff.1 hg).1
  clear hown
  go_enter Tryz.func69, Tryz.ntmps69
  go_wp2_with (at_builtin; refine Lib.wpList_append_run _ rfl _ _ 39 39 rfl (.slice none 0 0) (.slice (some ⟨b, 0, none⟩) 8 8) rfl rfl _ _ hrun ?_)
  go_wp2
  go_ret
  refine ⟨w2.heap.size, rfl, hgrow.size, ⟨g, cap, ⟨cur, 9, ?_, fun j u hu => ?_⟩, by omega, ?_⟩, ?_⟩
  · rw [Below.heap_alloc _ _ _ hgl]; exact hg
  · rw [← htake, List.getElem?_take] at hu
    split at hu
    · simpa using hu
    · cases hu
  · exact heap_alloc_new _ _
  · exact (Below.grown (Below.refl _ w) hgrow (Nat.le_refl _) (fun k hk => by cases hk)).alloc hgrow.size _
end Go.Proofs.YtphlamnaaogmaaaGreatDoor.M
