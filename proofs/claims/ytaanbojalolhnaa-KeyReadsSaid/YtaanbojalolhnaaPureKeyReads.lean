/- The key of any text is the one that the reference reads; no condition. -/
import Derived.Test.YtaanbojalolhnaaM20
import Derived.Test.YtaanbojalolhnaaPureBase
set_option linter.unusedVariables false
set_option linter.unusedSimpArgs false
namespace Go.Proofs.Ytaanbojalolhnaa.Pure
open Go.RowKit Go.Proofs.Ytaanbojalolhnaa.M Go.Proofs.YtaanbojalolhnaaW.PrintWords Go.Proofs.YtaanbojalolhnaaW.PrintLast

theorem text_at : ∀ j : Fin 20, ∀ i : Fin 15, ∀ m : Bool, partitaref03_Text.f (80 + j.val) (-7 + (i.val : Int)) m = some (nameOf (i, m), 0) := by decide +kernel
/-- the keys from number j on -/
def keysFrom (j : Nat) : List RKey := (keyList 15).drop (2 * j)
theorem keys_from : ∀ j : Fin 15, keysFrom j.val = (j, false) :: (j, true) :: keysFrom (j.val + 1) := by decide +kernel
def answer (s : ByteArray) (l : List RKey) : Int × Bool × Int := match firstKey s l with | some x => (x.five, x.2, 0) | none => (0, false, 30)
theorem ref_from (s : ByteArray) (d : Nat) : ∀ (j : Nat), j + d = 15 → partitaref03_Read.l0 (80 + d + 1) s (-7 + (j : Int)) = some (answer s (keysFrom j)) := by
  induction d with
  | zero =>
    intro j hj
    obtain rfl : j = 15 := by omega
    rw [partitaref03_Read.l0, if_neg (by omega)]
    rfl
  | succ d ih =>
    intro j hj
    have h15 : j < 15 := by omega
    have e0 := text_at ⟨d + 1, by omega⟩ ⟨j, h15⟩ false
    have e1 := text_at ⟨d + 1, by omega⟩ ⟨j, h15⟩ true
    simp only at e0 e1
    rw [show 80 + (d + 1) + 1 = (80 + (d + 1)) + 1 from rfl]
    rw [partitaref03_Read.l0, if_pos (by omega), e0, e1]
    simp only [Option.bind_some]
    rw [keys_from ⟨j, h15⟩]
    by_cases hf : s.toList = (nameOf (⟨j, h15⟩, false)).toList
    · rw [if_pos hf]; simp [answer, firstKey, hf, RKey.five]
    · rw [if_neg hf]
      by_cases ht : s.toList = (nameOf (⟨j, h15⟩, true)).toList
      · rw [if_pos ht]
        have hf' : ((nameOf (⟨j, h15⟩, false)).toList == s.toList) = false := beq_eq_false_iff_ne.2 (fun h => hf h.symm)
        simp [answer, firstKey, List.find?_cons, hf', ht, RKey.five]; rw [ht] at hf'; simp [hf']
      · rw [if_neg ht]
        have hf' : ((nameOf (⟨j, h15⟩, false)).toList == s.toList) = false := beq_eq_false_iff_ne.2 (fun h => hf h.symm)
        have ht' : ((nameOf (⟨j, h15⟩, true)).toList == s.toList) = false := beq_eq_false_iff_ne.2 (fun h => ht h.symm)
        have hi := ih (j + 1) (by omega)
        rw [show wrap64 (-7 + (j : Int) + 1) = -7 + ((j + 1 : Nat) : Int) from by unfold wrap64; omega]
        refine hi.trans ?_
        simp only [answer, firstKey, List.find?_cons, hf', ht']

theorem KeyReads : partitalaw03_KeyReads.Pure := by
  intro s _
  refine ⟨80 + 15 + 1, ?_⟩
  have ha : partitalaw03_awake.f (80 + 15 + 1) = some true := by decide +kernel
  have hr := ref_from s 15 0 rfl
  have hk : key_Read.f s = some (answer s (keysFrom 0)) := by
    unfold key_Read.f answer
    rw [show keysFrom 0 = keyList 15 from rfl]
    cases firstKey s (keyList 15) <;> rfl
  unfold partitalaw03_KeyReads.f partitaref03_Read.f
  rw [ha, hk, show (-7 : Int) = -7 + ((0 : Nat) : Int) from rfl, hr]
  simp

end Go.Proofs.Ytaanbojalolhnaa.Pure
