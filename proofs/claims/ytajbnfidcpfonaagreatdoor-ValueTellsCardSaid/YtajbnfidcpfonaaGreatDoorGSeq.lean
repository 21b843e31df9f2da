/- Slices of values as data of the machine: what Split gives. -/
import Derived.Test.YtajbnfidcpfonaaGreatDoorLay
import Derived.Test.YtajbnfidcpfonaaGreatDoorM14
set_option linter.unusedVariables false
set_option linter.unusedSimpArgs false
namespace Go.Proofs.YtajbnfidcpfonaaGreatDoor.M
open Go Go.RowKit Go.Proofs Go.Proofs.Qx Go.Proofs.YtajbnfidcpfonaaGreatDoorW.PrintWords Go.Proofs.YtajbnfidcpfonaaGreatDoorW.PrintLast Go.Proofs.YtajbnfidcpfonaaGreatDoorW.PrintMore

def row23 (x : S23) : List D := [.int x.f0, .int x.f1, .int x.f2, .int x.f3]
def val23 (x : S23) : List Value := [.int .i64 x.f0, .int .i64 x.f1, .int .i64 x.f2, .int .i64 x.f3]

theorem seq_back {w w1 : World} {v : Value} {xs : List S23} (hb : Below w.heap.size w w1) (hr : Kd.R k23 23 w1 w.heap.size (fun _ => True) v xs) (imm : Nat → Nat → Prop) (himm : ∀ b o, imm b o → b < w.heap.size) :
    ∃ imm', After imm w imm' w1 ∧ ∀ G : Gh, G.lay = lay → (AV.seq 23 (xs.map row23)).is { G with imm := imm' } w1 v := by
  refine ⟨fun b o => imm b o ∨ (w.heap.size ≤ b ∧ b < w1.heap.size), ⟨fun _ _ h => .inl h, fun b o hlt h => h.elim id (fun h => absurd h.1 (by omega)), fun b o h => h.elim (fun h => Nat.lt_of_lt_of_le (himm _ _ h) hb.size) (fun h => h.2), hb⟩, fun G hG => ?_⟩
  show CRep G.lay _ w1 (.seq 23) (.seq (xs.map row23)) v
  rw [hG]
  have hrd := hr.2.reads
  obtain ⟨-, inner, ho, hrep⟩ := hr
  rcases ho.2 with ⟨rfl, h0⟩ | ⟨g, cap, cur, rfl, hg, hh, hnc, _⟩
  · obtain rfl : xs = [] := List.eq_nil_of_length_eq_zero h0
    exact .nil _
  · obtain ⟨A, c, hv, hle, h1, h2, h3⟩ := hrd
    obtain ⟨rfl, -, rfl⟩ : A = some ⟨g, 0, none⟩ ∧ True ∧ c = cap := by
      injection hv with e1 e2 e3
      exact ⟨e1.symm, trivial, e3.symm⟩
    have hlt : g < w1.heap.size := (Array.getElem?_eq_some_iff.1 hh).1
    have := CRep.seq (lay := lay) (imm := fun b o => imm b o ∨ (w.heap.size ≤ b ∧ b < w1.heap.size)) (w := w1) 23 (xs.map row23) g 0 c
      (fun i j => ((xs[i]?.map val23).getD [])[j]?.getD undef) (by simpa using hle)
      (fun i e he => by
        rw [List.getElem?_map] at he
        cases hx : xs[i]? with
        | none => rw [hx] at he; cases he
        | some x => rw [hx] at he; cases he; rfl)
      (fun i j hi hj => by
        rw [List.length_map] at hi
        refine ⟨.inr ⟨hg, hlt⟩, ?_⟩
        obtain ⟨ad, e, hc⟩ := h3 (by omega)
        cases e
        obtain ⟨cs, hl, hk, hcell⟩ := hc i xs[i] (List.getElem?_eq_getElem hi)
        have hcs := k23_openM hk
        rw [List.getElem?_eq_getElem hi]
        have hj4 : j < 4 := hj
        have hj' : (val23 xs[i])[j]? = some ((val23 xs[i])[j]'hj4) := List.getElem?_eq_getElem _
        have := hcell j _ (by rw [hcs]; exact hj')
        show w1.cell? ⟨g, 0 + i * 4 + j, none⟩ = some (((val23 xs[i])[j]?).getD undef)
        rw [hj', Option.getD_some, ← this]
        congr 1
        rw [add_addr]
        congr 1
        show 0 + i * 4 + j = 0 + (i * 4 + j)
        omega)
      (fun i j e d k he hd hk => by
        rw [List.getElem?_map] at he
        cases hx : xs[i]? with
        | none => rw [hx] at he; cases he
        | some x =>
          rw [hx] at he; cases he
          match j, hd, hk with
          | 0, hd, hk => cases hd; cases hk; exact .int _ _
          | 1, hd, hk => cases hd; cases hk; exact .int _ _
          | 2, hd, hk => cases hd; cases hk; exact .int _ _
          | 3, hd, hk => cases hd; cases hk; exact .int _ _
          | j + 4, hd, hk => simp [row23] at hd)
    rw [List.length_map] at this
    exact this
end Go.Proofs.YtajbnfidcpfonaaGreatDoor.M
