/- The two tables of package value: what a walk reads of them, as functions. -/
import Derived.Test.YtajbnfidcpfonaaGreatDoorGGlob
import Derived.WalkKit
import Derived.Deep.MidRow
import Derived.KernelRfl
import Derived.Test.YtajbnfidcpfonaaGreatDoorWAll
namespace Go.Proofs.YtajbnfidcpfonaaGreatDoor.M
open Go.RowKit

/-- An operation that gives a value. -/
def Yields (P : Program) (ρ : Operand → Value) (o : Oper) (w : World) (Φ : Ending → World → Prop) : Prop :=
  ∃ v w', (execOp ρ o).run P w = .ok (.value v) w' ∧ Φ (.returned v) w'
theorem Yields.mono {P : Program} {ρ : Operand → Value} {o : Oper} {w : World} {Φ Ψ : Ending → World → Prop} (h : Yields P ρ o w Φ) (hm : ∀ e w', Φ e w' → Ψ e w') : Yields P ρ o w Ψ :=
  let ⟨v, w', hr, hk⟩ := h
  ⟨v, w', hr, hm _ _ hk⟩
theorem gate_op {P : Program} {ops : Array Oper} {Q : Exit → Act → World → Prop} {rest : List Oper} {o : Oper} {a : Act} {W : World} {x : Op} (_ho : o.op = x) (h : wpList P ops Q (o :: rest) a W) : wpList P ops Q (o :: rest) a W := h
theorem goesT_ {P : Program} {ops : Array Oper} {Q : Exit → Act → World → Prop} {rest : List Oper} {oi : Oper} {a : Act} {w : World} (N : Option Tmp) (hd : oi.dst = N) (hg : oi.guard = none)
    (h : Yields P a.eval oi w fun e w' => ∃ v, e = .returned v ∧ wpList P ops Q rest (a.put N v) w') : wpList P ops Q (oi :: rest) a w := by
  refine wpList_plain hg fun K hK => ?_
  obtain ⟨v, w', hrun, v', he, hk⟩ := h
  cases he
  unfold Oper.wp
  rw [hrun]
  subst hd
  exact hK _ _ hk

def kindsCs : List Value := kindTab.map fun x => .int .i64 x
def value_kindsAll.f : Option Int := some 0
theorem value_kindsAll.calls {ρ : Operand → Value} {o : Oper} (r : Int) (w : World) (hG_ : GW w) (_h : value_kindsAll.f = some r)
    (hop : o.op = .load 63 (.global 1) ∧ ρ (.global 1) = .pointer (some ⟨1, 0, none⟩) := by exact ⟨by with_unfolding_all rfl, by with_unfolding_all rfl⟩) :
    Yields Tryz.prog ρ o w fun e w' => e = .returned (.agg kindsCs.toArray) ∧ Below w.heap.size w w' := by
  obtain ⟨ho, hx⟩ := hop
  refine ⟨_, w, ?_, rfl, Below.refl _ _⟩
  unfold execOp
  simp only [ho, hx]
  rw [Sem.run_bind, run_loadAt_mid w 1 0 63 kindsCs _ (fun j v hv => ?_) Tryz.underlying63 rfl (by kernel_rfl)]
  · rfl
  · rw [Nat.zero_add]
    by_cases hj : j < 16
    · rw [hG_.2.1 j hj, ← hv, kindsCs, List.getElem?_map]
      have : kindTab[j]? = some (kindTab.getD j 0) := by rw [List.getD_eq_getElem?_getD, List.getElem?_eq_getElem (by exact hj)]; rfl
      rw [this]; rfl
    · rw [List.getElem?_eq_none (by simp [kindsCs, kindTab]; omega)] at hv; cases hv
def kNum (i : Int) : Int := if i = 1 then 3 else if i = 2 then 5 else if i = 3 then 7 else 0
def kDen (i : Int) : Int := if i = 1 then 2 else if i = 2 then 4 else if i = 3 then 4 else 0
def value_kindsAt.f (a0 : Int) : Option (Int × Int × Int × Int) := if 0 ≤ a0 ∧ a0 < 4 then some (0, 0, kNum a0, kDen a0) else none
theorem value_kindsAt.calls {ρ : Operand → Value} {o : Oper} (a0 r1 r2 r3 r4 : Int) (w : World) (_hG : GW w) (h : value_kindsAt.f a0 = some (r1, r2, r3, r4))
    (hop : ∃ tx ti, o.op = .index 63 (.tmp tx) (.tmp ti) ∧ ρ (.tmp tx) = .agg kindsCs.toArray ∧ ρ (.tmp ti) = .int .i64 a0 := by exact ⟨_, _, by with_unfolding_all rfl, by with_unfolding_all rfl, by with_unfolding_all rfl⟩) :
    Yields Tryz.prog ρ o w fun e w' => e = .returned (.agg #[.int .i64 r1, .int .i64 r2, .int .i64 r3, .int .i64 r4]) ∧ Below w.heap.size w w' := by
  obtain ⟨tx, ti, ho, hx, hi⟩ := hop
  unfold value_kindsAt.f at h
  split at h
  · rename_i hc
    have e := Option.some.inj h
    have hcases : a0 = 0 ∨ a0 = 1 ∨ a0 = 2 ∨ a0 = 3 := by omega
    refine ⟨.agg #[.int .i64 r1, .int .i64 r2, .int .i64 r3, .int .i64 r4], w, ?_, rfl, Below.refl _ _⟩
    unfold execOp
    simp only [ho, hx, hi]
    simp only [Prod.mk.injEq] at e
    obtain ⟨e1, e2, e3, e4⟩ := e
    subst e1 e2 e3 e4
    rcases hcases with rfl | rfl | rfl | rfl <;> kernel_rfl
  · cases h
def value_dotAddr.f (a0 : Int) : Option Int := if 0 ≤ a0 ∧ a0 < 3 then some a0 else none
theorem value_dotAddr.calls {ρ : Operand → Value} {o : Oper} (a0 r : Int) (w : World) (_hG : GW w) (h : value_dotAddr.f a0 = some r)
    (hop : ∃ ti, o.op = .indexAddr 57 (.global 0) (.tmp ti) ∧ ρ (.global 0) = .pointer (some ⟨0, 0, none⟩) ∧ ρ (.tmp ti) = .int .i64 a0 := by exact ⟨_, by with_unfolding_all rfl, by with_unfolding_all rfl, by with_unfolding_all rfl⟩) :
    Yields Tryz.prog ρ o w fun e w' => e = .returned (.pointer (some ⟨0, r.toNat * 2, none⟩)) ∧ Below w.heap.size w w' := by
  obtain ⟨ti, ho, hx, hi⟩ := hop
  unfold value_dotAddr.f at h
  split at h
  · rename_i hc
    obtain rfl := Option.some.inj h
    have hcases : a0 = 0 ∨ a0 = 1 ∨ a0 = 2 := by omega
    refine ⟨_, w, ?_, rfl, Below.refl _ _⟩
    unfold execOp
    simp only [ho, hx, hi]
    rcases hcases with rfl | rfl | rfl <;> kernel_rfl
  · cases h
def dNum (i : Int) : Int := if i = 0 then 1 else if i = 1 then 3 else 7
def dDen (i : Int) : Int := if i = 0 then 1 else if i = 1 then 2 else 4
def value_dotLoad.f (a0 : Int) : Option (Int × Int) := if 0 ≤ a0 ∧ a0 < 3 then some (dNum a0, dDen a0) else none
theorem value_dotLoad.calls {ρ : Operand → Value} {o : Oper} (a0 r1 r2 : Int) (w : World) (hG_ : GW w) (h : value_dotLoad.f a0 = some (r1, r2))
    (hop : ∃ tx, o.op = .load 25 (.tmp tx) ∧ ρ (.tmp tx) = .pointer (some ⟨0, a0.toNat * 2, none⟩) := by exact ⟨_, by with_unfolding_all rfl, by with_unfolding_all rfl⟩) :
    Yields Tryz.prog ρ o w fun e w' => e = .returned (.agg #[.int .i64 r1, .int .i64 r2]) ∧ Below w.heap.size w w' := by
  obtain ⟨tx, ho, hx⟩ := hop
  unfold value_dotLoad.f at h
  split at h
  · rename_i hc
    have e := Option.some.inj h
    simp only [Prod.mk.injEq] at e
    obtain ⟨e1, e2⟩ := e
    have hcases : a0 = 0 ∨ a0 = 1 ∨ a0 = 2 := by omega
    refine ⟨.agg #[.int .i64 r1, .int .i64 r2], w, ?_, rfl, Below.refl _ _⟩
    unfold execOp
    simp only [ho, hx]
    rw [Sem.run_bind, run_loadAt_mid w 0 (a0.toNat * 2) 25 [.int .i64 r1, .int .i64 r2] _ (fun j v hv => ?_) Tryz.underlying25 rfl (by kernel_rfl)]
    · rfl
    · have hj : j = 0 ∨ j = 1 := by
        rcases Nat.lt_or_ge j 2 with hj | hj
        · omega
        · rw [List.getElem?_eq_none (by simpa using hj)] at hv; cases hv
      rw [hG_.2.2 _ (by omega), ← hv]
      subst e1 e2
      rcases hcases with rfl | rfl | rfl <;> rcases hj with rfl | rfl <;> rfl
  · cases h
end Go.Proofs.YtajbnfidcpfonaaGreatDoor.M
