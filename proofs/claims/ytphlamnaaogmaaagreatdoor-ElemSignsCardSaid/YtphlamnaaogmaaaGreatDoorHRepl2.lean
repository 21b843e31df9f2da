import Derived.Test.YtphlamnaaogmaaaGreatDoorHRepl1
import Derived.Handy
import Derived.Lib.JoinLaws
import Derived.Lib.ConvBytes
import Derived.Deep.WholeRow
import Derived.Deep.LoopGhost
namespace Go.Proofs.YtphlamnaaogmaaaGreatDoor.M
open Go.RowKit Go.Proofs.Qx
set_option linter.unusedVariables false
set_option linter.unusedSimpArgs false

def replTable : List (UInt8 × ByteArray) := [(34, ⟨#[38, 113, 117, 111, 116, 59]⟩), (62, ⟨#[38, 103, 116, 59]⟩), (60, ⟨#[38, 108, 116, 59]⟩), (38, ⟨#[38, 97, 109, 112, 59]⟩)]

def EntryAt (B : Nat) (w : World) (t p : Nat) (x : Option Value) : Option ByteArray → Prop
  | none => x = some (.slice none 0 0)
  | some v => ∃ (g cap : Nat) (gc : Array Value) (fz : Nat × Nat), x = some (.slice (some ⟨g, 0, none⟩) v.size cap) ∧ w.heap[g]? = some (.cells gc 5 fz) ∧ B ≤ g ∧ g ≠ t ∧ g ≠ p ∧ v.size ≤ cap ∧ gc.size = cap ∧ gc.toList.take v.size = Lib.strCells v

def TabAt (B : Nat) (w : World) (t : Nat) (d : List (UInt8 × ByteArray)) : Prop :=
  ∃ (cur pc : Array Value) (p : Nat), w.heap[t]? = some (.cells cur 176 (0, 0)) ∧ cur.size = 257 ∧ cur[256]? = some (.slice (some ⟨p, 0, none⟩) d.length 4) ∧ w.heap[p]? = some (.cells pc 9 (0, 0)) ∧ pc.size = 4 ∧ p ≠ t ∧ B ≤ t ∧ B ≤ p ∧
    pc.toList.take d.length = d.map (fun x => Value.string ⟨#[x.1]⟩) ∧ ∀ c : UInt8, EntryAt B w t p cur[c.toNat]? (d.lookup c)

theorem TabAt.turn {B : Nat} {w w' : World} {t : Nat} {d : List (UInt8 × ByteArray)} (h : TabAt B w t d) (hk : ∀ k, B ≤ k → k < w.heap.size → w'.heap[k]? = w.heap[k]?) : TabAt B w' t d := by
  have hk' : ∀ (k : Nat) (o : Obj), B ≤ k → w.heap[k]? = some o → w'.heap[k]? = some o := fun k o hb ho => (hk k hb (Array.getElem?_eq_some_iff.1 ho).1).trans ho
  obtain ⟨cur, pc, p, ht, hcs, h256, hp, hps, hpt, hBt, hBp, htk, he⟩ := h
  refine ⟨cur, pc, p, hk' _ _ hBt ht, hcs, h256, hk' _ _ hBp hp, hps, hpt, hBt, hBp, htk, fun c => ?_⟩
  have := he c
  cases hq : d.lookup c with
  | none => rw [hq] at this; exact this
  | some u =>
    rw [hq] at this
    obtain ⟨g, cap, gc, fz, e1, e2, e0, e3⟩ := this
    exact ⟨g, cap, gc, fz, e1, hk' _ _ e0 e2, e0, e3⟩

theorem setRow_size (w : World) (g : Nat) (cs : Array Value) : (w.setRow g cs).heap.size = w.heap.size := by unfold World.setRow; simp

theorem tabAt_round {B : Nat} {w : World} {t p : Nat} {d : List (UInt8 × ByteArray)} {cur pc : Array Value} (ht : w.heap[t]? = some (.cells cur 176 (0, 0))) (hs : cur.size = 257) (hp : w.heap[p]? = some (.cells pc 9 (0, 0))) (hps : pc.size = 4) (hpt : p ≠ t) (hBt : B ≤ t) (hBp : B ≤ p)
    (htk : pc.toList.take d.length = d.map (fun x => Value.string ⟨#[x.1]⟩)) (he : ∀ c : UInt8, EntryAt B w t p cur[c.toNat]? (d.lookup c)) (c : UInt8) (v : ByteArray) (hc : d.lookup c = none) (hd : d.length < 4) (hB : B ≤ w.heap.size) (o1 o2 : Obj) {w3 w5 : World} {cv : Nat}
    (h3 : w3 = ((w.alloc o1).alloc o2).setRow p (pc.toList.take d.length ++ [Value.string ⟨#[c]⟩] ++ pc.toList.drop (d.length + 1)).toArray)
    (h5 : w5 = Lib.bytesWorld (w3.setCell ⟨t, 256, none⟩ (.slice (some ⟨p, 0, none⟩) (d.length + 1) 4)) 5 v) (hcv : cv = grownCap (w3.setCell ⟨t, 256, none⟩ (.slice (some ⟨p, 0, none⟩) (d.length + 1) 4)) v.size 0 5) :
    TabAt B (w5.setCell ⟨t, c.toNat, none⟩ (.slice (some ⟨w3.heap.size, 0, none⟩) v.size cv)) t (d ++ [(c, v)]) ∧ Below B w (w5.setCell ⟨t, c.toNat, none⟩ (.slice (some ⟨w3.heap.size, 0, none⟩) v.size cv)) := by
  have htl : t < w.heap.size := (Array.getElem?_eq_some_iff.1 ht).1
  have hpl : p < w.heap.size := (Array.getElem?_eq_some_iff.1 hp).1
  have hsz3 : w3.heap.size = w.heap.size + 2 := by rw [h3, setRow_size, World.size_alloc, World.size_alloc]
  have h2 : ∀ k, k < w.heap.size → ((w.alloc o1).alloc o2).heap[k]? = w.heap[k]? := fun k hk => by rw [Below.heap_alloc _ _ _ (by rw [World.size_alloc]; omega), Below.heap_alloc _ _ _ hk]
  have h3k : ∀ k, k < w.heap.size → k ≠ p → w3.heap[k]? = w.heap[k]? := fun k hk hkp => by rw [h3, setRow_other _ _ _ _ hkp, h2 k hk]
  have h3p : w3.heap[p]? = some (.cells (pc.toList.take d.length ++ [Value.string ⟨#[c]⟩] ++ pc.toList.drop (d.length + 1)).toArray 9 (0, 0)) := by
    rw [h3]; exact setRow_heap _ p pc _ 9 _ ((h2 p hpl).trans hp)
  have h3t : w3.heap[t]? = some (.cells cur 176 (0, 0)) := (h3k t htl (fun e => hpt e.symm)).trans ht
  have h4t := setC_heap (v := .slice (some ⟨p, 0, none⟩) (d.length + 1) 4) (p := 256) h3t
  have hsz4 : (w3.setCell ⟨t, 256, none⟩ (.slice (some ⟨p, 0, none⟩) (d.length + 1) 4)).heap.size = w3.heap.size := setC_size
  have h5k : ∀ k, k < w3.heap.size → w5.heap[k]? = (w3.setCell ⟨t, 256, none⟩ (.slice (some ⟨p, 0, none⟩) (d.length + 1) 4)).heap[k]? := fun k hk => by rw [h5]; exact Lib.bytesWorld_at_old _ _ _ _ (by rw [hsz4]; exact hk)
  have h5n : w5.heap[w3.heap.size]? = some (.cells (Lib.bytesCells (w3.setCell ⟨t, 256, none⟩ (.slice (some ⟨p, 0, none⟩) (d.length + 1) 4)) 5 v) 5 ((Lib.bytesCells (w3.setCell ⟨t, 256, none⟩ (.slice (some ⟨p, 0, none⟩) (d.length + 1) 4)) 5 v).size, (Lib.bytesCells (w3.setCell ⟨t, 256, none⟩ (.slice (some ⟨p, 0, none⟩) (d.length + 1) 4)) 5 v).size + 1)) := by
    rw [h5, ← hsz4]; exact Lib.bytesWorld_at_new _ _ _
  have h5t := (h5k t (by omega)).trans h4t
  have h6t := setC_heap (v := .slice (some ⟨w3.heap.size, 0, none⟩) v.size cv) (p := c.toNat) h5t
  have hcs : c.toNat < 256 := c.toNat_lt
  have h6k : ∀ k, k ≠ t → (w5.setCell ⟨t, c.toNat, none⟩ (.slice (some ⟨w3.heap.size, 0, none⟩) v.size cv)).heap[k]? = w5.heap[k]? := fun k hk => setC_other hk
  have holdk : ∀ k, k < w.heap.size → k ≠ t → k ≠ p → (w5.setCell ⟨t, c.toNat, none⟩ (.slice (some ⟨w3.heap.size, 0, none⟩) v.size cv)).heap[k]? = w.heap[k]? := fun k hk hkt hkp => by
    rw [h6k k hkt, h5k k (by omega), setC_other hkt, h3k k hk hkp]
  constructor
  · refine ⟨_, (pc.toList.take d.length ++ [Value.string ⟨#[c]⟩] ++ pc.toList.drop (d.length + 1)).toArray, p, h6t, ?_, ?_, ?_, ?_, hpt, hBt, hBp, ?_, ?_⟩
    · simpa using hs
    · rw [Array.getElem?_setIfInBounds_ne (by omega), Array.getElem?_setIfInBounds_self_of_lt (by omega)]
      simp
    · rw [h6k p hpt, h5k p (by omega), setC_other hpt]
      exact h3p
    · simp only [List.size_toArray, List.length_append, List.length_take, List.length_drop, Array.length_toList, List.length_singleton]
      omega
    · have hlen : (pc.toList.take d.length).length = d.length := by simp; omega
      rw [List.length_append, List.length_singleton, List.toList_toArray, List.take_append_of_le_length (by rw [List.length_append, hlen]; simp), List.map_append, ← htk]
      rw [List.take_of_length_le (by rw [List.length_append, hlen]; simp)]
      rfl
    · intro x
      rw [List.lookup_append]
      by_cases hx : x = c
      · subst hx
        rw [hc]
        have : List.lookup x [(x, v)] = some v := by simp [List.lookup]
        rw [this, Array.getElem?_setIfInBounds_self_of_lt (by simp; omega)]
        refine ⟨w3.heap.size, cv, _, _, rfl, (h6k _ (by omega)).trans h5n, by omega, by omega, by omega, ?_, ?_, ?_⟩
        · rw [hcv]; exact grownCap_ge _ _ _ _
        · rw [hcv, Lib.bytesCells]
          have := grownCap_ge (w3.setCell ⟨t, 256, none⟩ (.slice (some ⟨p, 0, none⟩) (d.length + 1) 4)) v.size 0 5
          simp only [Array.size_append, Array.size_map, Array.size_replicate]
          show v.size + _ = _
          omega
        · rw [Lib.bytesCells]
          simp only [Array.toList_append, Array.toList_map]
          rw [List.take_append_of_le_length (by simp), List.take_of_length_le (by simp)]
          rfl
      · have h0 : List.lookup x [(c, v)] = none := by
          have : (x == c) = false := by simpa using hx
          simp [List.lookup, this]
        have hxn : x.toNat ≠ c.toNat := fun e => hx (UInt8.toNat_inj.1 e)
        have hx2 : x.toNat < 256 := x.toNat_lt
        rw [h0, Option.or_none, Array.getElem?_setIfInBounds_ne (by omega), Array.getElem?_setIfInBounds_ne (by omega)]
        have := he x
        cases hq : d.lookup x with
        | none => rw [hq] at this; exact this
        | some u =>
          rw [hq] at this
          obtain ⟨g, cap, gc, fz, e1, e2, e0, e3, e4, e5⟩ := this
          exact ⟨g, cap, gc, fz, e1, (holdk g (Array.getElem?_eq_some_iff.1 e2).1 e3 e4).trans e2, e0, e3, e4, e5⟩
  · have b1 : Below B w ((w.alloc o1).alloc o2) := ((Below.refl _ w).alloc hB _).alloc (by rw [World.size_alloc]; omega) _
    have b3 : Below B w w3 := by
      refine ⟨?_, ?_, ?_, by omega, fun k hk => h3k k (by omega) (by omega)⟩
      · rw [h3]; exact b1.os
      · rw [h3]; exact b1.tape
      · rw [h3]; exact b1.output
    have b4 := b3.setCell (p := ⟨t, 256, none⟩) hBt (.slice (some ⟨p, 0, none⟩) (d.length + 1) 4)
    have b5 : Below B w w5 := by rw [h5]; exact b4.trans ((Lib.bytesWorld_below _ _ _).mono (by rw [hsz4]; omega))
    exact b5.setCell hBt _
end Go.Proofs.YtphlamnaaogmaaaGreatDoor.M
