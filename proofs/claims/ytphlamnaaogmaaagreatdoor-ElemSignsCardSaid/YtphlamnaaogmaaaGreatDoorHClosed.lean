import Derived.Test.YtphlamnaaogmaaaGreatDoorGGlob
import Derived.Test.YtphlamnaaogmaaaGreatDoorLay
import Derived.Laws.Externs
import Derived.Lib.Walk
import Derived.WalkKit
import Derived.Deep.RegionHeld3
namespace Go.Proofs.YtphlamnaaogmaaaGreatDoor.M
open Go.RowKit Go.Proofs.Qx
set_option linter.unusedVariables false
set_option linter.unusedSimpArgs false
theorem step_append_own {P : Program} {ops : Array Oper} {o : Oper} {a : Act} {w : World} {K : Act → World → Prop} {Q : Exit → Act → World → Prop} {E : Prop}
    (hg : o.guard = none) (s x : Operand) (t : TypeId) (hop : o.op = Op.call { callee := Callee.builtin Builtin.append, args := #[s, x], argTypes := #[t, t] })
    (base e : TypeId) (i : TypeInfo) (z : Value) (size : Nat) (ht : P.underlying t = some (.slice e)) (hi : P.info? e = some i) (hz : i.zero = some z) (hsize : i.size = size) (hzs : z.cells.size = size) (hsz : 0 < size)
    (v : Value) (hs : a.eval s = v) (n : Nat) (xs : List Value) (hown : w.ownsRow base e size v n xs)
    (ad : Addr) (m c : Nat) (news : List Value) (hx : a.eval x = .slice (some ad) m c) (hl : news.length = m * size) (hc : ∀ j u, news[j]? = some u → w.cell? (ad.add j) = some u) (h1 : ∀ u ∈ news, u.oneCell' = true)
    (h63 : n + m ≤ maxLen) (hbytes : (n + m) * i.bytes ≤ 140737488355328) (hbase : base ≤ w.heap.size)
    (hK : ∀ v' w', w'.ownsRow base e size v' (n + m) (xs ++ news) → w.grownBy w' v.ownBlock → (v'.ownBlock = v.ownBlock ∨ v'.ownBlock = some w.heap.size ∧ ∀ k, k < w.heap.size → w'.heap[k]? = w.heap[k]?) → K (a.put o.dst v') w') :
    if Region.wanted o (yielded ops a.tmps) = true then Oper.wp P o a w K Q else E := by
  have hw : Region.wanted o (yielded ops a.tmps) = true := by simp [Region.wanted, hg]
  rw [if_pos hw]
  obtain ⟨v', w', hrun, h2, h3, _, h4⟩ := append_runs (P := P) w base t o.type e i z size ht hi hz hsize hzs hsz v n xs hown (.slice (some ad) m c) m news hl (.inr ⟨ad, c, rfl, hc⟩) h1 h63 hbytes hbase
  unfold Oper.wp
  simp [execOp, hop, resolve, invoke, builtin, hs, hx, hrun, Result.andThen]
  exact hK v' w' h2 h3 h4

structure Closed (B : Nat) (w : World) (g0 p : Nat) (cur : Array Value) (u : Value) (k : Nat) (xs : List Value) (u' : Value) (w' : World) : Prop where
  owns : w'.ownsRow B 27 4 u' (k + 1) xs
  row : w'.heap[g0]? = some (.cells (cur.setIfInBounds p u') 27 (0, 0))
  rest : ∀ g, g < w.heap.size → g ≠ g0 → u.ownBlock ≠ some g → w'.heap[g]? = w.heap[g]?
  blk : u'.ownBlock = u.ownBlock ∨ ∃ b, u'.ownBlock = some b ∧ w.heap.size ≤ b ∧ ∀ g, g < w.heap.size → g ≠ g0 → w'.heap[g]? = w.heap[g]?
  size : w.heap.size ≤ w'.heap.size
  os : w'.os = w.os
  tape : w'.tape = w.tape
  output : w'.output = w.output

theorem setCell_heap {w : World} {g p : Nat} {v : Value} {cur : Array Value} {e : TypeId} (h : w.heap[g]? = some (.cells cur e (0, 0))) : (w.setCell ⟨g, p, none⟩ v).heap[g]? = some (.cells (cur.setIfInBounds p v) e (0, 0)) := by
  unfold World.setCell
  simp [Array.getElem?_modify, h]
theorem setCell_other {w : World} {g p k : Nat} {v : Value} (h : k ≠ g) : (w.setCell ⟨g, p, none⟩ v).heap[k]? = w.heap[k]? := by
  unfold World.setCell
  simp only [Array.getElem?_modify]
  rw [if_neg (fun e => h e.symm)]
theorem setCell_size {w : World} {g p : Nat} {v : Value} : (w.setCell ⟨g, p, none⟩ v).heap.size = w.heap.size := by
  unfold World.setCell; simp

theorem setCell_os {w : World} {a : Addr} {v : Value} : (w.setCell a v).os = w.os ∧ (w.setCell a v).tape = w.tape ∧ (w.setCell a v).output = w.output := by unfold World.setCell; exact ⟨rfl, rfl, rfl⟩

theorem Closed.two {B : Nat} {w WA w' : World} {g0 p : Nat} {cur : Array Value} {u v' : Value} {k : Nat} {xs : List Value} (hWb : ∀ b, b < w.heap.size → WA.heap[b]? = w.heap[b]?) (hws : w.heap.size ≤ WA.heap.size) (ho : WA.os = w.os ∧ WA.tape = w.tape ∧ WA.output = w.output)
    (h1 : w'.ownsRow B 27 4 v' (k + 1) xs) (h2 : WA.grownBy w' u.ownBlock) (h3 : v'.ownBlock = u.ownBlock ∨ v'.ownBlock = some WA.heap.size ∧ ∀ k, k < WA.heap.size → w'.heap[k]? = WA.heap[k]?) (hg : g0 < w.heap.size) (hgb : w.heap[g0]? = some (.cells cur 27 (0, 0))) (hug : u.ownBlock ≠ some g0) :
    Closed B w g0 p cur u k xs v' (w'.setCell ⟨g0, p, none⟩ v') := by
  have hgb' : w'.heap[g0]? = some (.cells cur 27 (0, 0)) := (h2.block g0 (by omega) (fun e => hug e.symm)).trans ((hWb g0 hg).trans hgb)
  have hne : ∀ g, v'.ownBlock = some g → g ≠ g0 := fun g e q => by
    subst q
    rcases h3 with h3 | ⟨h3, _⟩
    · exact hug (h3 ▸ e)
    · rw [e] at h3; have := Option.some.inj h3; omega
  refine ⟨ownsRow_of_block h1 fun g e => setCell_other (hne g e), setCell_heap hgb', fun g hgl hgn hgu => ?_, ?_, ?_, ?_, ?_, ?_⟩
  · rw [setCell_other hgn, h2.block g (by omega) (fun e => hgu e.symm), hWb g hgl]
  · rcases h3 with h3 | ⟨h3, h4⟩
    · exact .inl h3
    · exact .inr ⟨_, h3, hws, fun g hgl hgn => by rw [setCell_other hgn, h4 g (by omega), hWb g hgl]⟩
  · rw [setCell_size]; exact Nat.le_trans hws h2.size
  · exact h2.os.trans ho.1
  · exact h2.tape.trans ho.2.1
  · exact h2.output.trans ho.2.2

theorem Closed.one {B : Nat} {w WA w' : World} {g0 p g' cap' : Nat} {cur cur' : Array Value} {u : Value} {k : Nat} {ys zs : List Value} {e0 e1 e2 e3 : Value} (hWb : ∀ b, b < w.heap.size → WA.heap[b]? = w.heap[b]?) (hws : w.heap.size ≤ WA.heap.size) (ho : WA.os = w.os ∧ WA.tape = w.tape ∧ WA.output = w.output)
    (hys : ys.length = k * 4) (hzs : zs.length = 4) (hB : B ≤ g') (hc' : w'.heap[g']? = some (.cells cur' 27 (0, 0))) (hkc : k + 1 ≤ cap') (hcm : cap' ≤ maxLen) (hcs : cur'.size = cap' * 4) (htk : cur'.toList.take ((k + 1) * 4) = ys ++ zs)
    (h2 : WA.grownBy w' u.ownBlock) (h3 : some g' = u.ownBlock ∨ some g' = some WA.heap.size ∧ ∀ k, k < WA.heap.size → w'.heap[k]? = WA.heap[k]?) (hg : g0 < w.heap.size) (hgb : w.heap[g0]? = some (.cells cur 27 (0, 0))) (hug : u.ownBlock ≠ some g0) :
    Closed B w g0 p cur u k (ys ++ [e0, e1, e2, e3]) (.slice (some ⟨g', 0, none⟩) (k + 1) cap') (((((w'.setCell ⟨g0, p, none⟩ (.slice (some ⟨g', 0, none⟩) (k + 1) cap')).setCell ⟨g', k * 4, none⟩ e0).setCell ⟨g', k * 4 + 1, none⟩ e1).setCell ⟨g', k * 4 + 2, none⟩ e2).setCell ⟨g', k * 4 + 3, none⟩ e3) := by
  have hgb' : w'.heap[g0]? = some (.cells cur 27 (0, 0)) := (h2.block g0 (by omega) (fun e => hug e.symm)).trans ((hWb g0 hg).trans hgb)
  have hne : g' ≠ g0 := fun q => by
    subst q
    rcases h3 with h3 | ⟨h3, _⟩
    · exact hug h3.symm
    · have := Option.some.inj h3; omega
  have s0 : (w'.setCell ⟨g0, p, none⟩ (.slice (some ⟨g', 0, none⟩) (k + 1) cap')).heap[g']? = some (.cells cur' 27 (0, 0)) := (setCell_other hne).trans hc'
  have s4 := setCell_heap (p := k * 4 + 3) (v := e3) (setCell_heap (p := k * 4 + 2) (v := e2) (setCell_heap (p := k * 4 + 1) (v := e1) (setCell_heap (p := k * 4) (v := e0) s0)))
  refine ⟨⟨by simp [hys]; omega, .inr ⟨g', cap', _, rfl, hB, s4, hkc, hcm, by simp [hcs], ?_⟩⟩, ?_, fun g hgl hgn hgu => ?_, ?_, ?_, ?_, ?_, ?_⟩
  · have hl : cur'.toList.length = cap' * 4 := by simpa using hcs
    have h4 : (k + 1) * 4 ≤ cap' * 4 := Nat.mul_le_mul_right _ hkc
    apply List.ext_getElem?
    intro i
    simp only [Array.toList_setIfInBounds]
    by_cases hi : i < k * 4
    · have : (cur'.toList.take ((k + 1) * 4))[i]? = (ys ++ zs)[i]? := by rw [htk]
      rw [List.getElem?_take, if_pos (by omega), List.getElem?_append_left (by omega)] at this
      rw [List.getElem?_take, if_pos (by omega), List.getElem?_append_left (by omega), ← this]
      rw [List.getElem?_set, if_neg (by omega), List.getElem?_set, if_neg (by omega), List.getElem?_set, if_neg (by omega), List.getElem?_set, if_neg (by omega)]
    · by_cases hi2 : i < (k + 1) * 4
      · rw [List.getElem?_take, if_pos hi2, List.getElem?_append_right (by omega), hys]
        have : i = k * 4 ∨ i = k * 4 + 1 ∨ i = k * 4 + 2 ∨ i = k * 4 + 3 := by omega
        rcases this with rfl | rfl | rfl | rfl
        · simp [List.getElem?_set, hl]; omega
        · simp [List.getElem?_set, hl]; omega
        · simp [List.getElem?_set, hl]; omega
        · simp [List.getElem?_set, hl]; omega
      · rw [List.getElem?_eq_none (by simp [hl]; omega), List.getElem?_eq_none (by simp [hys]; omega)]
  · rw [setCell_other hne.symm, setCell_other hne.symm, setCell_other hne.symm, setCell_other hne.symm]; exact setCell_heap hgb'
  · have hg' : g ≠ g' := fun e => by
      subst e
      rcases h3 with h3 | ⟨h3, _⟩
      · exact hgu h3.symm
      · have := Option.some.inj h3; omega
    rw [setCell_other hg', setCell_other hg', setCell_other hg', setCell_other hg', setCell_other hgn, h2.block g (by omega) (fun e => hgu e.symm), hWb g hgl]
  · rcases h3 with h3 | ⟨h3, h4⟩
    · exact .inl h3
    · have hgw := Option.some.inj h3
      exact .inr ⟨g', rfl, by omega, fun g hgl hgn => by
        have hg' : g ≠ g' := by omega
        rw [setCell_other hg', setCell_other hg', setCell_other hg', setCell_other hg', setCell_other hgn, h4 g (by omega), hWb g hgl]⟩
  · simp only [setCell_size]; exact Nat.le_trans hws h2.size
  · simp only [setCell_os]; exact h2.os.trans ho.1
  · simp only [setCell_os]; exact h2.tape.trans ho.2.1
  · simp only [setCell_os]; exact h2.output.trans ho.2.2

set_option maxHeartbeats 4000000 in
set_option maxRecDepth 100000 in
theorem closed_some (B : Nat) (w : World) (a g0 n cap : Nat) (cur : Array Value) (u : Value) (k : Nat) (ys : List Value) (e0 e1 e2 e3 : Value)
    (hc3 : w.cell? ⟨a, 3, none⟩ = some (.slice (some ⟨g0, 0, none⟩) n cap)) (ha : a < w.heap.size) (hn : 0 < n) (hgb : w.heap[g0]? = some (.cells cur 27 (0, 0)))
    (hcu : cur[(n - 1) * 4 + 3]? = some u) (hn63 : n ≤ 9223372036854775807) (hown : w.ownsRow B 27 4 u k ys) (hk : k < 1073741823) (hB : B ≤ w.heap.size) (hag : a ≠ g0) (hug : u.ownBlock ≠ some g0) (hua : u.ownBlock ≠ some a)
    (hv0 : e0.oneCell' = true) (hv1 : e1.oneCell' = true) (hv2 : e2.oneCell' = true) (hv3 : e3.oneCell' = true) :
    Calls Tryz.prog 82 #[.pointer (some ⟨a, 0, none⟩), .agg #[e0, e1, e2, e3]] w fun e w' => e = .returned (.tuple #[]) ∧ ∃ u', Closed B w g0 ((n - 1) * 4 + 3) cur u k (ys ++ [e0, e1, e2, e3]) u' w' := by
  have hg : g0 < w.heap.size := (Array.getElem?_eq_some_iff.1 hgb).1
  have hn' : (decide ((0 : Int) < (n : Int))) = true := by simpa using hn
  go_enter Tryz.func82, Tryz.ntmps82
  go_wp2
  go_wp2
  go_region
  all_goals (go_wp2)
  all_goals
    have hwr : IntKind.i64.wrap ((n : Int) - 1) = ((n - 1 : Nat) : Int) := by rw [IntWalk.i64_in _ ⟨by omega, by omega⟩]; omega
    have hin : ((n - 1 : Nat) : Int) < (n : Int) := by omega
    have hin0 : (0 : Int) ≤ ((n - 1 : Nat) : Int) := by omega
  · have hWb : ∀ b, b < w.heap.size → ((w.alloc (.cells #[e0, e1, e2, e3] 27)).alloc (.cells #[Value.bool false] 4)).drew.heap[b]? = w.heap[b]? := fun b hb =>
      (Below.heap_alloc (w.alloc (.cells #[e0, e1, e2, e3] 27)) _ b (by simp; omega)).trans (Below.heap_alloc w _ b hb)
    have hWe : ((w.alloc (.cells #[e0, e1, e2, e3] 27)).alloc (.cells #[Value.bool false] 4)).drew.heap[w.heap.size]? = some (.cells #[e0, e1, e2, e3] 27 (0, 0)) :=
      (Below.heap_alloc (w.alloc (.cells #[e0, e1, e2, e3] 27)) _ w.heap.size (by simp)).trans (by show (w.heap.push _)[w.heap.size]? = _; simp)
    have hWs : w.heap.size + 2 ≤ ((w.alloc (.cells #[e0, e1, e2, e3] 27)).alloc (.cells #[Value.bool false] 4)).drew.heap.size := by simp [World.drew]
    have hWo : ((w.alloc (.cells #[e0, e1, e2, e3] 27)).alloc (.cells #[Value.bool false] 4)).drew.os = w.os ∧ ((w.alloc (.cells #[e0, e1, e2, e3] 27)).alloc (.cells #[Value.bool false] 4)).drew.tape = w.tape ∧ ((w.alloc (.cells #[e0, e1, e2, e3] 27)).alloc (.cells #[Value.bool false] 4)).drew.output = w.output := ⟨rfl, rfl, rfl⟩
    generalize ((w.alloc (.cells #[e0, e1, e2, e3] 27)).alloc (.cells #[Value.bool false] 4)).drew = W at *
    have c3 : W.cell? ⟨a, 3, none⟩ = some (.slice (some ⟨g0, 0, none⟩) n cap) := by rw [World.cell?_of_block (hWb a ha)]; exact hc3
    have hWg : W.heap[g0]? = some (.cells cur 27 (0, 0)) := (hWb g0 hg).trans hgb
    have cu : W.cell? ⟨g0, (n - 1) * 4 + 3, none⟩ = some u := by simp [World.cell?, hWg, hcu]
    have b0 : W.cell? ⟨w.heap.size, 0, none⟩ = some e0 := by simp [World.cell?, hWe]
    have b1 : W.cell? ⟨w.heap.size, 1, none⟩ = some e1 := by simp [World.cell?, hWe]
    have b2 : W.cell? ⟨w.heap.size, 2, none⟩ = some e2 := by simp [World.cell?, hWe]
    have b3 : W.cell? ⟨w.heap.size, 3, none⟩ = some e3 := by simp [World.cell?, hWe]
    have hownW : W.ownsRow B 27 4 u k ys := ownsRow_of_block hown fun g hg => hWb g (hown.lt g hg).2
    have hal : ∀ b, b < W.heap.size → (W.drew.alloc (.cells #[e0, e1, e2, e3] 27)).heap[b]? = W.heap[b]? := fun b hb => Below.heap_alloc W.drew _ b hb
    have hownA : (W.drew.alloc (.cells #[e0, e1, e2, e3] 27)).ownsRow B 27 4 u k ys := ownsRow_of_block hownW fun g hg => hal g (hownW.lt g hg).2
    have hnews : ∀ j v, ([e0, e1, e2, e3] : List Value)[j]? = some v → (W.drew.alloc (.cells #[e0, e1, e2, e3] 27)).cell? ((⟨W.heap.size, 0, none⟩ : Addr).add j) = some v := fun j v hj => by
      rw [show (⟨W.heap.size, 0, none⟩ : Addr).add j = ⟨W.heap.size, j, none⟩ by rw [add_addr]; simp]
      have : (W.drew.alloc (.cells #[e0, e1, e2, e3] 27)).heap[W.heap.size]? = some (.cells #[e0, e1, e2, e3] 27 (0, 0)) := by show (W.heap.push _)[W.heap.size]? = _; simp
      simp only [World.cell?, this]
      match j, hj with
      | 0, hj => simpa using hj
      | 1, hj => simpa using hj
      | 2, hj => simpa using hj
      | 3, hj => simpa using hj
      | j + 4, hj => simp at hj
    have hby : (k + 1) * ((Tryz.prog.info? 27).getD default).bytes ≤ 140737488355328 := by
      rw [show ((Tryz.prog.info? 27).getD default).bytes = 80 by kernel_rfl]; omega
    have hsz1 : (W.drew.alloc (.cells #[e0, e1, e2, e3] 27)).heap.size = W.heap.size + 1 := by show (W.heap.push _).size = _; simp
    have hbase : B ≤ (W.drew.alloc (.cells #[e0, e1, e2, e3] 27)).heap.size := by omega
    have hgA : g0 < (W.drew.alloc (.cells #[e0, e1, e2, e3] 27)).heap.size := by omega
    have hgAb : (W.drew.alloc (.cells #[e0, e1, e2, e3] 27)).heap[g0]? = some (.cells cur 27 (0, 0)) := (hal g0 (by omega)).trans hWg
    have hal2 : ∀ b, b < W.heap.size → (W.alloc (.cells #[e0, e1, e2, e3] 27)).drew.heap[b]? = W.heap[b]? := fun b hb => Below.heap_alloc W _ b hb
    have c3' : (W.alloc (.cells #[e0, e1, e2, e3] 27)).drew.cell? ⟨a, 3, none⟩ = some (.slice (some ⟨g0, 0, none⟩) n cap) := by rw [World.cell?_of_block (hal2 a (by omega))]; exact c3
    have cu' : (W.alloc (.cells #[e0, e1, e2, e3] 27)).drew.cell? ⟨g0, (n - 1) * 4 + 3, none⟩ = some u := by rw [World.cell?_of_block (hal2 g0 (by omega))]; exact cu
    have b0' : (W.alloc (.cells #[e0, e1, e2, e3] 27)).drew.cell? ⟨w.heap.size, 0, none⟩ = some e0 := by rw [World.cell?_of_block (hal2 w.heap.size (by omega))]; exact b0
    have b1' : (W.alloc (.cells #[e0, e1, e2, e3] 27)).drew.cell? ⟨w.heap.size, 1, none⟩ = some e1 := by rw [World.cell?_of_block (hal2 w.heap.size (by omega))]; exact b1
    have b2' : (W.alloc (.cells #[e0, e1, e2, e3] 27)).drew.cell? ⟨w.heap.size, 2, none⟩ = some e2 := by rw [World.cell?_of_block (hal2 w.heap.size (by omega))]; exact b2
    have b3' : (W.alloc (.cells #[e0, e1, e2, e3] 27)).drew.cell? ⟨w.heap.size, 3, none⟩ = some e3 := by rw [World.cell?_of_block (hal2 w.heap.size (by omega))]; exact b3
    have haA : a < (W.drew.alloc (.cells #[e0, e1, e2, e3] 27)).heap.size := by omega
    have caA : (W.drew.alloc (.cells #[e0, e1, e2, e3] 27)).cell? ⟨a, 3, none⟩ = some (.slice (some ⟨g0, 0, none⟩) n cap) := c3'
    have hmx : k + 1 ≤ maxLen := by simp only [maxLen]; omega
    have heB : u.ownBlock ≠ some w.heap.size := fun e => by have := (hown.lt _ e).2; omega
    have hbsA : w.heap.size < (W.drew.alloc (.cells #[e0, e1, e2, e3] 27)).heap.size := by omega
    have hS0 : (fun w' : World => w'.cell? ⟨a, 3, none⟩ = some (.slice (some ⟨g0, 0, none⟩) n cap) ∧ w'.cell? ⟨w.heap.size, 0, none⟩ = some e0 ∧ w'.cell? ⟨w.heap.size, 1, none⟩ = some e1 ∧ w'.cell? ⟨w.heap.size, 2, none⟩ = some e2 ∧ w'.cell? ⟨w.heap.size, 3, none⟩ = some e3) W.drew := ⟨c3, b0, b1, b2, b3⟩
    have hS1 : (fun w' : World => w'.cell? ⟨a, 3, none⟩ = some (.slice (some ⟨g0, 0, none⟩) n cap) ∧ w'.cell? ⟨w.heap.size, 0, none⟩ = some e0 ∧ w'.cell? ⟨w.heap.size, 1, none⟩ = some e1 ∧ w'.cell? ⟨w.heap.size, 2, none⟩ = some e2 ∧ w'.cell? ⟨w.heap.size, 3, none⟩ = some e3) (W.drew.alloc (.cells #[e0, e1, e2, e3] 27)) := ⟨c3', b0', b1', b2', b3'⟩
    have hSA : ∀ w', (W.drew.alloc (.cells #[e0, e1, e2, e3] 27)).grownBy w' u.ownBlock → (fun w' : World => w'.cell? ⟨a, 3, none⟩ = some (.slice (some ⟨g0, 0, none⟩) n cap) ∧ w'.cell? ⟨w.heap.size, 0, none⟩ = some e0 ∧ w'.cell? ⟨w.heap.size, 1, none⟩ = some e1 ∧ w'.cell? ⟨w.heap.size, 2, none⟩ = some e2 ∧ w'.cell? ⟨w.heap.size, 3, none⟩ = some e3) w' := fun w' h2 => ⟨(World.cell?_of_block (h2.block a haA (fun e => hua e.symm))).trans c3', (World.cell?_of_block (h2.block w.heap.size hbsA (fun e => heB e.symm))).trans b0', (World.cell?_of_block (h2.block w.heap.size hbsA (fun e => heB e.symm))).trans b1', (World.cell?_of_block (h2.block w.heap.size hbsA (fun e => heB e.symm))).trans b2', (World.cell?_of_block (h2.block w.heap.size hbsA (fun e => heB e.symm))).trans b3'⟩
    have hSs : ∀ w' g p v, a ≠ g → w.heap.size ≠ g → (fun w' : World => w'.cell? ⟨a, 3, none⟩ = some (.slice (some ⟨g0, 0, none⟩) n cap) ∧ w'.cell? ⟨w.heap.size, 0, none⟩ = some e0 ∧ w'.cell? ⟨w.heap.size, 1, none⟩ = some e1 ∧ w'.cell? ⟨w.heap.size, 2, none⟩ = some e2 ∧ w'.cell? ⟨w.heap.size, 3, none⟩ = some e3) w' → (fun w' : World => w'.cell? ⟨a, 3, none⟩ = some (.slice (some ⟨g0, 0, none⟩) n cap) ∧ w'.cell? ⟨w.heap.size, 0, none⟩ = some e0 ∧ w'.cell? ⟨w.heap.size, 1, none⟩ = some e1 ∧ w'.cell? ⟨w.heap.size, 2, none⟩ = some e2 ∧ w'.cell? ⟨w.heap.size, 3, none⟩ = some e3) (w'.setCell ⟨g, p, none⟩ v) := fun w' g p v hag hbg h => ⟨(World.cell?_of_block (setCell_other hag)).trans h.1, (World.cell?_of_block (setCell_other hbg)).trans h.2.1, (World.cell?_of_block (setCell_other hbg)).trans h.2.2.1, (World.cell?_of_block (setCell_other hbg)).trans h.2.2.2.1, (World.cell?_of_block (setCell_other hbg)).trans h.2.2.2.2⟩
    have hbg0 : w.heap.size ≠ g0 := by omega
    have fin : ∀ v' w', w'.ownsRow B 27 4 v' (k + 1) (ys ++ [e0, e1, e2, e3]) → (W.drew.alloc (.cells #[e0, e1, e2, e3] 27)).grownBy w' u.ownBlock → (v'.ownBlock = u.ownBlock ∨ v'.ownBlock = some (W.drew.alloc (.cells #[e0, e1, e2, e3] 27)).heap.size ∧ ∀ k, k < (W.drew.alloc (.cells #[e0, e1, e2, e3] 27)).heap.size → w'.heap[k]? = (W.drew.alloc (.cells #[e0, e1, e2, e3] 27)).heap[k]?) → ∃ u', Closed B w g0 ((n - 1) * 4 + 3) cur u k (ys ++ [e0, e1, e2, e3]) u' (w'.setCell ⟨g0, (n - 1) * 4 + 3, none⟩ v') := fun v' w' h1 h2 h3 =>
      ⟨v', Closed.two (fun b hb => (hal b (by omega)).trans (hWb b hb)) (by omega) hWo h1 h2 h3 hg hgb hug⟩
    clear hsz1 hWs hWo hWb hWe hWg hal hal2 hownW hown hc3 hgb hB
    go_region_held3 (fun w' : World => w'.cell? ⟨a, 3, none⟩ = some (.slice (some ⟨g0, 0, none⟩) n cap) ∧ w'.cell? ⟨w.heap.size, 0, none⟩ = some e0 ∧ w'.cell? ⟨w.heap.size, 1, none⟩ = some e1 ∧ w'.cell? ⟨w.heap.size, 2, none⟩ = some e2 ∧ w'.cell? ⟨w.heap.size, 3, none⟩ = some e3) (first | exact hS0 | exact hS1 | exact hSA _ (by assumption) | exact hSs _ _ _ _ hag hbg0 (hSA _ (by assumption))) ((refine step_append_own (by rfl) _ _ 25 (by rfl) B 27 ((Tryz.prog.info? 27).getD default) (((Tryz.prog.info? 27).bind (·.zero)).getD default) 4 Tryz.underlying25 (by kernel_rfl) (by kernel_rfl) (by kernel_rfl) (by kernel_rfl) (by decide) u (by rfl) k ys hownA ⟨W.heap.size, 0, none⟩ 1 1 [e0, e1, e2, e3] (by rfl) rfl hnews (by simp [hv0, hv1, hv2, hv3]) hmx hby hbase (fun v' w' h1 h2 h3 => ?_); obtain ⟨g', cap', cur', rfl, hg1, hg2, hg3, hg4, hg5, hg6⟩ := h1.2.resolve_left (fun e => Nat.succ_ne_zero _ e.2); have hgb' := (h2.block g0 hgA (fun e => hug e.symm)).trans hgAb; have x1 : w'.cell? ⟨g0, (n - 1) * 4 + 3, none⟩ = some u := (by simp [World.cell?, hgb', hcu]); have x2 : w'.frozen? ⟨g0, (n - 1) * 4 + 3, none⟩ = false := (by simp [World.frozen?, hgb'])))
    all_goals (go_wp2; (try simp only [Exit.inBlock, Exit.then]); refine bodyPost_ret (results_none rfl _ _ _) rfl ?_; exact ⟨rfl, fin _ _ h1 h2 h3⟩)
  · have hWb : ∀ b, b < w.heap.size → ((w.alloc (.cells #[e0, e1, e2, e3] 27)).alloc (.cells #[Value.bool true] 4)).drew.heap[b]? = w.heap[b]? := fun b hb =>
      (Below.heap_alloc (w.alloc (.cells #[e0, e1, e2, e3] 27)) _ b (by simp; omega)).trans (Below.heap_alloc w _ b hb)
    have hWe : ((w.alloc (.cells #[e0, e1, e2, e3] 27)).alloc (.cells #[Value.bool true] 4)).drew.heap[w.heap.size]? = some (.cells #[e0, e1, e2, e3] 27 (0, 0)) :=
      (Below.heap_alloc (w.alloc (.cells #[e0, e1, e2, e3] 27)) _ w.heap.size (by simp)).trans (by show (w.heap.push _)[w.heap.size]? = _; simp)
    have hWs : w.heap.size + 2 ≤ ((w.alloc (.cells #[e0, e1, e2, e3] 27)).alloc (.cells #[Value.bool true] 4)).drew.heap.size := by simp [World.drew]
    have hWo : ((w.alloc (.cells #[e0, e1, e2, e3] 27)).alloc (.cells #[Value.bool true] 4)).drew.os = w.os ∧ ((w.alloc (.cells #[e0, e1, e2, e3] 27)).alloc (.cells #[Value.bool true] 4)).drew.tape = w.tape ∧ ((w.alloc (.cells #[e0, e1, e2, e3] 27)).alloc (.cells #[Value.bool true] 4)).drew.output = w.output := ⟨rfl, rfl, rfl⟩
    generalize ((w.alloc (.cells #[e0, e1, e2, e3] 27)).alloc (.cells #[Value.bool true] 4)).drew = W at *
    have c3 : W.cell? ⟨a, 3, none⟩ = some (.slice (some ⟨g0, 0, none⟩) n cap) := by rw [World.cell?_of_block (hWb a ha)]; exact hc3
    have hWg : W.heap[g0]? = some (.cells cur 27 (0, 0)) := (hWb g0 hg).trans hgb
    have cu : W.cell? ⟨g0, (n - 1) * 4 + 3, none⟩ = some u := by simp [World.cell?, hWg, hcu]
    have b0 : W.cell? ⟨w.heap.size, 0, none⟩ = some e0 := by simp [World.cell?, hWe]
    have b1 : W.cell? ⟨w.heap.size, 1, none⟩ = some e1 := by simp [World.cell?, hWe]
    have b2 : W.cell? ⟨w.heap.size, 2, none⟩ = some e2 := by simp [World.cell?, hWe]
    have b3 : W.cell? ⟨w.heap.size, 3, none⟩ = some e3 := by simp [World.cell?, hWe]
    have hownW : W.ownsRow B 27 4 u k ys := ownsRow_of_block hown fun g hg => hWb g (hown.lt g hg).2
    have hal : ∀ b, b < W.heap.size → (W.drew.alloc (.cells #[.string ⟨#[]⟩, .slice none 0 0, .string ⟨#[]⟩, .slice none 0 0] 27)).heap[b]? = W.heap[b]? := fun b hb => Below.heap_alloc W.drew _ b hb
    have hownA : (W.drew.alloc (.cells #[.string ⟨#[]⟩, .slice none 0 0, .string ⟨#[]⟩, .slice none 0 0] 27)).ownsRow B 27 4 u k ys := ownsRow_of_block hownW fun g hg => hal g (hownW.lt g hg).2
    have hnews : ∀ j v, ([.string ⟨#[]⟩, .slice none 0 0, .string ⟨#[]⟩, .slice none 0 0] : List Value)[j]? = some v → (W.drew.alloc (.cells #[.string ⟨#[]⟩, .slice none 0 0, .string ⟨#[]⟩, .slice none 0 0] 27)).cell? ((⟨W.heap.size, 0, none⟩ : Addr).add j) = some v := fun j v hj => by
      rw [show (⟨W.heap.size, 0, none⟩ : Addr).add j = ⟨W.heap.size, j, none⟩ by rw [add_addr]; simp]
      have : (W.drew.alloc (.cells #[.string ⟨#[]⟩, .slice none 0 0, .string ⟨#[]⟩, .slice none 0 0] 27)).heap[W.heap.size]? = some (.cells #[.string ⟨#[]⟩, .slice none 0 0, .string ⟨#[]⟩, .slice none 0 0] 27 (0, 0)) := by show (W.heap.push _)[W.heap.size]? = _; simp
      simp only [World.cell?, this]
      match j, hj with
      | 0, hj => simpa using hj
      | 1, hj => simpa using hj
      | 2, hj => simpa using hj
      | 3, hj => simpa using hj
      | j + 4, hj => simp at hj
    have hby : (k + 1) * ((Tryz.prog.info? 27).getD default).bytes ≤ 140737488355328 := by
      rw [show ((Tryz.prog.info? 27).getD default).bytes = 80 by kernel_rfl]; omega
    have hsz1 : (W.drew.alloc (.cells #[.string ⟨#[]⟩, .slice none 0 0, .string ⟨#[]⟩, .slice none 0 0] 27)).heap.size = W.heap.size + 1 := by show (W.heap.push _).size = _; simp
    have hbase : B ≤ (W.drew.alloc (.cells #[.string ⟨#[]⟩, .slice none 0 0, .string ⟨#[]⟩, .slice none 0 0] 27)).heap.size := by omega
    have hgA : g0 < (W.drew.alloc (.cells #[.string ⟨#[]⟩, .slice none 0 0, .string ⟨#[]⟩, .slice none 0 0] 27)).heap.size := by omega
    have hgAb : (W.drew.alloc (.cells #[.string ⟨#[]⟩, .slice none 0 0, .string ⟨#[]⟩, .slice none 0 0] 27)).heap[g0]? = some (.cells cur 27 (0, 0)) := (hal g0 (by omega)).trans hWg
    have hal2 : ∀ b, b < W.heap.size → (W.alloc (.cells #[.string ⟨#[]⟩, .slice none 0 0, .string ⟨#[]⟩, .slice none 0 0] 27)).drew.heap[b]? = W.heap[b]? := fun b hb => Below.heap_alloc W _ b hb
    have c3' : (W.alloc (.cells #[.string ⟨#[]⟩, .slice none 0 0, .string ⟨#[]⟩, .slice none 0 0] 27)).drew.cell? ⟨a, 3, none⟩ = some (.slice (some ⟨g0, 0, none⟩) n cap) := by rw [World.cell?_of_block (hal2 a (by omega))]; exact c3
    have cu' : (W.alloc (.cells #[.string ⟨#[]⟩, .slice none 0 0, .string ⟨#[]⟩, .slice none 0 0] 27)).drew.cell? ⟨g0, (n - 1) * 4 + 3, none⟩ = some u := by rw [World.cell?_of_block (hal2 g0 (by omega))]; exact cu
    have b0' : (W.alloc (.cells #[.string ⟨#[]⟩, .slice none 0 0, .string ⟨#[]⟩, .slice none 0 0] 27)).drew.cell? ⟨w.heap.size, 0, none⟩ = some e0 := by rw [World.cell?_of_block (hal2 w.heap.size (by omega))]; exact b0
    have b1' : (W.alloc (.cells #[.string ⟨#[]⟩, .slice none 0 0, .string ⟨#[]⟩, .slice none 0 0] 27)).drew.cell? ⟨w.heap.size, 1, none⟩ = some e1 := by rw [World.cell?_of_block (hal2 w.heap.size (by omega))]; exact b1
    have b2' : (W.alloc (.cells #[.string ⟨#[]⟩, .slice none 0 0, .string ⟨#[]⟩, .slice none 0 0] 27)).drew.cell? ⟨w.heap.size, 2, none⟩ = some e2 := by rw [World.cell?_of_block (hal2 w.heap.size (by omega))]; exact b2
    have b3' : (W.alloc (.cells #[.string ⟨#[]⟩, .slice none 0 0, .string ⟨#[]⟩, .slice none 0 0] 27)).drew.cell? ⟨w.heap.size, 3, none⟩ = some e3 := by rw [World.cell?_of_block (hal2 w.heap.size (by omega))]; exact b3
    have haA : a < (W.drew.alloc (.cells #[.string ⟨#[]⟩, .slice none 0 0, .string ⟨#[]⟩, .slice none 0 0] 27)).heap.size := by omega
    have caA : (W.drew.alloc (.cells #[.string ⟨#[]⟩, .slice none 0 0, .string ⟨#[]⟩, .slice none 0 0] 27)).cell? ⟨a, 3, none⟩ = some (.slice (some ⟨g0, 0, none⟩) n cap) := c3'
    have hmx : k + 1 ≤ maxLen := by simp only [maxLen]; omega
    have hys : ys.length = k * 4 := hown.1
    have heB : u.ownBlock ≠ some w.heap.size := fun e => by have := (hown.lt _ e).2; omega
    have hbsA : w.heap.size < (W.drew.alloc (.cells #[.string ⟨#[]⟩, .slice none 0 0, .string ⟨#[]⟩, .slice none 0 0] 27)).heap.size := by omega
    have hS0 : (fun w' : World => w'.cell? ⟨a, 3, none⟩ = some (.slice (some ⟨g0, 0, none⟩) n cap) ∧ w'.cell? ⟨w.heap.size, 0, none⟩ = some e0 ∧ w'.cell? ⟨w.heap.size, 1, none⟩ = some e1 ∧ w'.cell? ⟨w.heap.size, 2, none⟩ = some e2 ∧ w'.cell? ⟨w.heap.size, 3, none⟩ = some e3) W.drew := ⟨c3, b0, b1, b2, b3⟩
    have hS1 : (fun w' : World => w'.cell? ⟨a, 3, none⟩ = some (.slice (some ⟨g0, 0, none⟩) n cap) ∧ w'.cell? ⟨w.heap.size, 0, none⟩ = some e0 ∧ w'.cell? ⟨w.heap.size, 1, none⟩ = some e1 ∧ w'.cell? ⟨w.heap.size, 2, none⟩ = some e2 ∧ w'.cell? ⟨w.heap.size, 3, none⟩ = some e3) (W.drew.alloc (.cells #[.string ⟨#[]⟩, .slice none 0 0, .string ⟨#[]⟩, .slice none 0 0] 27)) := ⟨c3', b0', b1', b2', b3'⟩
    have hSA : ∀ w', (W.drew.alloc (.cells #[.string ⟨#[]⟩, .slice none 0 0, .string ⟨#[]⟩, .slice none 0 0] 27)).grownBy w' u.ownBlock → (fun w' : World => w'.cell? ⟨a, 3, none⟩ = some (.slice (some ⟨g0, 0, none⟩) n cap) ∧ w'.cell? ⟨w.heap.size, 0, none⟩ = some e0 ∧ w'.cell? ⟨w.heap.size, 1, none⟩ = some e1 ∧ w'.cell? ⟨w.heap.size, 2, none⟩ = some e2 ∧ w'.cell? ⟨w.heap.size, 3, none⟩ = some e3) w' := fun w' h2 => ⟨(World.cell?_of_block (h2.block a haA (fun e => hua e.symm))).trans c3', (World.cell?_of_block (h2.block w.heap.size hbsA (fun e => heB e.symm))).trans b0', (World.cell?_of_block (h2.block w.heap.size hbsA (fun e => heB e.symm))).trans b1', (World.cell?_of_block (h2.block w.heap.size hbsA (fun e => heB e.symm))).trans b2', (World.cell?_of_block (h2.block w.heap.size hbsA (fun e => heB e.symm))).trans b3'⟩
    have hSs : ∀ w' g p v, a ≠ g → w.heap.size ≠ g → (fun w' : World => w'.cell? ⟨a, 3, none⟩ = some (.slice (some ⟨g0, 0, none⟩) n cap) ∧ w'.cell? ⟨w.heap.size, 0, none⟩ = some e0 ∧ w'.cell? ⟨w.heap.size, 1, none⟩ = some e1 ∧ w'.cell? ⟨w.heap.size, 2, none⟩ = some e2 ∧ w'.cell? ⟨w.heap.size, 3, none⟩ = some e3) w' → (fun w' : World => w'.cell? ⟨a, 3, none⟩ = some (.slice (some ⟨g0, 0, none⟩) n cap) ∧ w'.cell? ⟨w.heap.size, 0, none⟩ = some e0 ∧ w'.cell? ⟨w.heap.size, 1, none⟩ = some e1 ∧ w'.cell? ⟨w.heap.size, 2, none⟩ = some e2 ∧ w'.cell? ⟨w.heap.size, 3, none⟩ = some e3) (w'.setCell ⟨g, p, none⟩ v) := fun w' g p v hag hbg h => ⟨(World.cell?_of_block (setCell_other hag)).trans h.1, (World.cell?_of_block (setCell_other hbg)).trans h.2.1, (World.cell?_of_block (setCell_other hbg)).trans h.2.2.1, (World.cell?_of_block (setCell_other hbg)).trans h.2.2.2.1, (World.cell?_of_block (setCell_other hbg)).trans h.2.2.2.2⟩
    have hbg0 : w.heap.size ≠ g0 := by omega
    have fin : ∀ g' cap' cur' w', B ≤ g' → w'.heap[g']? = some (.cells cur' 27 (0, 0)) → k + 1 ≤ cap' → cap' ≤ maxLen → cur'.size = cap' * 4 → cur'.toList.take ((k + 1) * 4) = ys ++ [.string ⟨#[]⟩, .slice none 0 0, .string ⟨#[]⟩, .slice none 0 0] →
        (W.drew.alloc (.cells #[.string ⟨#[]⟩, .slice none 0 0, .string ⟨#[]⟩, .slice none 0 0] 27)).grownBy w' u.ownBlock → (some g' = u.ownBlock ∨ some g' = some (W.drew.alloc (.cells #[.string ⟨#[]⟩, .slice none 0 0, .string ⟨#[]⟩, .slice none 0 0] 27)).heap.size ∧ ∀ k, k < (W.drew.alloc (.cells #[.string ⟨#[]⟩, .slice none 0 0, .string ⟨#[]⟩, .slice none 0 0] 27)).heap.size → w'.heap[k]? = (W.drew.alloc (.cells #[.string ⟨#[]⟩, .slice none 0 0, .string ⟨#[]⟩, .slice none 0 0] 27)).heap[k]?) →
        ∃ u', Closed B w g0 ((n - 1) * 4 + 3) cur u k (ys ++ [e0, e1, e2, e3]) u' (((((w'.setCell ⟨g0, (n - 1) * 4 + 3, none⟩ (.slice (some ⟨g', 0, none⟩) (k + 1) cap')).setCell ⟨g', k * 4, none⟩ e0).setCell ⟨g', k * 4 + 1, none⟩ e1).setCell ⟨g', k * 4 + 2, none⟩ e2).setCell ⟨g', k * 4 + 3, none⟩ e3) := fun g' cap' cur' w' f1 f2 f3 f4 f5 f6 f7 f8 =>
      ⟨_, Closed.one (fun b hb => (hal b (by omega)).trans (hWb b hb)) (by omega) hWo hys rfl f1 f2 f3 f4 f5 f6 f7 f8 hg hgb hug⟩
    have hNe : ∀ (g' : Nat) (w' : World), (some g' = u.ownBlock ∨ some g' = some (W.drew.alloc (.cells #[.string ⟨#[]⟩, .slice none 0 0, .string ⟨#[]⟩, .slice none 0 0] 27)).heap.size ∧ ∀ k, k < (W.drew.alloc (.cells #[.string ⟨#[]⟩, .slice none 0 0, .string ⟨#[]⟩, .slice none 0 0] 27)).heap.size → w'.heap[k]? = (W.drew.alloc (.cells #[.string ⟨#[]⟩, .slice none 0 0, .string ⟨#[]⟩, .slice none 0 0] 27)).heap[k]?) → g' ≠ g0 := fun g' w' h q => by
      subst q
      rcases h with h | ⟨h, _⟩
      · exact hug h.symm
      · have := Option.some.inj h; omega
    have hY : ∀ (w' : World) (g' cap' : Nat) (cur' : Array Value) (j : Nat), w'.heap[g']? = some (.cells cur' 27 (0, 0)) → k + 1 ≤ cap' → cur'.size = cap' * 4 → j < 4 → w'.cell? ⟨g', k * 4 + j, none⟩ = some (cur'.getD (k * 4 + j) undef) := fun w' g' cap' cur' j h1 h2 h3 h4 => by
      have : k * 4 + j < cur'.size := by rw [h3]; have := Nat.mul_le_mul_right 4 h2; omega
      simp [World.cell?, h1, Array.getD, this]
    have hY0 : ∀ (w' : World) (g' cap' : Nat) (cur' : Array Value), w'.heap[g']? = some (.cells cur' 27 (0, 0)) → k + 1 ≤ cap' → cur'.size = cap' * 4 → w'.cell? ⟨g', k * 4, none⟩ = some (cur'.getD (k * 4) undef) := fun w' g' cap' cur' h1 h2 h3 => hY w' g' cap' cur' 0 h1 h2 h3 (by decide)
    have hY1 : ∀ (w' : World) (g' cap' : Nat) (cur' : Array Value), w'.heap[g']? = some (.cells cur' 27 (0, 0)) → k + 1 ≤ cap' → cur'.size = cap' * 4 → w'.cell? ⟨g', k * 4 + 1, none⟩ = some (cur'.getD (k * 4 + 1) undef) := fun w' g' cap' cur' h1 h2 h3 => hY w' g' cap' cur' 1 h1 h2 h3 (by decide)
    have hY2 : ∀ (w' : World) (g' cap' : Nat) (cur' : Array Value), w'.heap[g']? = some (.cells cur' 27 (0, 0)) → k + 1 ≤ cap' → cur'.size = cap' * 4 → w'.cell? ⟨g', k * 4 + 2, none⟩ = some (cur'.getD (k * 4 + 2) undef) := fun w' g' cap' cur' h1 h2 h3 => hY w' g' cap' cur' 2 h1 h2 h3 (by decide)
    have hY3 : ∀ (w' : World) (g' cap' : Nat) (cur' : Array Value), w'.heap[g']? = some (.cells cur' 27 (0, 0)) → k + 1 ≤ cap' → cur'.size = cap' * 4 → w'.cell? ⟨g', k * 4 + 3, none⟩ = some (cur'.getD (k * 4 + 3) undef) := fun w' g' cap' cur' h1 h2 h3 => hY w' g' cap' cur' 3 h1 h2 h3 (by decide)
    have hF : ∀ (w' : World) (g' p : Nat) (cur' : Array Value), w'.heap[g']? = some (.cells cur' 27 (0, 0)) → w'.frozen? ⟨g', p, none⟩ = false := fun w' g' p cur' h => by simp [World.frozen?, h]
    have hs0 : ∀ (W1 : World) (a : Addr), (store a e0).run Tryz.prog W1 = stored Tryz.prog W1 a e0 .plain := fun W1 a => run_store _ _ _ _ _ hv0
    have hs1 : ∀ (W1 : World) (a : Addr), (store a e1).run Tryz.prog W1 = stored Tryz.prog W1 a e1 .plain := fun W1 a => run_store _ _ _ _ _ hv1
    have hs2 : ∀ (W1 : World) (a : Addr), (store a e2).run Tryz.prog W1 = stored Tryz.prog W1 a e2 .plain := fun W1 a => run_store _ _ _ _ _ hv2
    have hs3 : ∀ (W1 : World) (a : Addr), (store a e3).run Tryz.prog W1 = stored Tryz.prog W1 a e3 .plain := fun W1 a => run_store _ _ _ _ _ hv3
    have hkk : (k : Int) < ((k + 1 : Nat) : Int) := by omega
    have hlen : ∀ w : World, (Builtin.len_ #[25] 3 #[u]).run Tryz.prog w = .ok (.int .i64 k) w := fun w => by
      rcases hown.2 with ⟨rfl, rfl⟩ | ⟨g, cap, cur, rfl, _⟩ <;> simp [Builtin.len_, run_underlying Tryz.underlying25, goInt]
    clear hsz1 hWs hWo hWb hWe hWg hal hal2 hownW hown hc3 hgb hB
    go_region_held3 (fun w' : World => w'.cell? ⟨a, 3, none⟩ = some (.slice (some ⟨g0, 0, none⟩) n cap) ∧ w'.cell? ⟨w.heap.size, 0, none⟩ = some e0 ∧ w'.cell? ⟨w.heap.size, 1, none⟩ = some e1 ∧ w'.cell? ⟨w.heap.size, 2, none⟩ = some e2 ∧ w'.cell? ⟨w.heap.size, 3, none⟩ = some e3) (first | exact hS0 | exact hS1 | exact hSA _ (by assumption) | exact hSs _ _ _ _ hag hbg0 (hSA _ (by assumption))) ((refine step_append_own (by rfl) _ _ 25 (by rfl) B 27 ((Tryz.prog.info? 27).getD default) (((Tryz.prog.info? 27).bind (·.zero)).getD default) 4 Tryz.underlying25 (by kernel_rfl) (by kernel_rfl) (by kernel_rfl) (by kernel_rfl) (by decide) u (by rfl) k ys hownA ⟨W.heap.size, 0, none⟩ 1 1 [.string ⟨#[]⟩, .slice none 0 0, .string ⟨#[]⟩, .slice none 0 0] (by rfl) rfl hnews (by decide) hmx hby hbase (fun v' w' h1 h2 h3 => ?_); obtain ⟨g', cap', cur', rfl, hg1, hg2, hg3, hg4, hg5, hg6⟩ := h1.2.resolve_left (fun e => Nat.succ_ne_zero _ e.2); have hgb' := (h2.block g0 hgA (fun e => hug e.symm)).trans hgAb; have x1 : w'.cell? ⟨g0, (n - 1) * 4 + 3, none⟩ = some u := (by simp [World.cell?, hgb', hcu]); have x2 : w'.frozen? ⟨g0, (n - 1) * 4 + 3, none⟩ = false := (by simp [World.frozen?, hgb']); have hgne : g' ≠ g0 := hNe g' _ h3; have hgne2 : ¬ (g0 = g') := fun e => hgne e.symm; have y0 := hY0 _ _ _ _ hg2 hg3 hg5; have y1 := hY1 _ _ _ _ hg2 hg3 hg5; have y2 := hY2 _ _ _ _ hg2 hg3 hg5; have y3 := hY3 _ _ _ _ hg2 hg3 hg5; have f0 := hF w' g' (k * 4) _ hg2; have f1 := hF w' g' (k * 4 + 1) _ hg2; have f2 := hF w' g' (k * 4 + 2) _ hg2; have f3 := hF w' g' (k * 4 + 3) _ hg2))
    all_goals (go_wp2; (try simp only [Exit.inBlock, Exit.then]); refine bodyPost_ret (results_none rfl _ _ _) rfl ?_; exact ⟨rfl, fin _ _ _ _ hg1 hg2 hg3 hg4 hg5 hg6 h2 h3⟩)

set_option maxHeartbeats 4000000 in
set_option maxRecDepth 100000 in
theorem closed_none (w : World) (a cap : Nat) (ao : Option Addr) (c0 c1 c2 c4 c5 c6 c7 c8 : Value) (e0 e1 e2 e3 : Value)
    (hab : w.heap[a]? = some (.cells #[c0, c1, c2, .slice ao 0 cap, c4, c5, c6, c7, c8] 74 (0, 0)))
    (hv0 : e0.oneCell' = true) (hv1 : e1.oneCell' = true) (hv2 : e2.oneCell' = true) (hv3 : e3.oneCell' = true) :
    Calls Tryz.prog 82 #[.pointer (some ⟨a, 0, none⟩), .agg #[e0, e1, e2, e3]] w fun e w' => e = .returned (.tuple #[]) ∧
      w'.heap[a]? = some (.cells #[c0, c1, c2, .slice ao 0 cap, e0, e1, e2, e3, .bool true] 74 (0, 0)) ∧ (∀ g, g < w.heap.size → g ≠ a → w'.heap[g]? = w.heap[g]?) ∧ w.heap.size ≤ w'.heap.size ∧ w'.os = w.os ∧ w'.tape = w.tape ∧ w'.output = w.output := by
  have ha : a < w.heap.size := (Array.getElem?_eq_some_iff.1 hab).1
  have hc3 : w.cell? ⟨a, 3, none⟩ = some (.slice ao 0 cap) := by simp [World.cell?, hab]
  have hlen : ∀ w : World, (Builtin.len_ #[25] 3 #[.slice ao 0 cap]).run Tryz.prog w = .ok (.int .i64 0) w := fun w => by simp [Builtin.len_, run_underlying Tryz.underlying25, goInt]
  have hs0 : ∀ (W1 : World) (a : Addr), (store a e0).run Tryz.prog W1 = stored Tryz.prog W1 a e0 .plain := fun W1 a => run_store _ _ _ _ _ hv0
  have hs1 : ∀ (W1 : World) (a : Addr), (store a e1).run Tryz.prog W1 = stored Tryz.prog W1 a e1 .plain := fun W1 a => run_store _ _ _ _ _ hv1
  have hs2 : ∀ (W1 : World) (a : Addr), (store a e2).run Tryz.prog W1 = stored Tryz.prog W1 a e2 .plain := fun W1 a => run_store _ _ _ _ _ hv2
  have hs3 : ∀ (W1 : World) (a : Addr), (store a e3).run Tryz.prog W1 = stored Tryz.prog W1 a e3 .plain := fun W1 a => run_store _ _ _ _ _ hv3
  have k4 : w.cell? ⟨a, 4, none⟩ = some c4 := by simp [World.cell?, hab]
  have k5 : w.cell? ⟨a, 5, none⟩ = some c5 := by simp [World.cell?, hab]
  have k6 : w.cell? ⟨a, 6, none⟩ = some c6 := by simp [World.cell?, hab]
  have k7 : w.cell? ⟨a, 7, none⟩ = some c7 := by simp [World.cell?, hab]
  have k8 : w.cell? ⟨a, 8, none⟩ = some c8 := by simp [World.cell?, hab]
  have f4 : w.frozen? ⟨a, 4, none⟩ = false := by simp [World.frozen?, hab]
  have f5 : w.frozen? ⟨a, 5, none⟩ = false := by simp [World.frozen?, hab]
  have f6 : w.frozen? ⟨a, 6, none⟩ = false := by simp [World.frozen?, hab]
  have f7 : w.frozen? ⟨a, 7, none⟩ = false := by simp [World.frozen?, hab]
  have f8 : w.frozen? ⟨a, 8, none⟩ = false := by simp [World.frozen?, hab]
  have fin : ∀ w', w' = (((((w.setCell ⟨a, 4, none⟩ e0).setCell ⟨a, 5, none⟩ e1).setCell ⟨a, 6, none⟩ e2).setCell ⟨a, 7, none⟩ e3).setCell ⟨a, 8, none⟩ (.bool true)).alloc (.cells #[e0, e1, e2, e3] 27) →
      w'.heap[a]? = some (.cells #[c0, c1, c2, .slice ao 0 cap, e0, e1, e2, e3, .bool true] 74 (0, 0)) ∧ (∀ g, g < w.heap.size → g ≠ a → w'.heap[g]? = w.heap[g]?) ∧ w.heap.size ≤ w'.heap.size ∧ w'.os = w.os ∧ w'.tape = w.tape ∧ w'.output = w.output := fun w' e => by
    subst e
    have hsz : (((((w.setCell ⟨a, 4, none⟩ e0).setCell ⟨a, 5, none⟩ e1).setCell ⟨a, 6, none⟩ e2).setCell ⟨a, 7, none⟩ e3).setCell ⟨a, 8, none⟩ (.bool true)).heap.size = w.heap.size := by simp only [setCell_size]
    refine ⟨?_, fun g hg hn => ?_, ?_, ?_, ?_, ?_⟩
    · rw [Below.heap_alloc _ _ _ (by rw [hsz]; exact ha)]
      exact setCell_heap (setCell_heap (setCell_heap (setCell_heap (setCell_heap hab))))
    · rw [Below.heap_alloc _ _ _ (by rw [hsz]; exact hg), setCell_other hn, setCell_other hn, setCell_other hn, setCell_other hn, setCell_other hn]
    · simp [hsz]
    · show (((((w.setCell ⟨a, 4, none⟩ e0).setCell ⟨a, 5, none⟩ e1).setCell ⟨a, 6, none⟩ e2).setCell ⟨a, 7, none⟩ e3).setCell ⟨a, 8, none⟩ (.bool true)).os = _
      simp only [setCell_os]
    · show (((((w.setCell ⟨a, 4, none⟩ e0).setCell ⟨a, 5, none⟩ e1).setCell ⟨a, 6, none⟩ e2).setCell ⟨a, 7, none⟩ e3).setCell ⟨a, 8, none⟩ (.bool true)).tape = _
      simp only [setCell_os]
    · show (((((w.setCell ⟨a, 4, none⟩ e0).setCell ⟨a, 5, none⟩ e1).setCell ⟨a, 6, none⟩ e2).setCell ⟨a, 7, none⟩ e3).setCell ⟨a, 8, none⟩ (.bool true)).output = _
      simp only [setCell_os]
  clear hab
  go_enter Tryz.func82, Tryz.ntmps82
  go_wp2
  go_wp2
  go_end0
  exact ⟨rfl, fin _ rfl⟩

def closedT (b r v : Nat) (c0 c1 c2 : AV) (q : Nat) (l : List (List D)) (d0 d1 d2 d3 : D) (h : Hp) (t : Bool) : Hp :=
  cond t (h.set b (.cells 74 [c0, c1, c2, .rs r q, .str d0.toStr, .seq 52 d1.toSeq, .str d2.toStr, .seq 27 d3.toSeq, .bool true] .own))
    (h.set r (.trow 27 v (l.set (l.length - 1) [D.at l (l.length - 1) 0, D.at l (l.length - 1) 1, D.at l (l.length - 1) 2, .seq ((D.at l (l.length - 1) 3).toSeq ++ [[d0, d1, d2, d3]])])))
def closedM : MSum
  | [.ptr b 0, .agg [e0, e1, e2, e3]], h => match h[b]? with
    | some (.cells 74 [c0, c1, c2, .rs r q, _, _, _, _, _] .own) => match h[r]? with
      | some (.trow 27 v l) => if q = v ∧ b ≠ r then
          match cellsD (asD lay h 4) (lay 27) [e0, e1, e2, e3] with
          | some ([d0, d1, d2, d3], S) => if S.contains r = false ∧ S.contains b = false then
              some (.mk Bool (if (D.at l (l.length - 1) 3).toSeq.length < 1073741823 then some l.isEmpty else none) (fun t => (.ret (.tup []), closedT b r v c0 c1 c2 q l d0 d1 d2 d3 (frzA h S) t))
                (fun β t k => match t with
                  | true => k (.ret (.tup [])) (closedT b r v c0 c1 c2 q l d0 d1 d2 d3 (frzA h S) true)
                  | false => k (.ret (.tup [])) (closedT b r v c0 c1 c2 q l d0 d1 d2 d3 (frzA h S) false)) (fun β t k => by cases t <;> rfl))
            else none
          | _ => none
        else none
      | _ => none
    | _ => none
  | _, _ => none

theorem closed_rep {B : Nat} {wB : World} {G : Gh} {w w' : World} {h : Hp} (H : HRep G B h w) (hb : Bel B wB w) (hΛ : G.lay = lay) {r v : Nat} {l1 : List (List D)} {x ds : List D} (hk : h[r]? = some (.trow 27 v (l1 ++ [x]))) {vs : List Value}
    (hds : ds.length = 4) (hvs : vs.length = 4) (hcr : ∀ (j : Nat) (d : D) (k : CK), ds[j]? = some d → (lay 27)[j]? = some k → ∃ u, vs[j]? = some u ∧ CRep G.lay G.imm w k d u)
    {g0 cap : Nat} {cur : Array Value} {u u' : Value} {k : Nat} {ys : List Value} (hrv : G.rv r = .slice (some ⟨g0, 0, none⟩) (l1.length + 1) cap) (hcur : w.heap[g0]? = some (.cells cur 27 (0, 0))) (hu : cur[l1.length * 4 + 3]? = some u)
    (hkk : k = (x.getD 3 (.int 0)).toSeq.length) (hown : w.ownsRow B 27 4 u k ys) (C : Closed B w g0 (l1.length * 4 + 3) cur u k (ys ++ vs) u' w') :
    ∃ G', HRep G' B (h.set r (.trow 27 v (l1 ++ [[x.getD 0 (.int 0), x.getD 1 (.int 0), x.getD 2 (.int 0), .seq ((x.getD 3 (.int 0)).toSeq ++ [ds])]]))) w' ∧ Mv B wB G w G' w' := by
  have hrl : r < h.length := (List.getElem?_eq_some_iff.1 hk).1
  have hrn : r < G.n := by rw [← H.len]; exact hrl
  obtain ⟨hver, hT⟩ := H.blk r _ hk
  obtain ⟨t1, t2, t3, t4, xs, us, t5, t6, t7, t8, t10⟩ := id hT
  have hl4 : (G.lay 27).length = 4 := by rw [hΛ]; rfl
  have hlay27 : G.lay 27 = [.str, .seq 52, .str, .seq 27] := by rw [hΛ]; rfl
  rw [hl4] at t1 t5 t6 t10
  have ob : (G.rv r).ownBlock = some g0 := by rw [hrv]; rfl
  -- the last slice
  obtain ⟨us1, hus⟩ : ∃ us1, us = us1 ++ [u] ∧ us1.length = l1.length := by
    have hx : (l1 ++ [x])[l1.length]? = some x := by simp
    obtain ⟨u0, ys0, ty, q1, q2, q3, q4, q5⟩ := t10 l1.length x hx
    have : u0 = u := by
      rcases t5.2 with ⟨e, _⟩ | ⟨g, cp, cu, e, _, e2, _, _, _, e3⟩
      · rw [hrv] at e; cases e
      · rw [hrv, show (l1 ++ [x]).length = l1.length + 1 by simp] at e; cases e
        rw [hcur] at e2; cases e2
        rw [← e3, List.getElem?_take, if_pos (by simp; omega)] at q3
        have : cur[l1.length * 4 + 3]? = some u0 := by simpa using q3
        rw [hu] at this; exact (Option.some.inj this).symm
    subst this
    have hlen : us.length = l1.length + 1 := by simpa using t7
    refine ⟨us.take l1.length, ?_, by simp; omega⟩
    apply List.ext_getElem?
    intro i
    rw [List.getElem?_append]
    by_cases hi : i < l1.length
    · rw [if_pos (by simp; omega), List.getElem?_take, if_pos hi]
    · rw [if_neg (by simp; omega)]
      by_cases hi2 : i = l1.length
      · subst hi2
        have hz : l1.length - (us.take l1.length).length = 0 := by rw [List.length_take]; omega
        rw [q2, hz]; rfl
      · rw [List.getElem?_eq_none (by omega), List.getElem?_eq_none (by simp; omega)]
  obtain ⟨rfl, hus1⟩ := hus
  have hxs : xs.length = (l1.length + 1) * 4 := by have := t5.1; simpa using this
  have hxsu : xs[l1.length * 4 + 3]? = some u := by
    have hx : (l1 ++ [x])[l1.length]? = some x := by simp
    obtain ⟨u0, ys0, ty, q1, q2, q3, q4, q5⟩ := t10 l1.length x hx
    have : u0 = u := by
      rw [List.getElem?_append_right (by omega), hus1] at q2; simpa using q2.symm
    rw [← this]; exact q3
  have hx4 : x.length = 4 := t1 l1.length x (by simp)
  have himmu : ∀ g o, u.ownBlock = some g → G.imm g o → o < k * 4 := fun g o q1 q2 => by
    obtain ⟨u0, ys0, ty, p1, p2, p3, p4, p5⟩ := t10 l1.length x (by simp)
    have e0 : u0 = u := by
      rw [List.getElem?_append_right (by omega), hus1] at p2; simpa using p2.symm
    subst e0
    have := p5 g o q1 q2
    rw [hlay27] at p1
    simp at p1
    subst p1
    rw [hl4] at this
    rw [hkk]; simpa using this
  rw [ob] at t8
  have hft : G.ft r = g0 :: (us1.flatMap (fun u => u.ownBlock.toList) ++ u.ownBlock.toList) := by rw [t8]; simp
  have hg0f : g0 ∈ G.ft r := by rw [hft]; simp
  have huf : ∀ g, u.ownBlock = some g → g ∈ G.ft r := fun g e => by rw [hft]; simp [e]
  have hnd := t4
  rw [hft] at hnd
  have hg0u : u.ownBlock ≠ some g0 := fun e => by
    have := (List.nodup_cons.1 hnd).1
    simp [e] at this
  have hnd2 := (List.nodup_cons.1 hnd).2
  have hB0 := t3 g0 hg0f
  have hg0i : ∀ o, ¬ G.imm g0 o := t2 g0 (by rw [ob]; simp)
  have hg0s : g0 < w.heap.size := H.lt r hrn g0 hg0f
  -- blocks that lie elsewhere
  have hu'B : ∀ g, u'.ownBlock = some g → B ≤ g ∧ g < w'.heap.size := C.owns.lt
  have hu'0 : u'.ownBlock ≠ some g0 := fun e => by
    rcases C.blk with q | ⟨b, q1, q2, _⟩
    · exact hg0u (q ▸ e)
    · rw [e] at q1; cases q1; omega
  have hsame : ∀ g, g < w.heap.size → g ≠ g0 → u.ownBlock ≠ some g → w'.heap[g]? = w.heap[g]? := C.rest
  -- cells of the last slice that are there already
  have hpre : ∀ g o, u.ownBlock = some g → o < k * 4 → w'.cell? ⟨g, o, none⟩ = w.cell? ⟨g, o, none⟩ := fun g o e ho => by
    rcases C.blk with q | ⟨b, q1, q2, q3⟩
    · have hys : ys.length = k * 4 := hown.1
      have c1 := hown.cells e o ys[o] (List.getElem?_eq_getElem (by omega))
      have c2 := C.owns.cells (q.trans e) o ys[o] (by rw [List.getElem?_append_left (by omega)]; exact List.getElem?_eq_getElem (by omega))
      rw [add_addr] at c1 c2
      simp only [Nat.zero_add] at c1 c2
      rw [c1, c2]
    · exact World.cell?_of_block (q3 g (hown.lt g e).2 fun q => hg0u (q ▸ e))
  -- what is written no more now
  let imm' : Nat → Nat → Prop := fun b o => G.imm b o ∨ (u'.ownBlock = some b ∧ o < (k + 1) * 4)
  let G3 : Gh := { G.bare r with imm := imm' }
  have hcellw : ∀ b o, G.imm b o → w'.cell? ⟨b, o, none⟩ = w.cell? ⟨b, o, none⟩ := fun b o q => by
    have hbg : b ≠ g0 := fun e => hg0i o (e ▸ q)
    by_cases e : u.ownBlock = some b
    · exact hpre b o e (himmu b o e q)
    · exact World.cell?_of_block (hsame b (H.imm b o q) hbg e)
  have hle3 : (G.bare r).le w G3 w' := ⟨Nat.le_refl _, fun _ _ => rfl, fun _ _ q => .inl q, hcellw, fun _ _ => Nat.le_refl _, fun _ _ _ => rfl, rfl⟩
  have H2 := H.bare hk
  -- a world in which the row's cell is as it was
  have hI0 : (w'.setRow g0 cur).heap[g0]? = some (.cells cur 27 (0, 0)) := setRow_heap w' g0 _ cur 27 (0, 0) C.row
  have hIo : ∀ g, g ≠ g0 → (w'.setRow g0 cur).heap[g]? = w'.heap[g]? := fun g hg => setRow_other w' g0 g cur hg
  have hIs : (w'.setRow g0 cur).heap.size = w'.heap.size := by simp [World.setRow]
  have hleI : (G.bare r).le w G3 (w'.setRow g0 cur) := ⟨Nat.le_refl _, fun _ _ => rfl, fun _ _ q => .inl q, fun b o q => by
    have hbg : b ≠ g0 := fun e => hg0i o (e ▸ q)
    rw [World.cell?_of_block (hIo b hbg)]; exact hcellw b o q, fun _ _ => Nat.le_refl _, fun _ _ _ => rfl, rfl⟩
  have hbareft : ∀ i, i < G.n → ∀ g ∈ (G.bare r).ft i, (i = r ∧ g = g0) ∨ (i ≠ r ∧ g ∈ G.ft i) := fun i hi g hg => by
    unfold Gh.bare at hg
    by_cases q : i = r
    · subst q; simp only [if_true] at hg; rw [ob] at hg; left; exact ⟨rfl, by simpa using hg⟩
    · simp only [if_neg q] at hg; exact .inr ⟨q, hg⟩
  have hnotu : ∀ i, i < G.n → ∀ g ∈ (G.bare r).ft i, u.ownBlock ≠ some g := fun i hi g hg e => by
    rcases hbareft i hi g hg with ⟨rfl, rfl⟩ | ⟨q, hg⟩
    · exact hg0u e
    · exact H.inj i r hi hrn q g hg (huf g e)
  have hltb : ∀ i, i < G.n → ∀ g ∈ (G.bare r).ft i, g < w.heap.size := fun i hi g hg => by
    rcases hbareft i hi g hg with ⟨rfl, rfl⟩ | ⟨q, hg⟩
    · exact hg0s
    · exact H.lt i hi g hg
  have hnotu' : ∀ i, i < G.n → ∀ g ∈ (G.bare r).ft i, u'.ownBlock ≠ some g := fun i hi g hg e => by
    rcases C.blk with q | ⟨b, q1, q2, _⟩
    · exact hnotu i hi g hg (q ▸ e)
    · rw [e] at q1; cases q1; have := hltb i hi g hg; omega
  have H3 : HRep G3 B (h.set r (.row 27 v false (l1 ++ [x]))) (w'.setRow g0 cur) := by
    refine H2.keep hleI rfl rfl rfl rfl rfl (by rw [hIs]; exact C.size) (fun i hi g hg => ?_) (fun i b hib hkp g hg o q => ?_) fun b o q => ?_
    · by_cases e : g = g0
      · subst e; rw [hI0, hcur]
      · rw [hIo g e]; exact hsame g (hltb i hi g hg) e (hnotu i hi g hg)
    · rcases q with q | ⟨q, _⟩
      · exact q
      · have hin : i < G.n := by have := (List.getElem?_eq_some_iff.1 hib).1; rw [List.length_set] at this; rw [← H.len]; exact this
        exact absurd q (hnotu' i hin g hg)
    · rw [hIs]
      rcases q with q | ⟨q, _⟩
      · exact Nat.lt_of_lt_of_le (H.imm b o q) C.size
      · exact (hu'B b q).2
  have hle4 : G3.le (w'.setRow g0 cur) G3 w' := ⟨Nat.le_refl _, fun _ _ => rfl, fun _ _ q => q, fun b o q => by
    have hbg : b ≠ g0 := fun e => by
      subst e
      rcases q with q | ⟨q, _⟩
      · exact hg0i o q
      · exact hu'0 q
    exact World.cell?_of_block (hIo b hbg).symm, fun _ _ => Nat.le_refl _, fun _ _ _ => rfl, rfl⟩
  have hkr3 : (h.set r (.row 27 v false (l1 ++ [x])))[r]? = some (.row 27 v false (l1 ++ [x])) := by rw [List.getElem?_set, if_pos rfl, if_pos hrl]
  have hle03 : G.le w G3 w' := (gle_bare G w r).trans hle3
  -- the new slice
  have hcu' : CRep G3.lay G3.imm w' (.seq 27) (.seq ((x.getD 3 (.int 0)).toSeq ++ [ds])) u' := by
    have hys : ys.length = k * 4 := hown.1
    obtain ⟨q0, _⟩ | ⟨g', cap', cur', rfl, _, hc', hkc, hcm, hcs, htk⟩ := C.owns.2
    · exfalso
      have := C.owns.2
      rcases C.owns.2 with ⟨_, e⟩ | ⟨_, _, _, e, _⟩
      · omega
      · rw [q0] at e; cases e
    · have hol : (G.lay 27)[3]? = some (.seq 27) := by rw [hlay27]; rfl
      obtain ⟨u0, hu0, hc0⟩ := t6 l1.length 3 x x[3] (.seq 27) (by simp) (List.getElem?_eq_getElem (by omega)) hol
      rw [hxsu] at hu0; cases hu0
      have hx3 : x.getD 3 (.int 0) = x[3] := by simp [List.getD_eq_getElem?_getD, hx4]
      obtain ⟨kids, hkids⟩ : ∃ kids, x[3] = .seq kids := by
        generalize x[3] = dd at hc0
        cases hc0
        · exact ⟨_, rfl⟩
        · exact ⟨_, rfl⟩
      rw [hx3, hkids] at hkk ⊢
      rw [hkids] at hc0
      simp only [D.toSeq] at hkk ⊢
      obtain ⟨news, n1, n2, n3, n4, n5⟩ := crep_flat hc0
      rw [hl4] at n1 n4 n5
      have hnews : news = ys := by
        apply List.ext_getElem?
        intro p
        by_cases hp : p < k * 4
        · rcases n2 with ⟨q, _⟩ | ⟨a, c, q1, q2⟩
          · omega
          · have e1 := q2 p news[p] (List.getElem?_eq_getElem (by omega))
            rcases hown.2 with ⟨e, _⟩ | ⟨g, cp, cu, e, _⟩
            · rw [e] at q1; cases q1
            · have e2 := hown.cells (g := g) (by rw [e]; rfl) p ys[p] (List.getElem?_eq_getElem (by omega))
              rw [e] at q1; cases q1
              rw [e1] at e2
              rw [List.getElem?_eq_getElem (by omega), List.getElem?_eq_getElem (by omega), Option.some.inj e2]
        · rw [List.getElem?_eq_none (by omega), List.getElem?_eq_none (by omega)]
      subst hnews
      have hlen' : (kids ++ [ds]).length = k + 1 := by simp [hkk]
      rw [← hlen']
      have hcell : ∀ p, p < (k + 1) * 4 → w'.cell? ⟨g', 0 + p, none⟩ = some ((news ++ vs).getD p undef) := fun p hp => by
        have hpl : p < (news ++ vs).length := by simp [n1, hvs, ← hkk]; omega
        have := C.owns.cells (g := g') rfl p (news ++ vs)[p] (List.getElem?_eq_getElem hpl)
        rw [add_addr] at this
        rw [this, List.getD_eq_getElem?_getD, List.getElem?_eq_getElem hpl]; rfl
      refine CRep.seq 27 (kids ++ [ds]) g' 0 cap' (fun i j => (news ++ vs).getD (i * 4 + j) undef) (by rw [hlen']; exact hkc) (fun i e hi => ?_) (fun i j hi hj => ?_) fun i j e d kk hi hj hkd => ?_
      · show e.length = (G.lay 27).length
        rw [hl4]
        rcases get_snoc hi with ⟨_, hi⟩ | ⟨_, rfl⟩
        · exact n4 i e hi
        · exact hds
      · have hj' : j < 4 := by have : j < (G.lay 27).length := hj; rwa [hl4] at this
        show imm' g' (0 + i * (G.lay 27).length + j) ∧ w'.cell? ⟨g', 0 + i * (G.lay 27).length + j, none⟩ = _
        rw [hl4]
        have hij : i * 4 + j < (k + 1) * 4 := by rw [hlen'] at hi; omega
        rw [Nat.zero_add]
        exact ⟨.inr ⟨rfl, hij⟩, by have := hcell _ hij; rwa [Nat.zero_add] at this⟩
      · have hkd' : (G.lay 27)[j]? = some kk := hkd
        have hj' : j < 4 := by have := (List.getElem?_eq_some_iff.1 hkd').1; rwa [hl4] at this
        rcases get_snoc hi with ⟨hil, hi⟩ | ⟨hil, rfl⟩
        · obtain ⟨uu, e1, e2⟩ := n5 i j e d kk hi hj hkd'
          have : (news ++ vs).getD (i * 4 + j) undef = uu := by
            have := (List.getElem?_eq_some_iff.1 e1).1
            rw [List.getD_eq_getElem?_getD, List.getElem?_append_left this, e1]; rfl
          rw [this]
          exact e2.mono hle03.imm hle03.cell
        · rw [hΛ] at hkd'
          obtain ⟨uu, e1, e2⟩ := hcr j d kk hj hkd'
          have : (news ++ vs).getD (i * 4 + j) undef = uu := by
            rw [List.getD_eq_getElem?_getD, List.getElem?_append_right (by rw [n1, hil]; omega), n1, hil, show kids.length * 4 + j - kids.length * 4 = j by omega, e1]; rfl
          rw [this]
          exact e2.mono hle03.imm hle03.cell
  -- the row
  have hown' : w'.ownsRow B 27 4 (G.rv r) (l1.length + 1) (xs.set (l1.length * 4 + 3) u') := by
    rcases t5.2 with ⟨e, _⟩ | ⟨g, cp, cu, e, e1, e2, e3, e4, e5, e6⟩
    · rw [hrv] at e; cases e
    · rw [hrv, show (l1 ++ [x]).length = l1.length + 1 by simp] at e; cases e
      rw [hcur] at e2; cases e2
      refine ⟨by simp [hxs], .inr ⟨g0, cap, _, hrv, e1, C.row, by simpa using e3, e4, by simpa using e5, ?_⟩⟩
      rw [← e6]
      simp only [Array.toList_setIfInBounds, List.length_append, List.length_singleton]
      rw [List.take_set]
  have H4 : HRep G3 B (h.set r (.row 27 v false (l1 ++ [[x.getD 0 (.int 0), x.getD 1 (.int 0), x.getD 2 (.int 0), .seq ((x.getD 3 (.int 0)).toSeq ++ [ds])]]))) w' := by
    have := H3.turn (i := r) hrn (.row 27 v false (l1 ++ [[x.getD 0 (.int 0), x.getD 1 (.int 0), x.getD 2 (.int 0), .seq ((x.getD 3 (.int 0)).toSeq ++ [ds])]])) hle4 rfl rfl (fun _ _ => ⟨rfl, rfl, rfl, rfl⟩) (by rw [hIs]; exact Nat.le_refl _)
      (fun j hj hjr g hg => (hIo g fun e => by
        rcases hbareft j hj g hg with ⟨q, _⟩ | ⟨_, q⟩
        · exact hjr q
        · exact H.inj j r hj hrn hjr g q (e ▸ hg0f)).symm) (fun g hg => ⟨.inl hg, by
        rcases hbareft r hrn g hg with ⟨_, rfl⟩ | ⟨q, _⟩
        · exact Nat.lt_of_lt_of_le hg0s C.size
        · exact absurd rfl q⟩) (fun _ g hg => by
        rcases hbareft r hrn g hg with ⟨_, rfl⟩ | ⟨q, _⟩
        · refine ⟨hB0, fun o q => ?_⟩
          rcases q with q | ⟨q, _⟩
          · exact hg0i o q
          · exact hu'0 q
        · exact absurd rfl q) ⟨hver, ?_⟩
    · rwa [List.set_set] at this
    · refine ⟨by show (G.bare r).ft r = _; simp [Gh.bare, G3], (fun e => by cases e), fun i d hi => ?_, xs.set (l1.length * 4 + 3) u', ?_, fun i j y d kk hi hj hkd => ?_⟩
      · show d.length = (G.lay 27).length
        rw [hl4]
        rcases get_snoc hi with ⟨_, hi⟩ | ⟨_, rfl⟩
        · exact t1 i d (by rw [List.getElem?_append_left (List.getElem?_eq_some_iff.1 hi).1]; exact hi)
        · rfl
      · show w'.ownsRow B 27 (G.lay 27).length (G.rv r) _ _
        rw [hl4]; simpa using hown'
      · show ∃ uu, (xs.set (l1.length * 4 + 3) u')[i * (G.lay 27).length + j]? = some uu ∧ CRep G.lay imm' w' kk d uu
        have hkd' : (G.lay 27)[j]? = some kk := hkd
        have hj4 : j < 4 := by have := (List.getElem?_eq_some_iff.1 hkd').1; rwa [hl4] at this
        rw [hl4]
        rcases get_snoc hi with ⟨hil, hi⟩ | ⟨hil, rfl⟩
        · obtain ⟨uu, e1, e2⟩ := t6 i j y d kk (by rw [List.getElem?_append_left hil]; exact hi) hj hkd'
          refine ⟨uu, ?_, e2.mono hle03.imm hle03.cell⟩
          rw [List.getElem?_set, if_neg (by omega)]; exact e1
        · by_cases hj3 : j = 3
          · subst hj3
            rw [hlay27] at hkd'
            simp at hkd' hj
            subst hkd' hj
            refine ⟨u', ?_, hcu'⟩
            rw [hil, List.getElem?_set, if_pos rfl, if_pos (by omega)]
          · have hxd : x[j]? = some d := by
              match x, hx4, j, hj4, hj3, hj with
              | [a0, a1, a2, a3], _, 0, _, _, hj => simpa using hj
              | [a0, a1, a2, a3], _, 1, _, _, hj => simpa using hj
              | [a0, a1, a2, a3], _, 2, _, _, hj => simpa using hj
              | [a0, a1, a2, a3], _, 3, _, h3, _ => exact absurd rfl h3
            obtain ⟨uu, e1, e2⟩ := t6 i j x d kk (by rw [hil]; simp) hxd hkd'
            refine ⟨uu, ?_, e2.mono hle03.imm hle03.cell⟩
            rw [List.getElem?_set, if_neg (by omega)]; exact e1
  have hkr4 : (h.set r (.row 27 v false (l1 ++ [[x.getD 0 (.int 0), x.getD 1 (.int 0), x.getD 2 (.int 0), .seq ((x.getD 3 (.int 0)).toSeq ++ [ds])]])))[r]? = some (.row 27 v false (l1 ++ [[x.getD 0 (.int 0), x.getD 1 (.int 0), x.getD 2 (.int 0), .seq ((x.getD 3 (.int 0)).toSeq ++ [ds])]])) := by rw [List.getElem?_set, if_pos rfl, if_pos hrl]
  have hus1m : ∀ g, g ∈ us1.flatMap (fun u => u.ownBlock.toList) → g ∈ G.ft r := fun g hg => by rw [hft]; simp [hg]
  have hus1n : ∀ g, g ∈ us1.flatMap (fun u => u.ownBlock.toList) → g ≠ g0 ∧ u.ownBlock ≠ some g := fun g hg => by
    refine ⟨fun e => ?_, fun e => ?_⟩
    · subst e
      exact (List.nodup_cons.1 hnd).1 (List.mem_append_left _ hg)
    · exact (List.nodup_append.1 hnd2).2.2 g hg g (by rw [e]; simp) rfl
  have hus1u' : ∀ g, g ∈ us1.flatMap (fun u => u.ownBlock.toList) → u'.ownBlock ≠ some g := fun g hg e => by
    rcases C.blk with q | ⟨b, q1, q2, _⟩
    · exact (hus1n g hg).2 (q ▸ e)
    · rw [e] at q1; cases q1; have := H.lt r hrn g (hus1m g hg); omega
  have hflat : ((us1 ++ [u']).flatMap fun u => u.ownBlock.toList) = us1.flatMap (fun u => u.ownBlock.toList) ++ u'.ownBlock.toList := by simp
  have H5 := HRep.dress (us := us1 ++ [u']) H4 hkr4 (xs := xs.set (l1.length * 4 + 3) u') (by show w'.ownsRow B 27 (G.lay 27).length (G.rv r) _ _; rw [hl4]; simpa using hown') (by simp [hus1]) (fun i y hi => by
    show ∃ uu zs t, (G.lay 27).getLast? = some (.seq t) ∧ (us1 ++ [u'])[i]? = some uu ∧ (xs.set (l1.length * 4 + 3) u')[i * (G.lay 27).length + ((G.lay 27).length - 1)]? = some uu ∧ w'.ownsRow B t (G.lay t).length uu (y.getD ((G.lay 27).length - 1) (.int 0)).toSeq.length zs ∧ ∀ g o, uu.ownBlock = some g → imm' g o → o < (y.getD ((G.lay 27).length - 1) (.int 0)).toSeq.length * (G.lay t).length
    rw [hl4]
    rcases get_snoc hi with ⟨hil, hi⟩ | ⟨hil, rfl⟩
    · obtain ⟨uu, zs, t, p1, p2, p3, p4, p5⟩ := t10 i y (by rw [List.getElem?_append_left hil]; exact hi)
      rw [List.getElem?_append_left (by omega)] at p2
      have hmem : ∀ g, uu.ownBlock = some g → g ∈ us1.flatMap (fun u => u.ownBlock.toList) := fun g e => List.mem_flatMap.2 ⟨uu, List.mem_of_getElem? p2, by simp [e]⟩
      refine ⟨uu, zs, t, p1, by rw [List.getElem?_append_left (by omega)]; exact p2, ?_, ownsRow_of_block p4 fun g e => hsame g (p4.lt g e).2 (hus1n g (hmem g e)).1 (hus1n g (hmem g e)).2, fun g o e q => ?_⟩
      · rw [List.getElem?_set, if_neg (by omega)]; exact p3
      · rcases q with q | ⟨q, _⟩
        · exact p5 g o e q
        · exact absurd q (hus1u' g (hmem g e))
    · have hlk : ((x.getD 3 (.int 0)).toSeq ++ [ds]).length = k + 1 := by simp [hkk]
      refine ⟨u', ys ++ vs, 27, by rw [hlay27]; rfl, by rw [hil, ← hus1]; simp, ?_, ?_, fun g o e q => ?_⟩
      · rw [hil, List.getElem?_set, if_pos (by omega), if_pos (by omega)]
      · rw [hl4]
        show w'.ownsRow B 27 4 u' ((x.getD 3 (.int 0)).toSeq ++ [ds]).length (ys ++ vs)
        rw [hlk]; exact C.owns
      · rw [hl4]
        show o < ((x.getD 3 (.int 0)).toSeq ++ [ds]).length * 4
        rw [hlk]
        rcases q with q | ⟨_, q⟩
        · rcases C.blk with q' | ⟨b, q1, q2, _⟩
          · have := himmu g o (q' ▸ e) q; omega
          · rw [e] at q1; cases q1; have := H.imm g o q; omega
        · exact q) (fun g hg => by
    rw [hflat] at hg
    rcases List.mem_append.1 hg with hg | hg
    · refine ⟨t3 g (hus1m g hg), Nat.lt_of_lt_of_le (H.lt r hrn g (hus1m g hg)) C.size, fun i hi hgi => ?_⟩
      rcases hbareft i hi g hgi with ⟨_, e⟩ | ⟨q, hgi⟩
      · exact (hus1n g hg).1 e
      · exact H.inj i r hi hrn q g hgi (hus1m g hg)
    · have e := ownBlock_mem.1 hg
      exact ⟨(hu'B g e).1, (hu'B g e).2, fun i hi hgi => hnotu' i hi g hgi e⟩) (by
    rw [hflat]
    refine List.nodup_append.2 ⟨(List.nodup_append.1 hnd2).1, ?_, fun a ha b hb' e => ?_⟩
    · cases u'.ownBlock <;> simp
    · subst e
      exact hus1u' a ha (ownBlock_mem.1 hb'))
  rw [List.set_set] at H5
  refine ⟨_, H5, ⟨hle03.trans (gle_dress _ _ _ _), hb.trans ⟨C.os, C.tape, C.output, C.size, fun g hg => hsame g (Nat.lt_of_lt_of_le hg hb.size) (by omega) fun e => by have := (hown.lt g e).1; omega⟩, fun b o hbB q => ?_, C.size, fun g hg hn => hsame g hg (fun e => hn r hrn (e ▸ hg0f)) fun e => hn r hrn (huf g e), fun i hi g hg => ?_, fun b o q => ?_⟩⟩
  · rcases q with q | ⟨q, _⟩
    · exact q
    · have := (hu'B b q).1; omega
  · unfold Gh.dress at hg
    by_cases q : i = r
    · subst q
      simp only [if_true] at hg
      rcases List.mem_append.1 hg with hg | hg
      · left; refine ⟨i, hrn, ?_⟩
        have : g ∈ (G.rv i).ownBlock.toList := hg
        rw [ob] at this
        simp at this; subst this; exact hg0f
      · rw [hflat] at hg
        rcases List.mem_append.1 hg with hg | hg
        · exact .inl ⟨i, hrn, hus1m g hg⟩
        · have e := ownBlock_mem.1 hg
          rcases C.blk with q | ⟨b, q1, q2, _⟩
          · exact .inl ⟨i, hrn, huf g (q ▸ e)⟩
          · rw [e] at q1; cases q1; exact .inr q2
    · simp only [if_neg q] at hg
      rcases hbareft i hi g hg with ⟨q', _⟩ | ⟨_, hg⟩
      · exact absurd q' q
      · exact .inl ⟨i, hi, hg⟩
  · rcases q with q | ⟨q, _⟩
    · exact .inl q
    · rcases C.blk with q' | ⟨c, q1, q2, _⟩
      · exact .inr (.inl ⟨r, hrn, huf b (q' ▸ q)⟩)
      · rw [q] at q1; cases q1; exact .inr (.inr q2)


theorem closedM.ok {B : Nat} {wB : World} (stab_ : ∀ w', Bel B wB w' → GW w') : HandM Tryz.prog lay B wB 82 closedM := by
  intro args h τ x out sel ok t hs hx G w vs H hΛ hb hl
  unfold closedM at hs
  split at hs
  · rename_i b e0 e1 e2 e3
    split at hs
    · rename_i c0 c1 c2 r q c4 c5 c6 c7 c8 hkb
      split at hs
      · rename_i v l hkr
        split at hs
        · rename_i hc
          obtain ⟨rfl, hbr⟩ := hc
          split at hs
          · rename_i d0 d1 d2 d3 S hds
            split at hs
            · rename_i hS
              obtain ⟨hSr, hSb⟩ := hS
              cases hs
              split at hx
              · rename_i hkids
                cases hx
                have hSr' : r ∉ S := by simpa using hSr
                have hSb' : b ∉ S := by simpa using hSb
                -- the arguments
                simp only [AV.isL] at hl
                obtain ⟨p, rest, hvs, hp, ev, rest2, hr2, hev, hr3⟩ := hl
                simp only [AV.is] at hp hev
                obtain ⟨hbn, rfl⟩ := hp
                obtain ⟨ea, rfl, hel⟩ := hev
                subst hr3 hr2
                obtain rfl : vs = #[.pointer (some ⟨G.at_ b, 0, none⟩), .agg ea] := Array.ext' (by simpa using hvs)
                obtain ⟨n1, f1, c1'⟩ := cellsD_is (h := h) (fun k a d S v => asD_is H (Compat.refl h) hΛ 4 k a d S v) (lay 27) _ _ S ea.toList hds hel
                obtain ⟨v0, v1, v2, v3, rfl⟩ : ∃ v0 v1 v2 v3, ea = #[v0, v1, v2, v3] := by
                  simp only [AV.isL] at hel
                  obtain ⟨v0, l0, q0, _, v1, l1, q1, _, v2, l2, q2, _, v3, l3, q3, _, q4⟩ := hel
                  exact ⟨v0, v1, v2, v3, Array.ext' (by rw [q0, q1, q2, q3, q4])⟩
                obtain ⟨G1, H1, m1, s1, i1, f2, f3⟩ := freeze_mv H hb (frzD_of f1)
                have hkb1 : (frzA h S)[b]? = some (.cells 74 [c0, c1, c2, .rs r q, c4, c5, c6, c7, c8] .own) := by rw [frzA_get S h b hSb']; exact hkb
                have hkr1 : (frzA h S)[r]? = some (.trow 27 q l) := by rw [frzA_get S h r hSr']; exact hkr
                have hΛ1 : G1.lay = lay := s1.lay.trans hΛ
                have hcr : ∀ (j : Nat) (d : D) (k : CK), ([d0, d1, d2, d3] : List D)[j]? = some d → (lay 27)[j]? = some k → ∃ u, ([v0, v1, v2, v3] : List Value)[j]? = some u ∧ CRep G1.lay G1.imm w k d u := fun j d k hd hk => by
                  obtain ⟨u, hu, hcu⟩ := c1' j d k hd hk
                  rw [s1.lay]
                  exact ⟨u, hu, hcu.mono (fun bb o q => (i1 bb o).2 q) fun _ _ _ => rfl⟩
                obtain ⟨_, hu0, k0⟩ := hcr 0 d0 .str rfl rfl
                obtain ⟨_, hu1, k1⟩ := hcr 1 d1 (.seq 52) rfl rfl
                obtain ⟨_, hu2, k2⟩ := hcr 2 d2 .str rfl rfl
                obtain ⟨_, hu3, k3⟩ := hcr 3 d3 (.seq 27) rfl rfl
                cases hu0; cases hu1; cases hu2; cases hu3
                have hat : G1.at_ b = G.at_ b := by rw [s1.at_]
                have hbn1 : b < G1.n := by rw [s1.n]; exact hbn
                obtain ⟨hftb, _, c, hc, hcl⟩ := H1.blk b _ hkb1
                rw [hat] at hftb hc
                have hOb := H1.own b _ hkb1 rfl (G.at_ b) (by rw [hftb]; simp)
                simp only [AV.isL] at hcl
                obtain ⟨x0, l0, y0, a0, x1, l1, y1, a1, x2, l2, y2, a2, x3, l3, y3, a3, x4, l4, y4, a4, x5, l5, y5, a5, x6, l6, y6, a6, x7, l7, y7, a7, x8, l8, y8, a8, y9⟩ := hcl
                obtain rfl : c = #[x0, x1, x2, x3, x4, x5, x6, x7, x8] := Array.ext' (by rw [y0, y1, y2, y3, y4, y5, y6, y7, y8, y9])
                simp only [AV.is] at a3
                obtain ⟨hrn, _, hsl, hval⟩ := a3
                obtain ⟨hver, hT⟩ := H1.blk r _ hkr1
                have hx3 := hval hver
                subst hx3
                have hftr : ∀ g ∈ G1.ft r, g ≠ G.at_ b := fun g hg e => H1.inj r b hrn hbn1 (fun e => hbr e.symm) g hg (by rw [hftb, e]; simp)
                obtain ⟨t1, t2, t3, t4, xs, us, t5, t6, t7, t8, t10⟩ := id hT
                have hat0 : G.at_ b < w.heap.size := (Array.getElem?_eq_some_iff.1 hc).1
                rcases List.eq_nil_or_concat l with rfl | ⟨l1', xl, rfl⟩
                · -- the whole
                  obtain ⟨ao, cap, hrv⟩ : ∃ ao cap, G1.rv r = .slice ao 0 cap := by
                    rcases t5.2 with ⟨e, _⟩ | ⟨g, cp, cu, e, _⟩
                    · exact ⟨_, _, e⟩
                    · exact ⟨_, _, e⟩
                  rw [hrv] at hc
                  refine (closed_none w (G.at_ b) cap ao x0 x1 x2 x4 x5 x6 x7 x8 v0 v1 v2 v3 hc (crep_one k0) (crep_one k1) (crep_one k2) (crep_one k3)).mono ?_
                  rintro e w' ⟨rfl, hh, hoth, hsz, hos, htp, hout⟩
                  have hle : G1.le w G1 w' := ⟨Nat.le_refl _, fun _ _ => rfl, fun _ _ q => q, fun bb o q' => by
                    have hne : bb ≠ G.at_ b := fun e => hOb.2 o (e ▸ q')
                    exact World.cell?_of_block (hoth bb (H1.imm bb o q') hne), fun _ _ => Nat.le_refl _, fun _ _ _ => rfl, rfl⟩
                  refine ⟨G1, ?_, m1.trans (.of hle (m1.below.trans ⟨hos, htp, hout, hsz, fun g hg => hoth g (Nat.lt_of_lt_of_le hg m1.below.size) (by have := hOb.1; omega)⟩) rfl hsz (fun g hg hn => hoth g hg fun e => hn b hbn1 (by rw [hftb, e]; simp)) fun i hi g hg => .inl ⟨i, hi, hg⟩), ⟨_, rfl, by simp only [AV.is]; exact ⟨#[], rfl, by simp [AV.isL]⟩⟩⟩
                  refine H1.turn hbn1 (.cells 74 [c0, c1, c2, .rs r q, .str d0.toStr, .seq 52 d1.toSeq, .str d2.toStr, .seq 27 d3.toSeq, .bool true] .own) hle rfl rfl (fun _ _ => ⟨rfl, rfl, rfl, rfl⟩) hsz (fun j hj hjb g hg => hoth g (H1.lt j hj g hg) fun e => H1.inj j b hj hbn1 hjb g hg (by rw [hftb, e]; simp))
                    (fun g hg => ⟨.inl hg, Nat.lt_of_lt_of_le (H1.lt b hbn1 g hg) hsz⟩) (fun _ g hg => H1.own b _ hkb1 rfl g hg) ⟨by rw [hat]; exact hftb, (fun e => by cases e), _, by rw [hat]; exact hh, ?_⟩
                  have g0 := AV.is_mono hle _ _ (avOf_is k0)
                  have g1 := AV.is_mono hle _ _ (avOf_is k1)
                  have g2 := AV.is_mono hle _ _ (avOf_is k2)
                  have g3 := AV.is_mono hle _ _ (avOf_is k3)
                  simp only [avOf] at g0 g1 g2 g3
                  have hrs : (AV.rs r q).is G1 w' (.slice ao 0 cap) := by simp only [AV.is]; exact ⟨hrn, by omega, ⟨_, _, _, rfl⟩, fun _ => hrv.symm⟩
                  simp only [AV.isL]
                  exact ⟨_, _, rfl, AV.is_mono hle _ _ a0, _, _, rfl, AV.is_mono hle _ _ a1, _, _, rfl, AV.is_mono hle _ _ a2, _, _, rfl, hrs, _, _, rfl, g0, _, _, rfl, g1, _, _, rfl, g2, _, _, rfl, g3, _, _, rfl, (by simp only [AV.is]), rfl⟩
                · -- a kid more
                  rw [List.concat_eq_append] at *
                  have hl4 : (G1.lay 27).length = 4 := by rw [hΛ1]; rfl
                  have hll : (l1' ++ [xl]).length - 1 = l1'.length := by simp
                  have hxl : (l1' ++ [xl])[l1'.length]? = some xl := by simp
                  have hx4 : xl.length = 4 := by rw [← hl4]; exact t1 l1'.length xl hxl
                  rcases t5.2 with ⟨_, e⟩ | ⟨g0, cap, cur, hrv, q1, q2, q3, q4, q5, q6⟩
                  · simp at e
                  rw [hl4] at q5 q6
                  have hn1 : (l1' ++ [xl]).length = l1'.length + 1 := by simp
                  rw [hn1] at hrv q3 q6
                  obtain ⟨u, ys, ty, p1, p2, p3, p4, p5⟩ := t10 l1'.length xl hxl
                  have hty : ty = 27 := by
                    rw [hΛ1] at p1
                    have : (lay 27).getLast? = some (.seq 27) := rfl
                    rw [this] at p1; cases p1; rfl
                  subst hty
                  rw [hl4] at p3 p4 p5
                  have hcu : cur[l1'.length * 4 + 3]? = some u := by
                    rw [← q6, List.getElem?_take, if_pos (by omega)] at p3
                    simpa using p3
                  have hft0 : G1.ft r = g0 :: us.flatMap (fun u => u.ownBlock.toList) := by rw [t8, hrv]; rfl
                  have hnd := t4
                  rw [hft0] at hnd
                  have hg0f : g0 ∈ G1.ft r := by rw [hft0]; simp
                  have huf : ∀ g, u.ownBlock = some g → g ∈ us.flatMap (fun u => u.ownBlock.toList) := fun g e => List.mem_flatMap.2 ⟨u, List.mem_of_getElem? p2, by simp [e]⟩
                  have hug : u.ownBlock ≠ some g0 := fun e => (List.nodup_cons.1 hnd).1 (huf g0 e)
                  have hua : u.ownBlock ≠ some (G.at_ b) := fun e => hftr _ (by rw [hft0]; exact List.mem_cons_of_mem _ (huf _ e)) rfl
                  have hag : G.at_ b ≠ g0 := fun e => hftr g0 hg0f e.symm
                  have hgd : xl.getD 3 (.int 0) = D.at (l1' ++ [xl]) ((l1' ++ [xl]).length - 1) 3 := by rw [hll]; simp [D.at, List.getD_eq_getElem?_getD]
                  have hkk : (xl.getD 3 (.int 0)).toSeq.length < 1073741823 := by rw [hgd]; exact hkids
                  refine (closed_some B w (G.at_ b) g0 (l1'.length + 1) cap cur u _ ys v0 v1 v2 v3 (by rw [← hrv]; simp [World.cell?, hc]) hat0 (Nat.succ_pos _) q2 (by simpa using hcu) (by simp only [maxLen] at q4; omega) p4 hkk m1.below.size hag hug hua (crep_one k0) (crep_one k1) (crep_one k2) (crep_one k3)).mono ?_
                  rintro e w' ⟨rfl, u', C⟩
                  obtain ⟨G2, H2, m2⟩ := closed_rep H1 m1.below hΛ1 hkr1 (ds := [d0, d1, d2, d3]) (vs := [v0, v1, v2, v3]) rfl rfl hcr hrv q2 hcu rfl p4 (by simpa using C)
                  have he : (l1' ++ [xl]).isEmpty = false := by cases l1' <;> rfl
                  refine ⟨G2, ?_, m1.trans m2, ⟨_, rfl, by simp only [AV.is]; exact ⟨#[], rfl, by simp [AV.isL]⟩⟩⟩
                  rw [he]
                  have hset : (l1' ++ [xl]).set ((l1' ++ [xl]).length - 1) [D.at (l1' ++ [xl]) ((l1' ++ [xl]).length - 1) 0, D.at (l1' ++ [xl]) ((l1' ++ [xl]).length - 1) 1, D.at (l1' ++ [xl]) ((l1' ++ [xl]).length - 1) 2, .seq ((D.at (l1' ++ [xl]) ((l1' ++ [xl]).length - 1) 3).toSeq ++ [[d0, d1, d2, d3]])] =
                      l1' ++ [[xl.getD 0 (.int 0), xl.getD 1 (.int 0), xl.getD 2 (.int 0), .seq ((xl.getD 3 (.int 0)).toSeq ++ [[d0, d1, d2, d3]])]] := by
                    rw [hll]; simp [D.at, List.getD_eq_getElem?_getD]
                  simp only [closedT, cond_false, hset]
                  exact H2
              · cases hx
            · cases hs
          · cases hs
        · cases hs
      · cases hs
    · cases hs
  · cases hs
end Go.Proofs.YtphlamnaaogmaaaGreatDoor.M
