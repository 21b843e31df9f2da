/- key.Read: the first of the thirty right keys whose name is the text; ErrKey, if none is. -/
import Derived.Lib.Hide
import Derived.Test.YtaanbojalolhnaaGLine
import Derived.Test.YtaanbojalolhnaaM4
set_option linter.unusedSimpArgs false
set_option linter.unusedVariables false
namespace Go.Proofs.Ytaanbojalolhnaa.M
open Go.RowKit Go.Shelf Go.Proofs.YtaanbojalolhnaaW.PrintWords
attribute [local go_sem] Oper.semAt_some

/-- a right key: its fifths from -7 on, whether it is minor -/
abbrev RKey := Fin 15 × Bool
def RKey.five (x : RKey) : Int := -7 + (x.1.val : Int)
/-- the right keys, of the first n numbers of fifths -/
def keyList : Nat → List RKey
  | 0 => []
  | n + 1 => if h : n < 15 then keyList n ++ [(⟨n, h⟩, false)] ++ [(⟨n, h⟩, true)] else keyList n
theorem keyList_succ {n : Nat} (h : n < 15) : keyList (n + 1) = keyList n ++ [(⟨n, h⟩, false)] ++ [(⟨n, h⟩, true)] := by
  rw [keyList, dif_pos h]
theorem keyList_length {n : Nat} (h : n ≤ 15) : (keyList n).length = 2 * n := by
  induction n with
  | zero => rfl
  | succ n ih => rw [keyList_succ (by omega)]; simp [ih (by omega)]; omega
theorem keyList_prefix {k n : Nat} (h : k ≤ n) (hn : n ≤ 15) : keyList k <+: keyList n := by
  obtain ⟨m, rfl⟩ := Nat.exists_eq_add_of_le h
  induction m with
  | zero => exact List.prefix_refl _
  | succ m ih => exact (ih (by omega) (by omega)).trans ⟨_, by rw [← Nat.add_assoc, keyList_succ (show k + m < 15 by omega), List.append_assoc]⟩
abbrev encKey (x : RKey) : Array Value := #[.agg #[.int .i64 x.five, .bool x.2]]

set_option maxRecDepth 100000 in
set_option maxHeartbeats 4000000 in
theorem keys1_in (n : Nat) (hn : 1 ≤ n) (l n₀ : Nat) (J Jx : List RKey → World → Prop) (W : World)
    (hY : ∀ pre x W, J pre W → pre.length < 30 → YieldAt Fence.wide (n - 1) Try.prog l (encKey x) W fun e W' =>
      (e = .returned (.bool true) ∧ J (pre ++ [x]) W' ∧ Below n₀ W W') ∨ (e = .returned (.bool false) ∧ Jx (pre ++ [x]) W'))
    (h0 : J [] W) :
    CallsIn Fence.wide n Try.prog 37 #[.func (.yield l) #[] #[]] W fun e W' => (∃ v, e = .returned v) ∧
      ((∃ ys, ys = keyList 15 ∧ J ys W') ∨ (∃ pre, pre <+: keyList 15 ∧ Jx pre W')) := by
  refine callsIn_of_wp Try.func37 rfl trivial ?_ rfl
  simp only [Try.ntmps37, List.size_toArray, List.length_cons, List.length_nil, Nat.reduceAdd, Nat.reduceSub, Array.replicate_succ, Array.replicate_zero, List.push_toArray, List.append_toArray, List.nil_append, List.cons_append]
  gi_wp2
  gi_loopw [2] (fun i wr => ∃ k : Nat, k ≤ 15 ∧ i = .int .i64 (-7 + k) ∧ J (keyList k) wr)
    (fun i _ => (8 - intOf i).toNat)
  case atStart => exact ⟨0, Nat.zero_le _, by simp, h0⟩
  case round =>
    obtain ⟨k, hk, rfl, hJs⟩ := hrel
    by_cases hlt : k < 15
    · have hle : decide (-7 + (k : Int) ≤ 7) = true := decide_eq_true (by omega)
      obtain ⟨fn, tmps, assign, body, hy, hR⟩ := hY _ (⟨k, hlt⟩, false) wr hJs (by rw [keyList_length hk]; omega)
      dsimp only [encKey, RKey.five] at hy
      gi_wp2
      refine hR.mono ?_
      rintro e W3 (⟨rfl, hJ3, hk3⟩ | ⟨rfl, hJx3⟩)
      · clear hy hR
        obtain ⟨fn2, tmps2, assign2, body2, hy2, hR2⟩ := hY _ (⟨k, hlt⟩, true) W3 hJ3 (by simp [keyList_length hk]; omega)
        dsimp only [encKey, RKey.five] at hy2
        gi_wp2
        refine hR2.mono ?_
        rintro e W4 (⟨rfl, hJ4, hk4⟩ | ⟨rfl, hJx4⟩)
        · gi_wp2
          go_roundw
          case rel => exact ⟨k + 1, by omega, by rw [show ((k + 1 : Nat) : Int) = (k : Int) + 1 from by omega, Int.add_assoc], by rw [keyList_succ hlt]; exact hJ4⟩
          case measure => simp [intOf]; omega
        · gi_wp2
          refine bodyPost_ret (results_none rfl _ _ _) rfl ?_
          exact ⟨⟨_, rfl⟩, .inr ⟨_, by rw [← keyList_succ hlt]; exact keyList_prefix (show k + 1 ≤ 15 by omega) (Nat.le_refl _), hJx4⟩⟩
      · gi_wp2
        refine ⟨fun _ h => (by cases h), ?_⟩
        gi_wp2
        refine bodyPost_ret (results_none rfl _ _ _) rfl ?_
        refine ⟨⟨_, rfl⟩, .inr ⟨_, List.IsPrefix.trans ?_ (keyList_prefix (show k + 1 ≤ 15 by omega) (Nat.le_refl _)), hJx3⟩⟩
        exact ⟨_, (keyList_succ hlt).symm⟩
    · have hle : decide (-7 + (k : Int) ≤ 7) = false := decide_eq_false (by omega)
      gi_wp2
      go_end0
      have hkN : k = 15 := by omega
      exact ⟨⟨_, rfl⟩, .inl ⟨_, rfl, hkN ▸ hJs⟩⟩

theorem keys_stops (n : Nat) (hn : 1 ≤ n) (n₀ : Nat) (w : World) :
    SeqStopsK Fence.wide n Try.prog 37 #[] encKey (Below n₀) (fun ys => ys = keyList 15) (fun pre => pre <+: keyList 15) 30 w :=
  fun l J Jx W _ _ _ hY h0 => keys1_in n hn l n₀ J Jx W hY h0

set_option maxHeartbeats 1000000 in
theorem keys_in (n : Nat) (w : World) : CallsIn Fence.wide n Try.prog 33 #[] w fun e w' => e = .returned (.func (.func 37) #[] #[]) ∧ w' = w := by
  refine callsIn_of_wp Try.func33 rfl trivial ?_ rfl
  simp only [Try.ntmps33, List.size_toArray, List.length_cons, List.length_nil, Nat.reduceAdd, Nat.reduceSub, Array.replicate_succ, Array.replicate_zero, List.push_toArray, List.append_toArray, List.nil_append, List.cons_append]
  gi_wp2
  go_ret
  exact ⟨rfl, rfl⟩

/-- a right key's name -/
def nameOf (x : RKey) : ByteArray := (key_name.f x.five x.2).getD ⟨#[]⟩
theorem name_some : ∀ i : Fin 15, ∀ m : Bool, (key_name.f (-7 + (i.val : Int)) m).isSome = true := by decide +kernel
theorem name_at (x : RKey) : key_name.f x.five x.2 = some (nameOf x) := by
  obtain ⟨r, hr⟩ := Option.isSome_iff_exists.1 (name_some x.1 x.2)
  simp only [nameOf, RKey.five, hr, Option.getD_some]

def firstKey (s : ByteArray) (l : List RKey) : Option RKey := l.find? fun x => (nameOf x).toList == s.toList
def key_Read.f (a0 : ByteArray) : Option (Int × Bool × Int) :=
  some (match firstKey a0 (keyList 15) with | some x => (x.five, x.2, 0) | none => (0, false, 30))
theorem firstKey_none {s : ByteArray} {l : List RKey} (h : ∀ x ∈ l, (nameOf x).toList ≠ s.toList) : firstKey s l = none := by
  unfold firstKey
  rw [List.find?_eq_none]
  intro x hx
  simpa using h x hx
theorem firstKey_hit {s : ByteArray} {l : List RKey} {x : RKey} (h : ∀ x ∈ l, (nameOf x).toList ≠ s.toList) (hx : (nameOf x).toList = s.toList) (r : List RKey) : firstKey s (l ++ [x] ++ r) = some x := by
  unfold firstKey
  rw [List.append_assoc, List.find?_append, List.find?_eq_none.2 (fun p hp => by simpa using h p hp)]
  simp [hx]
theorem cells_own2 {β : Type} (B : Nat) (cs : Array Value) (t : TypeId) : Own (fun (_ : β) W => W.heap[B]? = some (.cells cs t (0, 0))) := fun s X Y row hs hg hrow =>
  (hg.block B (Array.getElem?_eq_some_iff.1 hs).1 (fun e => by obtain ⟨o, ho, hc⟩ := hrow B e.symm; rw [show X.heap[B]? = _ from hs] at ho; cases ho; cases hc)).trans hs

def ReadPost (s : ByteArray) (w : World) (e : Ending) (w' : World) : Prop :=
  (∃ x : Int × Bool × Int, key_Read.f s = some x ∧ e = .returned (.tuple #[.agg #[.int .i64 x.1, .bool x.2.1], .int .i64 x.2.2])) ∧ Below w.heap.size w w'

set_option maxRecDepth 100000 in
set_option maxHeartbeats 8000000 in
theorem read_in (s : ByteArray) (w : World) : CallsIn Fence.wide 9 Try.prog 25 #[.string s] w (ReadPost s w) := by
  refine callsIn_of_wp_marks Try.func25 rfl trivial ?_ rfl
  simp only [Try.ntmps25, List.size_toArray, List.length_cons, List.length_nil, Nat.reduceAdd, Nat.reduceSub, Array.replicate_succ, Array.replicate_zero, List.push_toArray, List.append_toArray, List.nil_append, List.cons_append]
  gi_wp2_with (refine ⟨trivial, ?_⟩; gi_at_call 33; refine (keys_in _ _).mono ?_; rintro e w' ⟨rfl, rfl⟩)
  have hB0 : Below w.heap.size w (((w.alloc (.cells #[.string s] 9)).alloc (.cells #[.int .i64 0, .bool false] 23)).alloc (.cells #[.int .i64 0] 25)) :=
    (((Below.refl _ w).alloc (Nat.le_refl _) _).alloc (by simp) _).alloc (by simp; omega) _
  have bS := ((Boxed.new w 9 (.string s)).alloc (.cells #[.int .i64 0, .bool false] 23)).alloc (.cells #[.int .i64 0] 25)
  have bK : (((w.alloc (.cells #[.string s] 9)).alloc (.cells #[.int .i64 0, .bool false] 23)).alloc (.cells #[.int .i64 0] 25)).heap[w.heap.size + 1]? = some (.cells #[.int .i64 0, .bool false] 23 (0, 0)) := by
    have h1 := World.alloc_heap_new (w.alloc (.cells #[.string s] 9)) (.cells #[.int .i64 0, .bool false] 23)
    rw [World.size_alloc] at h1
    exact (Below.heap_alloc _ _ _ (by simp)).trans h1
  have bE := Boxed.new ((w.alloc (.cells #[.string s] 9)).alloc (.cells #[.int .i64 0, .bool false] 23)) 25 (.int .i64 0)
  simp only [World.size_alloc] at bE
  have hsz : (((w.alloc (.cells #[.string s] 9)).alloc (.cells #[.int .i64 0, .bool false] 23)).alloc (.cells #[.int .i64 0] 25)).heap.size = w.heap.size + 3 := by simp
  obtain ⟨W0, hW0⟩ : ∃ W0, (((w.alloc (.cells #[.string s] 9)).alloc (.cells #[.int .i64 0, .bool false] 23)).alloc (.cells #[.int .i64 0] 25)) = W0 := ⟨_, rfl⟩
  rw [hW0] at bS bK bE hB0 hsz ⊢
  clear hW0
  have hmx : Try.prog.follows .mixedOrders = true := by kernel_rfl
  refine wpIn_rangeFunc_ownH rfl (by omega) (gf := 37) (lb := #[]) rfl trivial (enters_of Try.func37 (by kernel_rfl) rfl)
    (keys_stops 8 (by omega) (w.heap.size + 3) W0) belowK_t (belowK_b (by omega)) (Below.refl _ _) (fun _ => rfl)
    (fun pre W => ((Boxed W w.heap.size 9 (.string s) ∧ W.heap[w.heap.size + 1]? = some (.cells #[.int .i64 0, .bool false] 23 (0, 0)) ∧ Boxed W (w.heap.size + 1 + 1) 25 (.int .i64 0)) ∧ (∀ x ∈ pre, (nameOf x).toList ≠ s.toList)) ∧ Below (w.heap.size + 3) W0 W)
    (fun c pre W => c = .ret ∧ ∃ q x, pre = q ++ [x] ∧ (∀ p ∈ q, (nameOf p).toList ≠ s.toList) ∧ (nameOf x).toList = s.toList ∧ (W.heap[w.heap.size + 1]? = some (.cells #[.int .i64 x.five, .bool x.2] 23 (0, 0)) ∧ Boxed W (w.heap.size + 1 + 1) 25 (.int .i64 0)) ∧ Below w.heap.size w W)
    (OwnFrom.and (OwnFrom.and (OwnFrom.and (Own.from (boxed_own _ _ (fun _ => _)) _) (OwnFrom.and (Own.from (cells_own2 _ _ _) _) (Own.from (boxed_own _ _ (fun _ => _)) _))) (ownFrom_pure _ (fun pre => ∀ x ∈ pre, (nameOf x).toList ≠ s.toList))) (ownFrom_below (by omega) (by omega)))
    ?hIx
    ⟨⟨⟨bS, bK, bE⟩, by simp⟩, Below.refl _ _⟩
    (fun x a' W => ∃ Bx, w.heap.size + 2 < Bx ∧ W.heap[Bx]? = some (.cells #[.int .i64 x.five, .bool x.2] 23 (0, 0)) ∧ a' = { tmps := #[.string s, .pointer (some ⟨w.heap.size, 0, none⟩), .pointer (some ⟨w.heap.size + 1, 0, none⟩), .pointer (some ⟨w.heap.size + 1 + 1, 0, none⟩), .pointer (some ⟨Bx, 0, none⟩), .func (.func 37) #[] #[], .agg #[.int .i64 x.five, .bool x.2], undef, undef, undef, undef, undef, undef], defers := [] })
    ?hAx ?assign ?body ?done ?stop
  case hIx =>
    rintro c t X Y row ⟨hc, q, x, h1, h2, h3, ⟨h4, h4'⟩, h5⟩ hg hr
    exact ⟨hc, q, x, h1, h2, h3, ⟨cells_own2 _ _ 23 () X Y row h4 hg (fun r e => (hr r e).2), boxed_own _ 25 (fun (_ : Unit) => Value.int .i64 0) () X Y row h4' hg (fun r e => (hr r e).2)⟩, h5.grown hg h5.size (fun r e => by have := (hr r e).1; omega)⟩
  case hAx =>
    rintro x a' _ X Y row ⟨Bx, h1, h2, h3⟩ hg hr
    exact ⟨Bx, h1, cells_own2 Bx _ 23 () X Y row h2 hg (fun r e => (hr r e).2), h3⟩
  case assign =>
    rintro l pre x W K ⟨⟨⟨bS1, bK1, bE1⟩, hp⟩, hB1⟩ hK
    gi_wp2
    have hs1 := hB1.size
    exact hK _ _ ((KeepsOthers.alloc _ _).from _) ((Below.refl _ W).alloc (by omega) _) ⟨⟨⟨bS1.alloc _, (Below.heap_alloc W _ _ (by omega)).trans bK1, bE1.alloc _⟩, hp⟩, hB1.alloc (by omega) _⟩ ⟨W.heap.size, by omega, World.alloc_heap_new W _, rfl⟩
  case body =>
    rintro l pre x a' W hl ⟨r, hr⟩ ⟨⟨⟨bS1, bK1, bE1⟩, hp⟩, hB1⟩ ⟨Bx, hBx, bX, rfl⟩ hlt
    have cS := bS1.cell
    have c0 : W.cell? ⟨Bx, 0, none⟩ = some (.int .i64 x.five) := by simp [World.cell?, bX]
    have c1 : W.cell? ⟨Bx, 1, none⟩ = some (.bool x.2) := by simp [World.cell?, bX]
    have HN := Lib.hid (name_at x)
    have h27 : Fence.wide.fn 27 := trivial
    have hs1 := hB1.size
    gi_wp2
    gi_region_with_o (gi_at_call 27; refine (CallsIn.inRound l (callsIn_wide.2 (key_name.calls _ _ _ _ HN.out))).mono ?_; rintro e w1 ⟨rfl, hb1⟩; have cS1 : w1.cell? ⟨w.heap.size, 0, none⟩ = some (.string s) := (hb1.cell (p := ⟨w.heap.size, 0, none⟩) (by simp; omega)).trans cS)
    all_goals
      have hb : Below W.heap.size W w1 := ⟨hb1.os, hb1.tape, hb1.output, hb1.size, hb1.block⟩
      clear hb1 HN c0 c1 cS
      have hn3 : Below (w.heap.size + 3) W w1 := hb.mono (by omega)
      have bX1 : w1.heap[Bx]? = some (.cells #[.int .i64 x.five, .bool x.2] 23 (0, 0)) := (hb.block Bx (Array.getElem?_eq_some_iff.1 bX).1).trans bX
      have bK2 : w1.heap[w.heap.size + 1]? = some (.cells #[.int .i64 0, .bool false] 23 (0, 0)) := (hb.block _ (by omega)).trans bK1
      have bE2 : Boxed w1 (w.heap.size + 1 + 1) 25 (.int .i64 0) := (hb.block _ (by omega)).trans bE1
      have bS2 : Boxed w1 w.heap.size 9 (.string s) := (hb.block _ (by omega)).trans bS1
      have hBw : Below w.heap.size w w1 := (hB0.trans (hB1.mono (by omega))).trans (hb.mono (by omega))
      have hkf : KeepsFrom W0.heap.size W w1 := (KeepsOthers.of_grownBy (row := none) (grown_below hb none) (fun j o e => by cases e)).from _
      have c0 : w1.cell? ⟨Bx, 0, none⟩ = some (.int .i64 x.five) := by simp [World.cell?, bX1]
      have c1 : w1.cell? ⟨Bx, 1, none⟩ = some (.bool x.2) := by simp [World.cell?, bX1]
      have k0 : w1.cell? ⟨w.heap.size + 1, 0, none⟩ = some (.int .i64 0) := by simp [World.cell?, bK2]
      have k1 : w1.cell? ⟨w.heap.size + 1, 1, none⟩ = some (.bool false) := by simp [World.cell?, bK2]
      have kf0 : w1.frozen? ⟨w.heap.size + 1, 0, none⟩ = false := by simp [World.frozen?, bK2]
      have kf1 : w1.frozen? ⟨w.heap.size + 1, 1, none⟩ = false := by simp [World.frozen?, bK2]
      have e0 := bE2.cell
      have ef := bE2.frozen
      have HBS := Lib.hid (And.intro hb (And.intro hn3 (And.intro bK2 (And.intro bE2 (And.intro hBw (And.intro bS2 hkf))))))
      clear hb hn3 bX1 bK2 bE2 hBw hkf bS2
      gi_wp2
      · rename_i hx
        obtain ⟨hb, hn3, bK2, bE2, hBw, bS2, hkf⟩ := HBS.out
        have hx' : (nameOf x).toList = s.toList := by simpa using hx
        refine ⟨?_, rfl, pre, x, rfl, hp, hx', ⟨?_, ?_⟩, ?_⟩
        · exact ((hkf.trans ((KeepsOthers.setCell _ _ _).from _)).trans ((KeepsOthers.setCell _ _ _).from _)).trans ((KeepsOthers.setCell _ _ _).from _)
        · refine blk_far (blk_put (cs := #[.int .i64 x.five, .bool false]) (blk_put (cs := #[.int .i64 0, .bool false]) bK2 0 _ rfl) 1 _ rfl) (by simp) _
        · exact Boxed.set _ ((Below.heap_setCell _ ⟨w.heap.size + 1, 1, none⟩ _ _ (by simp)).trans ((Below.heap_setCell _ ⟨w.heap.size + 1, 0, none⟩ _ _ (by simp)).trans bE2))
        · exact ((hBw.setCell (p := ⟨w.heap.size + 1, 0, none⟩) (by simp) _).setCell (p := ⟨w.heap.size + 1, 1, none⟩) (by simp) _).setCell (p := ⟨w.heap.size + 1 + 1, 0, none⟩) (by simp; omega) _
      · rename_i hx
        obtain ⟨hb, hn3, bK2, bE2, hBw, bS2, hkf⟩ := HBS.out
        have hx' : (nameOf x).toList ≠ s.toList := by simpa using hx
        refine ⟨hkf, hn3, ⟨⟨bS2, bK2, bE2⟩, ?_⟩, hB1.trans hn3⟩
        intro p hpm
        rcases List.mem_append.1 hpm with h | h
        · exact hp p h
        · rw [List.mem_singleton.1 h]; exact hx'
  case done =>
    rintro D xs W hD rfl ⟨⟨⟨bS1, bK1, bE1⟩, hp⟩, hB1⟩ hK
    have k0 : W.cell? ⟨w.heap.size + 1, 0, none⟩ = some (.int .i64 0) := by simp [World.cell?, bK1]
    have k1 : W.cell? ⟨w.heap.size + 1, 1, none⟩ = some (.bool false) := by simp [World.cell?, bK1]
    have kf0 : W.frozen? ⟨w.heap.size + 1, 0, none⟩ = false := by simp [World.frozen?, bK1]
    have kf1 : W.frozen? ⟨w.heap.size + 1, 1, none⟩ = false := by simp [World.frozen?, bK1]
    have e0 := bE1.cell
    have ef := bE1.frozen
    have HN := Lib.hid (firstKey_none hp)
    have HBS := Lib.hid (And.intro bK1 bE1)
    clear bK1 bE1
    gi_wp2
    obtain ⟨bK1, bE1⟩ := HBS.out
    have hB2 : Below w.heap.size w (((W.setCell ⟨w.heap.size + 1, 0, none⟩ (.int .i64 0)).setCell ⟨w.heap.size + 1, 1, none⟩ (.bool false)).setCell ⟨w.heap.size + 1 + 1, 0, none⟩ (.int .i64 30)) :=
      (((hB0.trans (hB1.mono (by omega))).setCell (p := ⟨w.heap.size + 1, 0, none⟩) (by simp) _).setCell (p := ⟨w.heap.size + 1, 1, none⟩) (by simp) _).setCell (p := ⟨w.heap.size + 1 + 1, 0, none⟩) (by simp; omega) _
    have hK' := ((KeepsOthers.setCell W ⟨w.heap.size + 1, 0, none⟩ (.int .i64 0)).trans ((KeepsOthers.setCell _ ⟨w.heap.size + 1, 1, none⟩ (.bool false)).trans (KeepsOthers.setCell _ ⟨w.heap.size + 1 + 1, 0, none⟩ (.int .i64 30)))).same D _ hK rfl
    have hk := blk_far (blk_put (cs := #[.int .i64 0, .bool false]) (blk_put (cs := #[.int .i64 0, .bool false]) bK1 0 (.int .i64 0) rfl) 1 (.bool false) rfl) (p := ⟨w.heap.size + 1 + 1, 0, none⟩) (by simp) (.int .i64 30)
    have he := Boxed.set (.int .i64 30) ((Below.heap_setCell _ ⟨w.heap.size + 1, 1, none⟩ (.bool false) _ (by simp)).trans ((Below.heap_setCell _ ⟨w.heap.size + 1, 0, none⟩ (.int .i64 0) _ (by simp)).trans bE1))
    generalize (((W.setCell ⟨w.heap.size + 1, 0, none⟩ (.int .i64 0)).setCell ⟨w.heap.size + 1, 1, none⟩ (.bool false)).setCell ⟨w.heap.size + 1 + 1, 0, none⟩ (.int .i64 30)) = W3 at hB2 hK' hk he ⊢
    refine ⟨by simp, .inl ⟨_, _, rfl, run_takeDeferred hK', ?_⟩⟩
    have hc0 := cell_kept ((blk_cell hk 0).trans rfl) (grownBy_putObj' _ D (.deferred none)) (fun r e => by cases e; exact ⟨_, hK', rfl⟩)
    have hc1 := cell_kept ((blk_cell hk 1).trans rfl) (grownBy_putObj' _ D (.deferred none)) (fun r e => by cases e; exact ⟨_, hK', rfl⟩)
    have hc2 := cell_kept he.cell (grownBy_putObj' _ D (.deferred none)) (fun r e => by cases e; exact ⟨_, hK', rfl⟩)
    refine ⟨.tuple #[.agg #[.int .i64 0, .bool false], .int .i64 30], ?_, ⟨(0, false, 30), ?_, rfl⟩, ?_⟩
    · simp [results, Try.f25, go_sem, hc0, hc1, hc2, Try.underlying23]
    · unfold key_Read.f; rw [HN.out]
    · exact hB2.trans (belowK_b (w := w) (Nat.le_refl _) _ D _ _ (by omega) hK' rfl rfl)
  case stop =>
    rintro D c pre W hD hpre ⟨rfl, q, x, rfl, hqn, hx, ⟨bK1, bE1⟩, hB1⟩ hK
    have hf : firstKey s (keyList 15) = some x := by
      obtain ⟨r, hr⟩ := hpre
      rw [← hr]
      exact firstKey_hit hqn hx r
    have HF := Lib.hid hf
    have HX := Lib.hid hx
    have HP := Lib.hid hpre
    clear hf hx hpre
    gi_wp2
    refine ⟨by simp, .inl ⟨_, _, rfl, run_takeDeferred hK, ?_⟩⟩
    have hc0 := cell_kept ((blk_cell bK1 0).trans rfl) (grownBy_putObj' _ D (.deferred none)) (fun r e => by cases e; exact ⟨_, hK, rfl⟩)
    have hc1 := cell_kept ((blk_cell bK1 1).trans rfl) (grownBy_putObj' _ D (.deferred none)) (fun r e => by cases e; exact ⟨_, hK, rfl⟩)
    have hc2 := cell_kept bE1.cell (grownBy_putObj' _ D (.deferred none)) (fun r e => by cases e; exact ⟨_, hK, rfl⟩)
    refine ⟨.tuple #[.agg #[.int .i64 x.five, .bool x.2], .int .i64 0], ?_, ⟨(x.five, x.2, 0), ?_, rfl⟩, ?_⟩
    · simp [results, Try.f25, go_sem, hc0, hc1, hc2, Try.underlying23]
    · unfold key_Read.f; rw [HF.out]
    · exact hB1.trans (belowK_b (w := w) (Nat.le_refl _) _ D _ _ (by omega) hK rfl rfl)

theorem key_Read.calls (a0 : ByteArray) (r1 : Int) (r2 : Bool) (r3 : Int) (w : World) (h : key_Read.f a0 = some (r1, r2, r3)) :
    Calls Try.prog 25 #[.string a0] w fun e w' => e = .returned (.tuple #[.agg #[.int .i64 r1, .bool r2], .int .i64 r3]) ∧ Below w.heap.size w w' := by
  refine (callsIn_wide.1 (read_in a0 w)).mono ?_
  rintro e w' ⟨⟨x, hx, rfl⟩, hb⟩
  rw [h] at hx
  obtain rfl := Option.some.inj hx
  exact ⟨rfl, hb⟩
end Go.Proofs.Ytaanbojalolhnaa.M
