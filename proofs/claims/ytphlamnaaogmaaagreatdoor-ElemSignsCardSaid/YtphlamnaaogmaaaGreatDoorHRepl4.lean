import Derived.Test.YtphlamnaaogmaaaGreatDoorHRepl3
import Derived.Laws.Pointers
import Derived.RegionTactic
import Derived.RegionCalls
import Derived.ChangeAlike
namespace Go.Proofs.YtphlamnaaogmaaaGreatDoor.M
open Go.RowKit Go.Proofs.Qx
set_option linter.unusedVariables false
set_option linter.unusedSimpArgs false

theorem rDisable (w : World) : (callFunc 156 #[]).run Tryz.prog w = .ok (.value (.tuple #[])) w := run_call_mark0 Tryz.func156 (by kernel_rfl) (by kernel_rfl) (by kernel_rfl) .disable (by kernel_rfl) w
theorem rEnable (w : World) : (callFunc 158 #[]).run Tryz.prog w = .ok (.value (.tuple #[])) w := run_call_mark0 Tryz.func158 (by kernel_rfl) (by kernel_rfl) (by kernel_rfl) .enable (by kernel_rfl) w
theorem rAcquire (a : Addr) (w : World) : (callFunc 159 #[.pointer (some a)]).run Tryz.prog w = .ok (.value (.tuple #[])) w := run_call_marked Tryz.func159 (by kernel_rfl) (by kernel_rfl) (by kernel_rfl) .acquire (by kernel_rfl) a w
theorem rReleaseMerge (a : Addr) (w : World) : (callFunc 161 #[.pointer (some a)]).run Tryz.prog w = .ok (.value (.tuple #[])) w := run_call_marked Tryz.func161 (by kernel_rfl) (by kernel_rfl) (by kernel_rfl) .releaseMerge (by kernel_rfl) a w

theorem store_deferred (a : Addr) (x : Value) (u : FrameMode) (w : World) (hc : w.cell? a = some x) (hz : w.frozen? a = false) :
    CallsD Tryz.prog 134 #[.pointer (some a), .bool true] u w fun e u' w' => u' = u ∧ (e = .returned (.tuple #[]) ∧ w' = w.drew.setCell a (.int .u32 1)) := by
  have hc' : w.drew.cell? a = some x := by go_simp
  have hz' : w.drew.frozen? a = false := by go_simp
  have hst := run_call_store (P := Tryz.prog) Tryz.func146 (by kernel_rfl) (by kernel_rfl) (by kernel_rfl) (by kernel_rfl) (k := .u32) (y := 1) hc' hz'
  go_enter_d Tryz.func134, Tryz.ntmps134
  go_wp2
  go_region_calls
  all_goals (go_end0; exact ⟨rfl, rfl⟩)

set_option maxRecDepth 100000 in
set_option maxHeartbeats 1600000 in
theorem unlock_deferred (a : Addr) (u : FrameMode) (w : World) (hc : w.cell? a = some (.int .i32 1)) (hz : w.frozen? a = false) :
    CallsD Tryz.prog 133 #[.pointer (some a)] u w fun e u' w' => u' = u ∧ (e = .returned (.tuple #[]) ∧ w' = w.setCell a (.int .i32 0)) := by
  have hd := rDisable
  have he := rEnable
  have hr := rReleaseMerge
  have hadd := run_call_add (P := Tryz.prog) Tryz.func162 (by kernel_rfl) (by kernel_rfl) (by kernel_rfl) .i32 (by kernel_rfl) (y := -1) (s := 0) hc hz (by simp [go_sem]; rfl)
  have hcv := run_convert_to_unsafe (P := Tryz.prog) (src := 201) (dst := 96) Tryz.underlying201 Tryz.underlying96 (by kernel_rfl) hc
  go_enter_d Tryz.func133, Tryz.ntmps133
  go_wp2
  go_end0
  go_wp2
  try go_end0
  all_goals exact ⟨rfl, rfl⟩

set_option maxRecDepth 100000 in
set_option maxHeartbeats 1600000 in
theorem lock_free (a : Addr) (w : World) (hc : w.cell? a = some (.int .i32 0)) (hz : w.frozen? a = false) :
    Calls Tryz.prog 132 #[.pointer (some a)] w fun e w' => e = .returned (.tuple #[]) ∧ w' = w.setCell a (.int .i32 1) := by
  have hd := rDisable
  have he := rEnable
  have ha := rAcquire
  have hcas := run_call_cas_hit (P := Tryz.prog) Tryz.func157 (by kernel_rfl) (by kernel_rfl) (by kernel_rfl) .i32 (by kernel_rfl) (y := 1) hc hz
  have hc' : (w.setCell a (.int .i32 1)).cell? a = some (.int .i32 1) := World.cell?_setCell_same w a _ hc
  have hcv := run_convert_to_unsafe (P := Tryz.prog) (src := 201) (dst := 96) Tryz.underlying201 Tryz.underlying96 (by kernel_rfl) hc'
  go_enter Tryz.func132, Tryz.ntmps132
  go_wp2
  first | go_end0 | (simp only [Exit.inBlock, Exit.then]; refine bodyPost_ret (results_none rfl _ _ _) rfl ?_) | refine bodyPost_ret (results_none rfl _ _ _) rfl ?_
  go_wp2
  try go_end0
  all_goals exact ⟨rfl, rfl⟩

set_option maxRecDepth 100000 in
set_option maxHeartbeats 1600000 in
theorem buildOnce_walk (w : World) (r o cap : Nat) (x0 x1 x2 : Value) (hr : w.heap[r]? = some (.cells #[x0, x1, x2, .nilIface, .slice (some ⟨o, 0, none⟩) 8 cap] 132 (0, 0))) (hl : ListAt w o) :
    Calls Tryz.prog 93 #[.pointer (some ⟨r, 0, none⟩)] w fun e w' => e = .returned (.tuple #[]) ∧ ∃ t, w'.heap[r]? = some (.cells #[x0, x1, x2, .iface 177 (.pointer (some ⟨t, 0, none⟩)), .slice none 0 0] 132 (0, 0)) ∧ TabAt w.heap.size w' t replTable ∧
      (∀ k, k < w.heap.size → k ≠ r → w'.heap[k]? = w.heap[k]?) ∧ w.heap.size ≤ w'.heap.size ∧ w'.os = w.os ∧ w'.tape = w.tape ∧ w'.output = w.output := by
  have hrl : r < w.heap.size := (Array.getElem?_eq_some_iff.1 hr).1
  have h4 : w.cell? ⟨r, 4, none⟩ = some (.slice (some ⟨o, 0, none⟩) 8 cap) := by simp [World.cell?, hr]
  go_enter Tryz.func93, Tryz.ntmps93
  go_wp2_with (go_at_call 115; refine (build_walk w r o cap hl h4).mono ?_)
  rintro e w1 ⟨t, rfl, hT, hB⟩
  have hr1 := (hB.block r hrl).trans hr
  have c3 : w1.cell? ⟨r, 3, none⟩ = some .nilIface := by simp [World.cell?, hr1]
  have c4 : w1.cell? ⟨r, 4, none⟩ = some (.slice (some ⟨o, 0, none⟩) 8 cap) := by simp [World.cell?, hr1]
  have f3 : ∀ k, w1.frozen? ⟨r, k, none⟩ = false := fun k => by simp [World.frozen?, hr1]
  have fin : ∃ t', ((w1.setCell ⟨r, 3, none⟩ (.iface 177 (.pointer (some ⟨t, 0, none⟩)))).setCell ⟨r, 4, none⟩ (.slice none 0 0)).heap[r]? = some (.cells #[x0, x1, x2, .iface 177 (.pointer (some ⟨t', 0, none⟩)), .slice none 0 0] 132 (0, 0)) ∧
      TabAt w.heap.size ((w1.setCell ⟨r, 3, none⟩ (.iface 177 (.pointer (some ⟨t, 0, none⟩)))).setCell ⟨r, 4, none⟩ (.slice none 0 0)) t' replTable ∧
      (∀ k, k < w.heap.size → k ≠ r → ((w1.setCell ⟨r, 3, none⟩ (.iface 177 (.pointer (some ⟨t, 0, none⟩)))).setCell ⟨r, 4, none⟩ (.slice none 0 0)).heap[k]? = w.heap[k]?) ∧
      w.heap.size ≤ ((w1.setCell ⟨r, 3, none⟩ (.iface 177 (.pointer (some ⟨t, 0, none⟩)))).setCell ⟨r, 4, none⟩ (.slice none 0 0)).heap.size ∧
      ((w1.setCell ⟨r, 3, none⟩ (.iface 177 (.pointer (some ⟨t, 0, none⟩)))).setCell ⟨r, 4, none⟩ (.slice none 0 0)).os = w.os ∧
      ((w1.setCell ⟨r, 3, none⟩ (.iface 177 (.pointer (some ⟨t, 0, none⟩)))).setCell ⟨r, 4, none⟩ (.slice none 0 0)).tape = w.tape ∧
      ((w1.setCell ⟨r, 3, none⟩ (.iface 177 (.pointer (some ⟨t, 0, none⟩)))).setCell ⟨r, 4, none⟩ (.slice none 0 0)).output = w.output := by
    refine ⟨t, setC_heap (setC_heap hr1), hT.turn fun k hk _ => by rw [setC_other (by omega), setC_other (by omega)], fun k hk hkr => by rw [setC_other hkr, setC_other hkr]; exact hB.block k hk, ?_, ?_, ?_, ?_⟩
    · rw [setC_size, setC_size]; exact hB.size
    · simp only [setC_os]; exact hB.os
    · simp only [setC_os]; exact hB.tape
    · simp only [setC_os]; exact hB.output
  clear hT hB hr1
  go_wp2
  go_end0
  exact ⟨rfl, fin⟩

set_option maxRecDepth 100000 in
set_option maxHeartbeats 1600000 in
theorem doSlow_walk (w : World) (r o cap : Nat) (x2 : Value) (hr : w.heap[r]? = some (.cells #[.int .u32 0, .int .i32 0, x2, .nilIface, .slice (some ⟨o, 0, none⟩) 8 cap] 132 (0, 0))) (hl : ListAt w o) (hor : o ≠ r) :
    Calls Tryz.prog 114 #[.pointer (some ⟨r, 0, none⟩), .func (.func 93) #[.pointer (some ⟨r, 0, none⟩)] #[]] w fun e w' => e = .returned (.tuple #[]) ∧ ∃ t, w'.heap[r]? = some (.cells #[.int .u32 1, .int .i32 0, x2, .iface 177 (.pointer (some ⟨t, 0, none⟩)), .slice none 0 0] 132 (0, 0)) ∧ TabAt w.heap.size w' t replTable ∧
      (∀ k, k < w.heap.size → k ≠ r → w'.heap[k]? = w.heap[k]?) ∧ w.heap.size ≤ w'.heap.size ∧ w'.os = w.os ∧ w'.tape = w.tape ∧ w'.output = w.output := by
  have hrl : r < w.heap.size := (Array.getElem?_eq_some_iff.1 hr).1
  have h1 : w.cell? ⟨r, 1, none⟩ = some (.int .i32 0) := by simp [World.cell?, hr]
  have f1 : w.frozen? ⟨r, 1, none⟩ = false := by simp [World.frozen?, hr]
  have hr1 := setC_heap (v := .int .i32 1) (p := 1) hr
  have hl1 : ListAt (w.setCell ⟨r, 1, none⟩ (.int .i32 1)) o := by
    obtain ⟨cur, e, q1, q2⟩ := hl
    exact ⟨cur, e, (setC_other hor).trans q1, q2⟩
  have h0 : (w.setCell ⟨r, 1, none⟩ (.int .i32 1)).cell? ⟨r, 0, none⟩ = some (.int .u32 0) := by simp [World.cell?, hr1]
  have hld := run_call_load (P := Tryz.prog) Tryz.func131 (by kernel_rfl) (by kernel_rfl) (by kernel_rfl) .u32 (by kernel_rfl) h0
  have hbo := buildOnce_walk (w.setCell ⟨r, 1, none⟩ (.int .i32 1)) r o cap (.int .u32 0) (.int .i32 1) x2 (by simpa using hr1) hl1
  have HA : Aside (w.heap[r]? = some (.cells #[.int .u32 0, .int .i32 0, x2, .nilIface, .slice (some ⟨o, 0, none⟩) 8 cap] 132 (0, 0))) := hr
  have hnot : ∀ (x : Bool) (w : World), (Op.unary .not (.bool x)).run Tryz.prog w = .ok (.bool (!x)) w := fun _ _ => rfl
  clear hr hr1 hl hl1
  go_enter_defers Tryz.func114, Tryz.ntmps114
  go_wp2_with (first | (go_at_call 132; refine (lock_free ⟨r, 1, none⟩ _ h1 f1).mono ?_; rintro e w' ⟨rfl, rfl⟩) | (go_at_call 113; go_in) | (go_at_call 93; refine hbo.mono ?_; rintro e w2 ⟨rfl, t, hr2, hT, hk, hs, hos, htp, hou⟩))
  go_wp2
  have htr : t ≠ r := by
    obtain ⟨_, _, _, _, _, _, _, _, _, q, _⟩ := hT
    rw [setC_size] at q
    omega
  refine leaves_cons (f := 134) (args := #[.pointer (some ⟨r, 0, none⟩), .bool true]) (by simp) (by simp [go_sem]) ?_
  refine (store_deferred ⟨r, 0, none⟩ (.int .u32 0) .returning _ (by simp [World.cell?, hr2]) (by simp [World.frozen?, hr2])).mono ?_
  rintro e u' w'' ⟨rfl, rfl, rfl⟩
  have hr2d : w2.drew.heap[r]? = some (.cells #[.int .u32 0, .int .i32 1, x2, .iface 177 (.pointer (some ⟨t, 0, none⟩)), .slice none 0 0] 132 (0, 0)) := hr2
  have hr3 := setC_heap (v := .int .u32 1) (p := 0) hr2d
  refine leaves_cons (f := 133) (args := #[.pointer (some ⟨r, 1, none⟩)]) (by simp [settle]) (by simp [go_sem]) ?_
  refine (unlock_deferred ⟨r, 1, none⟩ _ _ (by simp [World.cell?, hr3]) (by simp [World.frozen?, hr3])).mono ?_
  rintro e u' w'' ⟨rfl, rfl, rfl⟩
  have hr4 := setC_heap (v := .int .i32 0) (p := 1) hr3
  have fin : ∃ t', ((w2.drew.setCell ⟨r, 0, none⟩ (.int .u32 1)).setCell ⟨r, 1, none⟩ (.int .i32 0)).heap[r]? = some (.cells #[.int .u32 1, .int .i32 0, x2, .iface 177 (.pointer (some ⟨t', 0, none⟩)), .slice none 0 0] 132 (0, 0)) ∧
      TabAt w.heap.size ((w2.drew.setCell ⟨r, 0, none⟩ (.int .u32 1)).setCell ⟨r, 1, none⟩ (.int .i32 0)) t' replTable ∧
      (∀ k, k < w.heap.size → k ≠ r → ((w2.drew.setCell ⟨r, 0, none⟩ (.int .u32 1)).setCell ⟨r, 1, none⟩ (.int .i32 0)).heap[k]? = w.heap[k]?) ∧
      w.heap.size ≤ ((w2.drew.setCell ⟨r, 0, none⟩ (.int .u32 1)).setCell ⟨r, 1, none⟩ (.int .i32 0)).heap.size ∧ ((w2.drew.setCell ⟨r, 0, none⟩ (.int .u32 1)).setCell ⟨r, 1, none⟩ (.int .i32 0)).os = w.os ∧
      ((w2.drew.setCell ⟨r, 0, none⟩ (.int .u32 1)).setCell ⟨r, 1, none⟩ (.int .i32 0)).tape = w.tape ∧ ((w2.drew.setCell ⟨r, 0, none⟩ (.int .u32 1)).setCell ⟨r, 1, none⟩ (.int .i32 0)).output = w.output := by
    rw [setC_size] at hT hk hs
    refine ⟨t, by simpa using hr4, hT.turn fun k hkb _ => ?_, fun k hkb hkr => ?_, ?_, ?_, ?_, ?_⟩
    · rw [setC_other (by omega), setC_other (by omega)]; rfl
    · rw [setC_other hkr, setC_other hkr]
      exact (hk k hkb hkr).trans (setC_other hkr)
    · rw [setC_size, setC_size]; exact hs
    · simp only [setC_os] at hos ⊢; exact hos
    · simp only [setC_os] at htp ⊢; exact htp
    · simp only [setC_os] at hou ⊢; exact hou
  clear hT hk hs hos htp hou hr4 hr3 hr2 hr2d hbo hld
  simp only [Leaves, settle]
  exact ⟨.tuple #[], results_none rfl _ _ _, rfl, fin⟩

set_option maxRecDepth 100000 in
set_option maxHeartbeats 1600000 in
theorem do_walk (w : World) (r o cap : Nat) (x2 : Value) (hr : w.heap[r]? = some (.cells #[.int .u32 0, .int .i32 0, x2, .nilIface, .slice (some ⟨o, 0, none⟩) 8 cap] 132 (0, 0))) (hl : ListAt w o) (hor : o ≠ r) :
    Calls Tryz.prog 92 #[.pointer (some ⟨r, 0, none⟩), .func (.func 93) #[.pointer (some ⟨r, 0, none⟩)] #[]] w fun e w' => e = .returned (.tuple #[]) ∧ ∃ t, w'.heap[r]? = some (.cells #[.int .u32 1, .int .i32 0, x2, .iface 177 (.pointer (some ⟨t, 0, none⟩)), .slice none 0 0] 132 (0, 0)) ∧ TabAt w.heap.size w' t replTable ∧
      (∀ k, k < w.heap.size → k ≠ r → w'.heap[k]? = w.heap[k]?) ∧ w.heap.size ≤ w'.heap.size ∧ w'.os = w.os ∧ w'.tape = w.tape ∧ w'.output = w.output := by
  have hds := doSlow_walk w r o cap x2 hr hl hor
  have h0 : w.cell? ⟨r, 0, none⟩ = some (.int .u32 0) := by simp [World.cell?, hr]
  have hld := run_call_load (P := Tryz.prog) Tryz.func131 (by kernel_rfl) (by kernel_rfl) (by kernel_rfl) .u32 (by kernel_rfl) h0
  have hnot : ∀ (x : Bool) (w : World), (Op.unary .not (.bool x)).run Tryz.prog w = .ok (.bool (!x)) w := fun _ _ => rfl
  have HA : Aside (w.heap[r]? = some (.cells #[.int .u32 0, .int .i32 0, x2, .nilIface, .slice (some ⟨o, 0, none⟩) 8 cap] 132 (0, 0))) := hr
  clear hr hl
  go_enter Tryz.func92, Tryz.ntmps92
  go_wp2_with (first | (go_at_call 113; go_in) | (go_at_call 114; refine hds.mono ?_; rintro e w2 ⟨rfl, fin⟩))
  go_end0
  exact ⟨rfl, fin⟩

def ReplacesTo (s r : ByteArray) : Prop := ∀ (B : Nat) (w : World) (t : Nat), TabAt B w t replTable → Calls Tryz.prog 216 #[.pointer (some ⟨t, 0, none⟩), .string s] w fun e w' => e = .returned (.string r) ∧ Below w.heap.size w w'

set_option maxRecDepth 100000 in
set_option maxHeartbeats 1600000 in
theorem replace_walk (s res : ByteArray) (hrep : ReplacesTo s res) (B : Nat) (w : World) (r : Nat) (hB : B ≤ r) (hrl : ReplAt w r) :
    Calls Tryz.prog 70 #[.pointer (some ⟨r, 0, none⟩), .string s] w fun e w' => e = .returned (.string res) ∧ Below B w w' := by
  obtain ⟨o, cap, hl, hor, hr⟩ := hrl
  have hdo := do_walk w r o cap _ hr hl hor
  have hrlt : r < w.heap.size := (Array.getElem?_eq_some_iff.1 hr).1
  have HA : Aside (w.heap[r]? = some (.cells #[.int .u32 0, .int .i32 0, .int .u32 0, .nilIface, .slice (some ⟨o, 0, none⟩) 8 cap] 132 (0, 0))) := hr
  have hmf : ∀ (fn : Fn) (first cap : Array Value) (w : World), (Instr.makeFunc fn first cap).run Tryz.prog w = .ok (.func fn first cap) w := fun _ _ _ _ => rfl
  clear hr hl
  go_enter Tryz.func70, Tryz.ntmps70
  go_wp2_with (go_at_call 92; refine hdo.mono ?_)
  rintro e w2 ⟨rfl, t, hr2, hT, hk, hs, hos, htp, hou⟩
  have c3 : w2.cell? ⟨r, 3, none⟩ = some (.iface 177 (.pointer (some ⟨t, 0, none⟩))) := by simp [World.cell?, hr2]
  have h216 := hrep _ w2 t hT
  have HB : Aside (Below B w w2) := ⟨hos, htp, hou, hs, fun k hkB => hk k (by omega) (by omega)⟩
  clear hr2 hT hk hs hos htp hou hdo hrep
  go_wp2_with (go_at_call 216; refine h216.mono ?_; rintro e w3 ⟨rfl, hB3⟩)
  go_ret
  exact ⟨rfl, HB.out.trans (hB3.mono (Nat.le_trans hB (Nat.le_trans (Nat.le_of_lt hrlt) HB.out.size)))⟩
end Go.Proofs.YtphlamnaaogmaaaGreatDoor.M
