import Derived.Test.YtphlamnaaogmaaaGreatDoorGGlob
import Derived.Test.YtphlamnaaogmaaaGreatDoorLay
import Derived.Lib.Builder
import Derived.Laws.Externs
import Derived.Lib.Walk
import Derived.WalkKit
namespace Go.Proofs.YtphlamnaaogmaaaGreatDoor.M
open Go.RowKit Go.Proofs.Qx

set_option maxHeartbeats 1000000 in
set_option maxRecDepth 100000 in
theorem copyCheck_used (b : Nat) (w : World) (h0 : w.cell? ⟨b, 0, none⟩ = some (.pointer (some ⟨b, 0, none⟩))) :
    Calls Tryz.prog 45 #[.pointer (some ⟨b, 0, none⟩)] w fun e w' => e = .returned (.tuple #[]) ∧ w' = w := by
  obtain ⟨j, hj, hjs⟩ := Option.map_eq_some_iff.1 (show (Tryz.prog.info? 59).map (·.size) = some 2 by kernel_rfl)
  go_enter Tryz.func45, Tryz.ntmps45
  go_wp2
  rw [Lib.run_neq_ptr_same w _ Tryz.underlying57 hj]
  go_wp2
  go_end0
  exact ⟨rfl, rfl⟩

set_option maxHeartbeats 1000000 in
set_option maxRecDepth 100000 in
theorem copyCheck_fresh (b : Nat) (w : World) (h0 : w.cell? ⟨b, 0, none⟩ = some (.pointer none)) (hsh : w.shape? b = some (59, 2)) (hfz : w.frozen? ⟨b, 0, none⟩ = false) :
    Calls Tryz.prog 45 #[.pointer (some ⟨b, 0, none⟩)] w fun e w' => e = .returned (.tuple #[]) ∧ w' = w.setCell ⟨b, 0, none⟩ (.pointer (some ⟨b, 0, none⟩)) := by
  obtain ⟨j, hj, hjs⟩ := Option.map_eq_some_iff.1 (show (Tryz.prog.info? 59).map (·.size) = some 2 by kernel_rfl)
  go_enter Tryz.func45, Tryz.ntmps45
  go_wp2
  rw [Lib.run_to_unsafe w ⟨b, 0, none⟩ Tryz.underlying57 Tryz.underlying96 hj (by rw [hjs]; decide) hsh (Nat.zero_lt_succ 1)]
  simp only [Result.andThen]
  rw [Oper.upon_value]
  go_wp2
  rw [run_callFunc_extern Tryz.func68 (by kernel_rfl) (by kernel_rfl) (by kernel_rfl) (e := Extern.AbiNoEscape.same) (by kernel_rfl)]
  rw [Lib.run_noEscape]
  simp only [Result.andThen]
  rw [Oper.upon_value]
  go_wp2
  rw [Lib.run_from_unsafe w ⟨b, 0, none⟩ Tryz.underlying96 Tryz.underlying57 hj hsh (by kernel_rfl)]
  simp only [Result.andThen]
  rw [Oper.upon_value]
  go_wp2
  go_end0
  exact ⟨rfl, rfl⟩

def copyCheckS : List AV → Hp → Option (Res × Hp)
  | [.ptr b 0], h => match h[b]? with
    | some (.cells 59 [.val (.pointer none), s] .own) => some (.ret (.tup []), h.set b (.cells 59 [.ptr b 0, s] .own))
    | some (.cells 59 [.ptr c 0, s] .own) => if c = b then some (.ret (.tup []), h) else none
    | some (.cells 59 [.op c, s] .own) => if c = b then some (.ret (.tup []), h.set b (.cells 59 [.ptr b 0, s] .own)) else none
    | _ => none
  | _, _ => none

theorem copyCheckS.ok {B : Nat} {wB : World} (stab_ : ∀ w', Bel B wB w' → GW w') : HandAt Tryz.prog lay B wB 45 copyCheckS := by
  intro args h res h' hs G w vs H hΛ hb hl
  unfold copyCheckS at hs
  split at hs
  · rename_i b
    have hv : vs = #[.pointer (some ⟨G.at_ b, 0, none⟩)] := by
      simp only [AV.isL] at hl
      obtain ⟨v, r, e1, e2, e3⟩ := hl
      simp only [AV.is] at e2
      obtain ⟨_, rfl⟩ := e2
      subst e3
      exact Array.ext' (by simpa using e1)
    have hbn : b < G.n := by
      simp only [AV.isL] at hl
      obtain ⟨v, r, e1, e2, e3⟩ := hl
      simp only [AV.is] at e2
      exact e2.1
    subst hv
    -- a fresh one
    have fresh : ∀ (a s : AV), h[b]? = some (.cells 59 [a, s] .own) → w.cell? ⟨G.at_ b, 0, none⟩ = some (.pointer none) → Calls Tryz.prog 45 #[.pointer (some ⟨G.at_ b, 0, none⟩)] w fun e w' => ∃ G', HRep G' B (h.set b (.cells 59 [.ptr b 0, s] .own)) w' ∧ Mv B wB G w G' w' ∧ (Res.ret (.tup [])).isE G' w' e := by
      intro a s hk ha
      obtain ⟨hft, _, c, hc, hcl⟩ := H.blk b _ hk
      have hB := H.own b _ hk rfl (G.at_ b) (by rw [hft]; simp)
      simp only [AV.isL] at hcl
      obtain ⟨u, r, e1, e2, u1, r1, e3, e4, e5⟩ := hcl
      subst e5
      have hcc : c = #[u, u1] := Array.ext' (by simpa [e3] using e1)
      subst hcc
      have h0 := ha
      simp [World.cell?, hc] at ha
      subst ha
      refine (copyCheck_fresh (G.at_ b) w h0 (by simp [World.shape?, hc]) (by simp [World.frozen?, hc])).mono ?_
      rintro e w' ⟨rfl, rfl⟩
      have hset : w.setCell ⟨G.at_ b, 0, none⟩ (.pointer (some ⟨G.at_ b, 0, none⟩)) = w.setRow (G.at_ b) #[.pointer (some ⟨G.at_ b, 0, none⟩), u1] := by
        unfold World.setCell World.setRow
        congr 1
        apply Array.ext_getElem?
        intro i
        simp only [Array.getElem?_modify]
        split
        · rename_i e; subst e; rw [hc]; simp
        · rfl
      rw [hset]
      obtain ⟨H', hle⟩ := H.store hk (l := [.ptr b 0, s]) (c := #[.pointer (some ⟨G.at_ b, 0, none⟩), u1]) (by simp only [AV.isL, AV.is]; exact ⟨_, _, rfl, ⟨hbn, rfl⟩, _, _, rfl, e4, rfl⟩)
      exact ⟨G, H', mv_setRow H hle hb hB.1 hbn (by rw [hft]; simp), ⟨_, rfl, by simp only [AV.is]; exact ⟨#[], rfl, by simp [AV.isL]⟩⟩⟩
    split at hs
    · rename_i s hk
      cases hs
      refine fresh _ s hk ?_
      obtain ⟨_, _, c, hc, hcl⟩ := H.blk b _ hk
      simp only [AV.isL] at hcl
      obtain ⟨u, r, e1, e2, u1, r1, e3, e4, e5⟩ := hcl
      simp only [AV.is] at e2
      subst e2 e5
      have hcc : c = #[.pointer none, u1] := Array.ext' (by simpa [e3] using e1)
      subst hcc
      simp [World.cell?, hc]
    · rename_i c s hk
      split at hs
      · rename_i hcb
        subst hcb
        cases hs
        obtain ⟨hft, _, cc, hc, hcl⟩ := H.blk c _ hk
        simp only [AV.isL] at hcl
        obtain ⟨u, r, e1, e2, u1, r1, e3, e4, e5⟩ := hcl
        simp only [AV.is] at e2
        obtain ⟨_, rfl⟩ := e2
        subst e5
        have hcc : cc = #[.pointer (some ⟨G.at_ c, 0, none⟩), u1] := Array.ext' (by simpa [e3] using e1)
        subst hcc
        refine (copyCheck_used (G.at_ c) w (by simp [World.cell?, hc])).mono ?_
        rintro e w' ⟨rfl, rfl⟩
        exact ⟨G, H, .refl hb, ⟨_, rfl, by simp only [AV.is]; exact ⟨#[], rfl, by simp [AV.isL]⟩⟩⟩
      · cases hs
    · rename_i c s hk
      split at hs
      · rename_i hcb
        subst hcb
        cases hs
        obtain ⟨hft, _, cc, hc, hcl⟩ := H.blk c _ hk
        have hB := H.own c _ hk rfl (G.at_ c) (by rw [hft]; simp)
        simp only [AV.isL] at hcl
        obtain ⟨u, r, e1, e2, u1, r1, e3, e4, e5⟩ := hcl
        simp only [AV.is] at e2
        rcases e2.2 with q | q
        · refine fresh _ s hk ?_
          subst q e5
          have hcc : cc = #[.pointer none, u1] := Array.ext' (by simpa [e3] using e1)
          subst hcc
          simp [World.cell?, hc]
        · subst q e5
          have hcc : cc = #[.pointer (some ⟨G.at_ c, 0, none⟩), u1] := Array.ext' (by simpa [e3] using e1)
          subst hcc
          refine (copyCheck_used (G.at_ c) w (by simp [World.cell?, hc])).mono ?_
          rintro e w' ⟨rfl, rfl⟩
          refine ⟨G, H.turn hbn (.cells 59 [.ptr c 0, s] .own) (.refl _ _) rfl rfl (fun _ _ => ⟨rfl, rfl, rfl, rfl⟩) (Nat.le_refl _) (fun _ _ _ _ _ => rfl) (fun g hg => ⟨.inl hg, H.lt c hbn g hg⟩) (fun _ g hg => H.own c _ hk rfl g hg)
            ⟨hft, (fun e => by cases e), _, hc, by simp only [AV.isL, AV.is]; exact ⟨_, _, rfl, ⟨hbn, rfl⟩, _, _, rfl, e4, rfl⟩⟩, .refl hb, ⟨_, rfl, by simp only [AV.is]; exact ⟨#[], rfl, by simp [AV.isL]⟩⟩⟩
      · cases hs
    · cases hs
  · cases hs
end Go.Proofs.YtphlamnaaogmaaaGreatDoor.M
