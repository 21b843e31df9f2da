/- For any value: a right one made of it, halved, is half as long; with a dot a half more, with two three quarters; no condition. -/
import Derived.Test.YtajbnfidcpfonaaDoorM22
import Derived.Test.YtajbnfidcpfonaaDoorPureMaker
set_option linter.unusedVariables false
set_option linter.unusedSimpArgs false
namespace Go.Proofs.YtajbnfidcpfonaaDoor.Pure
open Go.RowKit Go.Proofs.YtajbnfidcpfonaaDoor.M Go.Proofs.YtajbnfidcpfonaaDoorW.PrintWords Go.Proofs.YtajbnfidcpfonaaDoorW.PrintLast Go.Proofs.YtajbnfidcpfonaaDoorW.PrintMore

def hcore (b n m : Int) : Option Bool := partitalaw04_ValueHalves.t (some true) (value_Length.f 200) (fun _ _ _ _ => some (0, 0, n, m)) (fun _ _ => some b) (ratio_Add.f 200) (ratio_Mul.f 200) 0 0 0 0 id
set_option maxRecDepth 100000 in
theorem hall : ∀ b ∈ List.range 6, ∀ p ∈ nms, hcore (b : Int) p.1 p.2 = some true := by decide +kernel
theorem ValueHalves : partitalaw04_ValueHalves.Pure := by
  intro a0 a1 a2 a3 h0 h1 h2 h3
  refine ⟨200, ?_⟩
  obtain ⟨b, d, n, m, e, _, _, _, _, hn⟩ := Value_eq (wf64 h0) (wf64 h1) (wf64 h2) (wf64 h3)
  obtain ⟨r, er, r0, r1⟩ := pickR (n := 6) (wf64 h0) (by decide) (by decide)
  have := hall r.toNat (List.mem_range.2 (by omega)) (n, m) (nms_mem hn)
  rw [show ((r.toNat : Nat) : Int) = r by omega] at this
  unfold partitalaw04_ValueHalves.f partitalaw04_ValueHalves.t
  unfold hcore partitalaw04_ValueHalves.t at this
  rw [examples_ok, Option.bind_some, e, Option.bind_some, er, Option.bind_some]
  simpa only [Option.bind_some] using this

end Go.Proofs.YtajbnfidcpfonaaDoor.Pure
