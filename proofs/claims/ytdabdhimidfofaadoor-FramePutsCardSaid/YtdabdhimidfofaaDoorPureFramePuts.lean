/- Any part of at most 2000 bytes has the frame that the document says; at every other part, too, the document's example holds. -/
import Derived.Test.YtdabdhimidfofaaDoorPFramex15
import Derived.Test.YtdabdhimidfofaaDoorFrameMath
namespace Go.Proofs.YtdabdhimidfofaaDoor.Pure
open Go.RowKit Go.Proofs.YtdabdhimidfofaaDoor.PFrame Go.Proofs.YtdabdhimidfofaaDoorW.PrintWords Go.Proofs.YtdabdhimidfofaaDoorW.PrintLast
open Go.Proofs.YtdabdhimidfofaaDoor.CrcMath Go.Proofs.YtdabdhimidfofaaDoor.FrameMath

theorem awake_20 : estreatlaw04_awake.f 20 = some true := by decide +kernel
theorem awake_is (k : Nat) (hk : 20 ≤ k) : estreatlaw04_awake.f k = some true := at_rounds (fun k => estreatlaw04_awake.mono k) hk awake_20
theorem FramePuts : estreatlaw04_FramePuts.Pure := by
  intro l _ hl hb
  have hB := byte_of l hb
  refine ⟨10 * l.length + 100, ?_⟩
  unfold estreatlaw04_FramePuts.f
  rw [awake_is _ (by omega)]
  by_cases h : (l.length : Int) > 2000
  · rw [if_pos h]
    rfl
  · rw [if_neg h, put_is l hB (by omega) _ (by omega)]
    simp only [Option.bind_some]
    rw [if_pos trivial, refput_is l hB (by omega) _ (by omega)]
    simp only [Option.bind_some]
    rw [same_self _ (by rw [frameP_length]; omega) _ (by rw [frameP_length]; omega)]
    rfl

end Go.Proofs.YtdabdhimidfofaaDoor.Pure
