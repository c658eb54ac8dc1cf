/- Any bytes begin with the frame that the document says, or with none; so it is with all frames. -/
import Derived.Test.YtdabdhimidfofaaDoorGetsD
import Derived.Test.YtdabdhimidfofaaDoorFrameRefMath
namespace Go.Proofs.YtdabdhimidfofaaDoor.Pure
open Go.RowKit Go.Proofs.YtdabdhimidfofaaDoor.PFrame Go.Proofs.YtdabdhimidfofaaDoorW.PrintWords Go.Proofs.YtdabdhimidfofaaDoorW.PrintLast
open Go.Proofs.YtdabdhimidfofaaDoor.CrcMath Go.Proofs.YtdabdhimidfofaaDoor.FrameMath

theorem gets_awake_20 : estreatlaw04_awake.f 20 = some true := by decide +kernel
theorem gets_awake (k : Nat) (hk : 20 ≤ k) : estreatlaw04_awake.f k = some true := at_rounds (fun k => estreatlaw04_awake.mono k) hk gets_awake_20
theorem gets_one (b : List Int) (h : Byte b) (hl : b.length ≤ 2000) : ∃ (p : List Int) (n e : Int), frame_Get.f b = some (p, n, e) ∧ p.length ≤ 2000 := by
  rcases get_cases b h (by omega) with ⟨e, hf, _⟩ | ⟨p, n, hn, hnb, hf⟩
  · exact ⟨[], 0, e, hf, by simp⟩
  · have hfb := hf [] byte_nil (by rw [List.length_nil]; omega)
    rw [List.append_nil] at hfb
    exact ⟨p, _, _, hfb, by omega⟩
theorem FrameGets : estreatlaw04_FrameGets.Pure := by
  intro l0 _ _ hb0
  have hB := byte_of l0 hb0
  refine ⟨30000, ?_⟩
  generalize hk : 30000 = k
  unfold estreatlaw04_FrameGets.f
  by_cases h0 : (l0.length : Int) > 2000
  · rw [if_pos h0, gets_awake k (by omega), Option.bind_some]
  · rw [if_neg h0]
    obtain ⟨x, w, hx⟩ := alls_ex l0.length l0 (by omega) hB (by omega)
    obtain ⟨hx1, hx2, hx3⟩ := hx.size
    obtain ⟨p, n, e, hg, hp⟩ := gets_one l0 hB (by omega)
    rw [hg, Option.bind_some]
    rw [refget_is k l0 hB (by omega) (by omega), hg, Option.bind_some]
    rw [all_is hx (by omega) k (by omega), Option.bind_some]
    rw [refall_is hx (by omega) hB k (by omega), Option.bind_some]
    dsimp only
    rw [same_self p (by omega) k (by omega), Option.bind_some, if_pos rfl, if_pos rfl, if_pos rfl]
    rw [sameall_self x 2000 (fun q hq => by have := hx3 q hq; omega) (by omega) (by omega) k (by omega), Option.bind_some, if_pos rfl, if_pos rfl, gets_awake k (by omega), Option.bind_some]

end Go.Proofs.YtdabdhimidfofaaDoor.Pure
