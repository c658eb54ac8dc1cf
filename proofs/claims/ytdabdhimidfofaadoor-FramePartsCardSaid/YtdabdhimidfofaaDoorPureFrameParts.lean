/- Behind frames that are whole, what follows is read as if it stood alone. -/
import Derived.Test.YtdabdhimidfofaaDoorPFramex20
import Derived.Test.YtdabdhimidfofaaDoorFrameAllMath
namespace Go.Proofs.YtdabdhimidfofaaDoor.Pure
open Go.RowKit Go.Proofs.YtdabdhimidfofaaDoor.PFrame Go.Proofs.YtdabdhimidfofaaDoorW.PrintWords Go.Proofs.YtdabdhimidfofaaDoorW.PrintLast
open Go.Proofs.YtdabdhimidfofaaDoor.CrcMath Go.Proofs.YtdabdhimidfofaaDoor.FrameMath

theorem parts_awake_20 : estreatlaw04_awake.f 20 = some true := by decide +kernel
theorem parts_awake (k : Nat) (hk : 20 ≤ k) : estreatlaw04_awake.f k = some true := at_rounds (fun k => estreatlaw04_awake.mono k) hk parts_awake_20
theorem parts_long (k : Nat) (hk : 20 ≤ k) (l0 l1 : List Int) : estreatlaw04_FrameParts.j0 (k + 1) l0 l1 true = some true := by
  rw [estreatlaw04_FrameParts.j0, if_pos rfl, parts_awake k hk, Option.bind_some]
theorem parts_short (k : Nat) (hk : 5000 ≤ k) (a b : List Int) (ha : Byte a) (hb : Byte b) (hal : a.length ≤ 1000) (hbl : b.length ≤ 1000) : estreatlaw04_FrameParts.j0 (k + 1) a b false = some true := by
  obtain ⟨x, w, hx⟩ := alls_ex a.length a (by omega) ha (by omega)
  obtain ⟨hx1, hx2, hx3⟩ := hx.size
  rw [estreatlaw04_FrameParts.j0, if_neg (by decide), all_is hx (by omega) k (by omega), Option.bind_some]
  dsimp only
  by_cases hw : w < a.length
  · rw [if_pos (by omega), parts_awake k (by omega), Option.bind_some]
  · have hwl : w = a.length := by omega
    obtain ⟨y, m, hy⟩ := alls_ex b.length b (by omega) hb (by omega)
    obtain ⟨hy1, hy2, hy3⟩ := hy.size
    have hz := hx.join b y m hwl hb (by omega) hy
    have hs : wrap64 ((w : Int) + (m : Int)) = ((w + m : Nat) : Int) := by unfold wrap64; omega
    rw [if_neg (by omega), all_is hy (by omega) k (by omega), Option.bind_some]
    dsimp only
    rw [Option.bind_some, if_pos (by rw [List.length_nil]; omega), List.nil_append, Option.bind_some, if_pos (by omega), all_is hz (by rw [List.length_append]; omega) k (by rw [List.length_append]; omega), Option.bind_some]
    dsimp only
    rw [if_pos hs.symm, Option.bind_some, if_pos (by rw [List.length_nil]; omega), List.nil_append, Option.bind_some, if_pos (by omega),
      sameall_self (x ++ y) 1000 (fun p hp => by
        rcases List.mem_append.1 hp with h | h
        · have := hx3 p h
          omega
        · have := hy3 p h
          omega) (by omega) (by rw [List.length_append]; omega) k (by rw [List.length_append]; omega), Option.bind_some, if_pos rfl, parts_awake k (by omega), Option.bind_some]
theorem FrameParts : estreatlaw04_FrameParts.Pure := by
  intro l0 l1 _ _ hb0 _ _ hb1
  have hB0 := byte_of l0 hb0
  have hB1 := byte_of l1 hb1
  suffices hk_ : ∀ k, 5000 ≤ k → estreatlaw04_FrameParts.f (k + 1) l0 l1 = some true from ⟨5001, hk_ 5000 (by omega)⟩
  intro k hk
  unfold estreatlaw04_FrameParts.f
  by_cases h0 : (l0.length : Int) > 1000
  · rw [if_pos h0]
    exact parts_long k (by omega) l0 l1
  · rw [if_neg h0]
    by_cases h1 : (l1.length : Int) > 1000
    · rw [decide_eq_true h1]
      exact parts_long k (by omega) l0 l1
    · rw [decide_eq_false h1]
      exact parts_short k hk l0 l1 hB0 hB1 (by omega) (by omega)

end Go.Proofs.YtdabdhimidfofaaDoor.Pure
