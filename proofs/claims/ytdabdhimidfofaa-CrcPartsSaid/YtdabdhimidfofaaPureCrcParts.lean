/- The sum of any bytes of at most 2000, cut in two at any place, goes on from the sum of the first part; and the document's example holds. -/
import Derived.Test.YtdabdhimidfofaaPCrcPartsx1
import Derived.Test.YtdabdhimidfofaaCrcMath
namespace Go.Proofs.Ytdabdhimidfofaa.Pure
open Go.RowKit Go.Proofs.Ytdabdhimidfofaa.PCrcParts Go.Proofs.YtdabdhimidfofaaW.PrintWords Go.Proofs.YtdabdhimidfofaaW.PrintLast
open Go.Proofs.Ytdabdhimidfofaa.CrcMath

theorem bit_same : crc_bit = bitI := rfl
theorem bits_same (n : Nat) (v : Int) : crc_bits n v = bitsI n v := by
  induction n with
  | zero => rfl
  | succ n ih => show crc_bit (crc_bits n v) = bitI (bitsI n v); rw [ih]; rfl
theorem step_same : crc_step = stepI := by
  funext v c
  unfold crc_step stepI
  rw [bits_same]
theorem more_is (s : BitVec 32) (l : List Int) (h : Byte l) : crc_More.f (I s) l = some (I (sum s l)) := by
  unfold crc_More.f
  rw [step_same, moreI_eq s l h]
theorem sum_is (l : List Int) (h : Byte l) : crc_Sum.f l = some (I (sum 0#32 l)) := by
  unfold crc_Sum.f
  rw [show (0 : Int) = I 0#32 from rfl, more_is 0#32 l h]
  rfl
theorem awake_is : estreatlaw03_awake.f = some true := by decide +kernel
theorem byte_of (l : List Int) (h : ∀ x ∈ l, (Lit.int .u8 x).wf = true) : Byte l := by
  intro x hx
  have := h x hx
  have := wf_u8 this
  omega


theorem CrcParts : estreatlaw03_CrcParts.Pure := by
  intro l a _ hl hb ha
  have hB := byte_of l hb
  unfold estreatlaw03_CrcParts.f
  rw [awake_is]
  by_cases h : (l.length : Int) > 2000
  · rw [if_pos h]
    rfl
  · rw [if_neg h]
    have e : wrap64 ((l.length : Int) + 1) = ((l.length + 1 : Nat) : Int) := by unfold wrap64; omega
    obtain ⟨r, hr, hlt⟩ := pick_in estreatref01_Pick.f (fun a n => rfl) a (l.length + 1) (by omega) (by omega)
    rw [e, hr]
    simp only [Option.bind_some]
    rw [if_pos (by omega), if_pos (by omega), Int.toNat_natCast]
    have h1 : Byte (l.take r) := fun x hx => hB x (List.mem_of_mem_take hx)
    have h2 : Byte (l.drop r) := fun x hx => hB x (List.mem_of_mem_drop hx)
    rw [sum_is _ h1]
    simp only [Option.bind_some]
    rw [more_is _ _ h2, sum_is l hB]
    simp only [Option.bind_some]
    rw [sum_append, List.take_append_drop, if_pos rfl]

end Go.Proofs.Ytdabdhimidfofaa.Pure
