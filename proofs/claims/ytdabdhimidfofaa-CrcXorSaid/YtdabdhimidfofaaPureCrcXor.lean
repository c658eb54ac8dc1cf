/- Of three texts of one length (of at most 1000 bytes), put together bit by bit by exclusive or, the sum is their sums, put together likewise; and the document's example holds. -/
import Derived.Test.YtdabdhimidfofaaPCrcXorx1
import Derived.Test.YtdabdhimidfofaaCrcMath
namespace Go.Proofs.Ytdabdhimidfofaa.Pure
open Go.RowKit Go.Proofs.Ytdabdhimidfofaa.PCrcXor Go.Proofs.YtdabdhimidfofaaW.PrintWords Go.Proofs.YtdabdhimidfofaaW.PrintLast
open Go.Proofs.Ytdabdhimidfofaa.CrcMath

theorem bit_same : crc_bit = bitI := rfl
theorem bits_same (n : Nat) (v : Int) : crc_bits n v = bitsI n v := by
  induction n with
  | zero => rfl
  | succ n ih => show crc_bit (crc_bits n v) = bitI (bitsI n v); rw [ih]; rfl
theorem step_same : crc_step = stepI := by
  funext v c
  unfold crc_step stepI
  rw [bits_same]
theorem more_is (s : BitVec 32) (l : List Int) (h : Byte l) : crc_More.f (I s) l = some (I (sum s l)) := by
  unfold crc_More.f
  rw [step_same, moreI_eq s l h]
theorem sum_is (l : List Int) (h : Byte l) : crc_Sum.f l = some (I (sum 0#32 l)) := by
  unfold crc_Sum.f
  rw [show (0 : Int) = I 0#32 from rfl, more_is 0#32 l h]
  rfl
theorem awake_is : estreatlaw03_awake.f = some true := by decide +kernel
theorem byte_of (l : List Int) (h : ∀ x ∈ l, (Lit.int .u8 x).wf = true) : Byte l := by
  intro x hx
  have := h x hx
  have := wf_u8 this
  omega


theorem bind_true : ((some true).bind fun t => some t) = some true := rfl
def mix (a b c : List Int) (i : Nat) : Int := Go.bits .xor .u8 (Go.bits .xor .u8 (a.getD i 0) (b.getD i 0)) (c.getD i 0)
theorem mix_is (a b c : List Int) (ha : Byte a) (hb : Byte b) (hc : Byte c) (i : Nat) (h1 : i < a.length) (h2 : i < b.length) (h3 : i < c.length) :
    mix a b c i = (((a[i].toNat ^^^ b[i].toNat) ^^^ c[i].toNat : Nat) : Int) ∧ (a[i].toNat ^^^ b[i].toNat) ^^^ c[i].toNat < 256 := by
  obtain ⟨x, ex, hx⟩ := ha.at_ i h1
  obtain ⟨y, ey, hy⟩ := hb.at_ i h2
  obtain ⟨z, ez, hz⟩ := hc.at_ i h3
  unfold mix
  rw [rd_get a i h1, rd_get b i h2, rd_get c i h3, ex, ey, ez, xor8_nat x y hx hy, xor8_nat _ z (xor_lt x y hx hy) hz]
  exact ⟨rfl, xor_lt _ _ (xor_lt x y hx hy) hz⟩
theorem mixed (a b c : List Int) (ha : Byte a) (hb : Byte b) (hc : Byte c) (h1 : b.length = a.length) (h2 : c.length = a.length) :
    Byte ((List.range a.length).map (mix a b c)) ∧ CrcMath.bytes ((List.range a.length).map (mix a b c)) = List.zipWith (· ^^^ ·) (List.zipWith (· ^^^ ·) (CrcMath.bytes a) (CrcMath.bytes b)) (CrcMath.bytes c) := by
  constructor
  · intro x hx
    simp only [List.mem_map, List.mem_range] at hx
    obtain ⟨i, hi, rfl⟩ := hx
    have := mix_is a b c ha hb hc i hi (by omega) (by omega)
    omega
  · apply List.ext_getElem
    · simp [CrcMath.bytes, h1, h2]
    · intro i hi1 hi2
      have hi : i < a.length := by simpa [CrcMath.bytes] using hi1
      have := mix_is a b c ha hb hc i hi (by omega) (by omega)
      simp only [List.getElem_zipWith, CrcMath.bytes, List.getElem_map, List.getElem_range]
      omega
theorem sums (a b c x : List Int) (h1 : b.length = a.length) (h2 : c.length = a.length) (ha : Byte a) (hb : Byte b) (hc : Byte c)
    (hx : CrcMath.bytes x = List.zipWith (· ^^^ ·) (List.zipWith (· ^^^ ·) (CrcMath.bytes a) (CrcMath.bytes b)) (CrcMath.bytes c)) :
    sum 0#32 x = (sum 0#32 a ^^^ sum 0#32 b) ^^^ sum 0#32 c := by
  unfold sum
  rw [BitVec.xor_zero, hx]
  have hab : ∀ z ∈ List.zipWith (· ^^^ ·) (CrcMath.bytes a) (CrcMath.bytes b), z < 256 := by
    intro z hz
    obtain ⟨i, hi, rfl⟩ := List.getElem_of_mem hz
    rw [List.getElem_zipWith]
    exact xor_lt _ _ (bytes_lt ha _ (List.getElem_mem _)) (bytes_lt hb _ (List.getElem_mem _))
  have f1 := fold_xor (List.zipWith (· ^^^ ·) (CrcMath.bytes a) (CrcMath.bytes b)) (CrcMath.bytes c) (ones ^^^ ones) ones (by simp [CrcMath.bytes_length, h1, h2]) hab (bytes_lt hc)
  have f2 := fold_xor (CrcMath.bytes a) (CrcMath.bytes b) ones ones (by simp [CrcMath.bytes_length, h1]) (bytes_lt ha) (bytes_lt hb)
  rw [f2, BitVec.xor_self, BitVec.zero_xor] at f1
  rw [f1]
  exact xor_three _ _ _ _

theorem loop (a b c : List Int) (ha : Byte a) (hb : Byte b) (hc : Byte c) (h1 : b.length = a.length) (h2 : c.length = a.length) (hl : a.length ≤ 1000) (n : Nat) :
    ∀ (k i : Nat), i + n = a.length → n < k → estreatlaw03_CrcXor.l0 k a b c ((List.range i).map (mix a b c) ++ List.replicate (a.length - i) 0) i = some true := by
  induction n with
  | zero =>
    intro k i hi hk
    obtain ⟨k, rfl⟩ : ∃ m, k = m + 1 := ⟨k - 1, by omega⟩
    obtain rfl : i = a.length := by omega
    obtain ⟨hm, hz⟩ := mixed a b c ha hb hc h1 h2
    simp only [estreatlaw03_CrcXor.l0]
    rw [if_neg (by omega), Nat.sub_self, List.replicate_zero, List.append_nil, sum_is _ hm, sum_is a ha, sum_is b hb, sum_is c hc]
    simp only [Option.bind_some]
    rw [xor_I, xor_I, sums a b c _ h1 h2 ha hb hc hz, if_pos rfl, awake_is]
    rfl
  | succ n ih =>
    intro k i hi hk
    obtain ⟨k, rfl⟩ : ∃ m, k = m + 1 := ⟨k - 1, by omega⟩
    simp only [estreatlaw03_CrcXor.l0]
    rw [if_pos (by omega), if_pos (by omega), if_pos (by omega), if_pos (by omega), if_pos (by simp; omega)]
    have e : wrap64 ((i : Int) + 1) = ((i + 1 : Nat) : Int) := by unfold wrap64; omega
    rw [e, Int.toNat_natCast]
    have hs := fill_set (mix a b c) a.length i (by omega)
    have hm : Go.bits .xor .u8 (Go.bits .xor .u8 (rd a i) (rd b i)) (rd c i) = mix a b c i := by
      unfold mix rd
      rw [Int.toNat_natCast]
    rw [hm, hs]
    exact ih k (i + 1) (by omega) (by omega)
theorem CrcXor : estreatlaw03_CrcXor.Pure := by
  intro a b c _ hl ha _ _ hb _ _ hc
  have hA := byte_of a ha
  have hB := byte_of b hb
  have hC := byte_of c hc
  refine ⟨a.length + 2, ?_⟩
  have hj : estreatlaw03_CrcXor.j0 (a.length + 2) a b c true = some true := by
    simp only [estreatlaw03_CrcXor.j0]
    rw [awake_is]
    rfl
  unfold estreatlaw03_CrcXor.f
  by_cases h : (a.length : Int) > 1000
  · rw [if_pos h, hj]
  · rw [if_neg h]
    by_cases h1 : (b.length : Int) = (a.length : Int)
    · rw [if_pos h1]
      by_cases h2 : (c.length : Int) = (a.length : Int)
      · have hf : ((c.length : Int) != (a.length : Int)) = false := by simpa using h2
        rw [hf]
        simp only [estreatlaw03_CrcXor.j0]
        rw [if_neg (by simp), if_pos (by omega), if_pos (by omega), Int.toNat_natCast]
        have := loop a b c hA hB hC (by omega) (by omega) (by omega) a.length (a.length + 1) 0 (by omega) (by omega)
        simpa using this
      · have hf : ((c.length : Int) != (a.length : Int)) = true := by simpa using h2
        rw [hf, hj]
    · rw [if_neg h1, hj]

end Go.Proofs.Ytdabdhimidfofaa.Pure
