/- Any bytes of at most 2000 have the sum that the document says, from any sum on; beyond that length, and at every input, the document's example holds. -/
import Derived.Test.YtdabdhimidfofaaPCrcSumsx1
import Derived.Test.YtdabdhimidfofaaCrcMath
namespace Go.Proofs.Ytdabdhimidfofaa.Pure
open Go.RowKit Go.Proofs.Ytdabdhimidfofaa.PCrcSums Go.Proofs.YtdabdhimidfofaaW.PrintWords Go.Proofs.YtdabdhimidfofaaW.PrintLast
open Go.Proofs.Ytdabdhimidfofaa.CrcMath

theorem bit_same : crc_bit = bitI := rfl
theorem bits_same (n : Nat) (v : Int) : crc_bits n v = bitsI n v := by
  induction n with
  | zero => rfl
  | succ n ih => show crc_bit (crc_bits n v) = bitI (bitsI n v); rw [ih]; rfl
theorem step_same : crc_step = stepI := by
  funext v c
  unfold crc_step stepI
  rw [bits_same]
theorem more_is (s : BitVec 32) (l : List Int) (h : Byte l) : crc_More.f (I s) l = some (I (sum s l)) := by
  unfold crc_More.f
  rw [step_same, moreI_eq s l h]
theorem sum_is (l : List Int) (h : Byte l) : crc_Sum.f l = some (I (sum 0#32 l)) := by
  unfold crc_Sum.f
  rw [show (0 : Int) = I 0#32 from rfl, more_is 0#32 l h]
  rfl
theorem awake_is : estreatlaw03_awake.f = some true := by decide +kernel
theorem byte_of (l : List Int) (h : ∀ x ∈ l, (Lit.int .u8 x).wf = true) : Byte l := by
  intro x hx
  have := h x hx
  have := wf_u8 this
  omega

theorem compl_I (x : BitVec 32) : (4294967295 - I x) % 4294967296 = I (ones ^^^ x) := by
  have h : ones ^^^ x = ~~~x := by
    rw [show ones = BitVec.allOnes 32 from by decide]
    exact BitVec.allOnes_xor
  rw [h]
  have hx := x.isLt
  unfold I
  rw [BitVec.toNat_not]
  omega
theorem take_is (x : BitVec 32) (c : Nat) : estreatref03_take.f (I x) (Int.tmod (c : Int) 2) = some (I (T (x ^^^ BitVec.ofNat 32 (c % 2)))) := by
  have hx := x.isLt
  have e1 : Int.tmod (I x) 2 = ((x.toNat % 2 : Nat) : Int) := by unfold I; rw [Int.tmod_eq_emod_of_nonneg (by omega)]; omega
  have e2 : Int.tmod (c : Int) 2 = ((c % 2 : Nat) : Int) := by rw [Int.tmod_eq_emod_of_nonneg (by omega)]; omega
  have e3 : (Int.tdiv (I x) 2) % 4294967296 = I (x >>> (1 : Nat)) := by
    rw [← half_I]
    have := I_range x
    rw [Int.tdiv_eq_ediv_of_nonneg (by omega)]
    omega
  unfold estreatref03_take.f
  rw [e1, e2, e3, poly_I, xor_I]
  unfold T
  have hs : (x ^^^ BitVec.ofNat 32 (c % 2)) >>> (1 : Nat) = x >>> (1 : Nat) := by
    apply BitVec.eq_of_toNat_eq
    rw [BitVec.toNat_ushiftRight, BitVec.toNat_ushiftRight, BitVec.toNat_xor, BitVec.toNat_ofNat, Nat.mod_eq_of_lt (show c % 2 < 2 ^ 32 from by omega), Nat.shiftRight_eq_div_pow, Nat.shiftRight_eq_div_pow, Nat.xor_div_two_pow, Nat.div_eq_of_lt (show c % 2 < 2 ^ 1 from by omega)]
    simp
  have hl : (x ^^^ BitVec.ofNat 32 (c % 2)).getLsbD 0 = decide (¬ x.toNat % 2 = c % 2) := by
    rw [BitVec.getLsbD_xor, BitVec.getLsbD_ofNat]
    show (x.toNat.testBit 0 ^^ _) = _
    rw [Nat.testBit_zero, Nat.testBit_zero]
    have h1 : x.toNat % 2 = 0 ∨ x.toNat % 2 = 1 := by omega
    have h2 : c % 2 = 0 ∨ c % 2 = 1 := by omega
    rcases h1 with h1 | h1 <;> rcases h2 with h2 | h2 <;> simp [h1, h2]
  rw [hs, hl]
  by_cases h : x.toNat % 2 = c % 2
  · rw [if_pos (by exact_mod_cast h)]
    simp [h]
  · rw [if_neg (by exact_mod_cast h)]
    simp [h]
theorem inner (l : List Int) (i : Int) (d : Nat) : ∀ (k : Nat) (v : BitVec 32) (c : Nat) (x8 : Int), 0 ≤ x8 → 8 - x8 = d → c < 4294967296 →
    estreatref03_More.l1 (k + d + 1) l (I v) i c x8 = estreatref03_More.l0 k l (I (feed d v c)) (wrap64 (i + 1)) := by
  induction d with
  | zero =>
    intro k v c x8 h0 hd hc
    simp only [estreatref03_More.l1]
    rw [if_neg (by omega)]
    rfl
  | succ d ih =>
    intro k v c x8 h0 hd hc
    rw [show k + (d + 1) + 1 = (k + d + 1) + 1 from by omega]
    simp only [estreatref03_More.l1]
    rw [if_pos (by omega), take_is v c]
    simp only [Option.bind_some]
    have e : (Int.tdiv (c : Int) 2) % 4294967296 = ((c / 2 : Nat) : Int) := by rw [Int.tdiv_eq_ediv_of_nonneg (by omega)]; omega
    have e8 : wrap64 (x8 + 1) = x8 + 1 := by unfold wrap64; omega
    rw [e, e8]
    exact ih k _ _ _ (by omega) (by omega) (by omega)
theorem ref_is (l : List Int) (h : Byte l) (hl : l.length ≤ 140737488351232) (n : Nat) : ∀ (k : Nat) (v : BitVec 32) (i : Nat), i + n = l.length → 10 * n < k →
    estreatref03_More.l0 k l (I v) i = some (I (ones ^^^ fold v (CrcMath.bytes (l.drop i)))) := by
  induction n with
  | zero =>
    intro k v i hi hk
    obtain ⟨k, rfl⟩ : ∃ m, k = m + 1 := ⟨k - 1, by omega⟩
    simp only [estreatref03_More.l0]
    rw [if_neg (by omega), compl_I, List.drop_of_length_le (by omega)]
    rfl
  | succ n ih =>
    intro k v i hi hk
    obtain ⟨k, rfl⟩ : ∃ m, k = m + 8 + 1 + 1 := ⟨k - 10, by omega⟩
    have hlt : i < l.length := by omega
    have hr : rd l i = l[i] := by simp [rd, hlt]
    have hb := h l[i] (List.getElem_mem hlt)
    simp only [estreatref03_More.l0]
    rw [if_pos (by omega), if_pos (by omega), hr]
    have e : l[i] % 4294967296 = ((l[i].toNat : Nat) : Int) := by omega
    rw [e, inner l i 8 k v l[i].toNat 0 (by omega) (by omega) (by omega)]
    have ei : wrap64 ((i : Int) + 1) = ((i + 1 : Nat) : Int) := by unfold wrap64; omega
    rw [ei, ih k _ (i + 1) (by omega) (by omega)]
    have ed : l.drop i = l[i] :: l.drop (i + 1) := List.drop_eq_getElem_cons hlt
    rw [ed]
    rfl
theorem refmore_is (s : BitVec 32) (l : List Int) (h : Byte l) (hl : l.length ≤ 140737488351232) (k : Nat) (hk : 10 * l.length < k) : estreatref03_More.f k (I s) l = some (I (sum s l)) := by
  unfold estreatref03_More.f
  rw [compl_I, show (0 : Int) = ((0 : Nat) : Int) from rfl, ref_is l h hl l.length k _ 0 (by omega) hk, List.drop_zero]
  rfl

theorem CrcSums : estreatlaw03_CrcSums.Pure := by
  intro a0 l1 h0 _ hl hb
  have hB := byte_of l1 hb
  have h0 := wf_u32 h0
  obtain ⟨s, rfl⟩ := of_I a0 (by omega) (by omega)
  refine ⟨10 * l1.length + 1, ?_⟩
  unfold estreatlaw03_CrcSums.f
  rw [awake_is, more_is s l1 hB, refmore_is s l1 hB (by omega) _ (by omega), sum_is l1 hB, show (0 : Int) = I 0#32 from rfl, refmore_is 0#32 l1 hB (by omega) _ (by omega)]
  simp

end Go.Proofs.Ytdabdhimidfofaa.Pure
