/- Frames, plainly: what is put, what is read back. -/
import Derived.Test.YtdabdhimidfofaaDoorPFramex1
import Derived.Test.YtdabdhimidfofaaDoorPFramex2
import Derived.Test.YtdabdhimidfofaaDoorPFramex3
import Derived.Test.YtdabdhimidfofaaDoorPFramex12
import Derived.Test.YtdabdhimidfofaaDoorPFramex13
import Derived.Test.YtdabdhimidfofaaDoorPFramex14
import Derived.Test.YtdabdhimidfofaaDoorCrcMath
namespace Go.Proofs.YtdabdhimidfofaaDoor.FrameMath
open Go.RowKit Go.Proofs.YtdabdhimidfofaaDoor.PFrame Go.Proofs.YtdabdhimidfofaaDoorW.PrintWords Go.Proofs.YtdabdhimidfofaaDoorW.PrintLast
open Go.Proofs.YtdabdhimidfofaaDoor.CrcMath

theorem bit_same : crc_bit = bitI := rfl
theorem bits_same (n : Nat) (v : Int) : crc_bits n v = bitsI n v := by
  induction n with
  | zero => rfl
  | succ n ih => show crc_bit (crc_bits n v) = bitI (bitsI n v); rw [ih]; rfl
theorem step_same : crc_step = stepI := by
  funext v c
  unfold crc_step stepI
  rw [bits_same]
theorem more_is (s : BitVec 32) (l : List Int) (h : Byte l) : crc_More.f (I s) l = some (I (sum s l)) := by
  unfold crc_More.f
  rw [step_same, moreI_eq s l h]
theorem sum_is (l : List Int) (h : Byte l) : crc_Sum.f l = some (I (sum 0#32 l)) := by
  unfold crc_Sum.f
  rw [show (0 : Int) = I 0#32 from rfl, more_is 0#32 l h]
  rfl
theorem byte_of (l : List Int) (h : ∀ x ∈ l, (Lit.int .u8 x).wf = true) : Byte l := by
  intro x hx
  have := h x hx
  have := wf_u8 this
  omega

/-! ### Four bytes of a number -/
def fix4 (n : Nat) : List Int := [((n % 256 : Nat) : Int), ((n / 256 % 256 : Nat) : Int), ((n / 65536 % 256 : Nat) : Int), ((n / 16777216 % 256 : Nat) : Int)]
theorem fix4_length (n : Nat) : (fix4 n).length = 4 := rfl
theorem fix4_byte (n : Nat) : Byte (fix4 n) := by
  intro x hx
  simp only [fix4, List.mem_cons, List.not_mem_nil, or_false] at hx
  omega
theorem putfix_is (l : List Int) (n : Nat) (hl : l.length ≤ 1000) (k : Nat) (hk : 5 ≤ k) : num_PutFix.f k l (n : Int) 4 = some (l ++ fix4 n) := by
  obtain ⟨k, rfl⟩ : ∃ m, k = m + 1 + 1 + 1 + 1 + 1 := ⟨k - 5, by omega⟩
  unfold num_PutFix.f
  rw [show mx 0 (mn 4 8) = (4 : Int) from by decide]
  have e0 : wrap64 (0 + 1) = 1 := by decide +kernel
  have e1 : wrap64 (1 + 1) = 2 := by decide +kernel
  have e2 : wrap64 (2 + 1) = 3 := by decide +kernel
  have e3 : wrap64 (3 + 1) = 4 := by decide +kernel
  rw [num_PutFix.l0, if_pos (by decide), if_pos (by omega), e0]
  rw [num_PutFix.l0, if_pos (by decide), if_pos (by simp; omega), e1]
  rw [num_PutFix.l0, if_pos (by decide), if_pos (by simp; omega), e2]
  rw [num_PutFix.l0, if_pos (by decide), if_pos (by simp; omega), e3]
  rw [num_PutFix.l0, if_neg (by decide)]
  congr 1
  simp only [List.append_assoc, List.cons_append, List.nil_append, fix4]
  congr 1
  refine List.cons_eq_cons.2 ⟨by omega, List.cons_eq_cons.2 ⟨by omega, List.cons_eq_cons.2 ⟨by omega, List.cons_eq_cons.2 ⟨by omega, rfl⟩⟩⟩⟩
theorem reffix_is (n : Nat) (hn : n < 4294967296) (k : Nat) (hk : 5 ≤ k) : estreatref01_Fix.f k (n : Int) 4 = some (fix4 n) := by
  obtain ⟨k, rfl⟩ : ∃ m, k = m + 1 + 1 + 1 + 1 + 1 := ⟨k - 5, by omega⟩
  unfold estreatref01_Fix.f
  have e0 : wrap64 (0 + 1) = 1 := by decide +kernel
  have e1 : wrap64 (1 + 1) = 2 := by decide +kernel
  have e2 : wrap64 (2 + 1) = 3 := by decide +kernel
  have e3 : wrap64 (3 + 1) = 4 := by decide +kernel
  have d (q : Nat) (hq : q < 549755813888) := div256 q hq
  have m (q : Nat) := mod256 q
  rw [estreatref01_Fix.l0, if_pos (by decide), if_pos (by decide), if_pos (by decide), e0, m, d n (by omega)]
  rw [estreatref01_Fix.l0, if_pos (by decide), if_pos (by decide), if_pos (by simp), e1, m, d _ (by omega)]
  rw [estreatref01_Fix.l0, if_pos (by decide), if_pos (by decide), if_pos (by simp), e2, m, d _ (by omega)]
  rw [estreatref01_Fix.l0, if_pos (by decide), if_pos (by decide), if_pos (by simp), e3, m, d _ (by omega)]
  rw [estreatref01_Fix.l0, if_neg (by decide)]
  congr 1
  simp only [List.cons_append, List.nil_append, fix4]
  refine List.cons_eq_cons.2 ⟨by omega, List.cons_eq_cons.2 ⟨by omega, List.cons_eq_cons.2 ⟨by omega, List.cons_eq_cons.2 ⟨by omega, rfl⟩⟩⟩⟩

/-! ### The frame of a part -/
def fsum (l : List Int) : BitVec 32 := sum 0#32 (fix4 l.length ++ l)
def frameP (l : List Int) : List Int := fix4 l.length ++ (fix4 (fsum l).toNat ++ l)
theorem frameP_length (l : List Int) : (frameP l).length = 8 + l.length := by simp [frameP, fix4_length]; omega
theorem Byte.app {a b : List Int} (ha : Byte a) (hb : Byte b) : Byte (a ++ b) := fun x hx => (List.mem_append.1 hx).elim (ha x) (hb x)
theorem frameP_byte (l : List Int) (h : Byte l) : Byte (frameP l) := Byte.app (fix4_byte _) (Byte.app (fix4_byte _) h)
theorem wrapI (x : BitVec 32) : IntKind.u64.wrap (I x) = ((x.toNat : Nat) : Int) := by
  have := x.isLt
  unfold I
  rw [wrap_u64 _ (by omega) (by omega)]
theorem put_is (l : List Int) (h : Byte l) (hl : l.length ≤ 16777216) (k : Nat) (hk : 5 ≤ k) : frame_Put.f k l = some (frameP l, 0) := by
  unfold frame_Put.f
  rw [if_neg (by omega), wrap_u64 _ (by omega) (by omega), putfix_is [] l.length (by simp) k hk]
  simp only [Option.bind_some, List.nil_append]
  rw [sum_is _ (fix4_byte _)]
  simp only [Option.bind_some]
  rw [more_is _ _ h, sum_append]
  simp only [Option.bind_some]
  rw [wrapI, putfix_is _ _ (by rw [fix4_length]; omega) k hk]
  simp only [Option.bind_some]
  rw [if_pos (by rw [List.length_append, fix4_length, fix4_length]; omega), List.append_assoc]
  rfl
theorem same_is (l : List Int) (hl : l.length ≤ 140737488351232) (n : Nat) : ∀ (k i : Nat), i + n = l.length → n < k → estreatref01_Same.l0 k l l (i : Int) = some true := by
  induction n with
  | zero =>
    intro k i hi hk
    obtain ⟨k, rfl⟩ : ∃ m, k = m + 1 := ⟨k - 1, by omega⟩
    rw [estreatref01_Same.l0, if_neg (by omega)]
  | succ n ih =>
    intro k i hi hk
    obtain ⟨k, rfl⟩ : ∃ m, k = m + 1 := ⟨k - 1, by omega⟩
    rw [estreatref01_Same.l0, if_pos (by omega), if_pos (by omega), if_pos (by omega), if_pos rfl, wrap_next i (by omega)]
    exact ih k (i + 1) (by omega) (by omega)
theorem same_self (l : List Int) (hl : l.length ≤ 140737488351232) (k : Nat) (hk : l.length < k) : estreatref01_Same.f k l l = some true := by
  unfold estreatref01_Same.f
  rw [if_pos rfl, show (0 : Int) = ((0 : Nat) : Int) from rfl]
  exact same_is l hl l.length k 0 (by omega) hk
theorem compl_I (x : BitVec 32) : (4294967295 - I x) % 4294967296 = I (ones ^^^ x) := by
  have h : ones ^^^ x = ~~~x := by
    rw [show ones = BitVec.allOnes 32 from by decide]
    exact BitVec.allOnes_xor
  rw [h]
  have hx := x.isLt
  unfold I
  rw [BitVec.toNat_not]
  omega
theorem take_is (x : BitVec 32) (c : Nat) : estreatref03_take.f (I x) (Int.tmod (c : Int) 2) = some (I (T (x ^^^ BitVec.ofNat 32 (c % 2)))) := by
  have hx := x.isLt
  have e1 : Int.tmod (I x) 2 = ((x.toNat % 2 : Nat) : Int) := by unfold I; rw [Int.tmod_eq_emod_of_nonneg (by omega)]; omega
  have e2 : Int.tmod (c : Int) 2 = ((c % 2 : Nat) : Int) := by rw [Int.tmod_eq_emod_of_nonneg (by omega)]; omega
  have e3 : (Int.tdiv (I x) 2) % 4294967296 = I (x >>> (1 : Nat)) := by
    rw [← half_I]
    have := I_range x
    rw [Int.tdiv_eq_ediv_of_nonneg (by omega)]
    omega
  unfold estreatref03_take.f
  rw [e1, e2, e3, poly_I, xor_I]
  unfold T
  have hs : (x ^^^ BitVec.ofNat 32 (c % 2)) >>> (1 : Nat) = x >>> (1 : Nat) := by
    apply BitVec.eq_of_toNat_eq
    rw [BitVec.toNat_ushiftRight, BitVec.toNat_ushiftRight, BitVec.toNat_xor, BitVec.toNat_ofNat, Nat.mod_eq_of_lt (show c % 2 < 2 ^ 32 from by omega), Nat.shiftRight_eq_div_pow, Nat.shiftRight_eq_div_pow, Nat.xor_div_two_pow, Nat.div_eq_of_lt (show c % 2 < 2 ^ 1 from by omega)]
    simp
  have hl : (x ^^^ BitVec.ofNat 32 (c % 2)).getLsbD 0 = decide (¬ x.toNat % 2 = c % 2) := by
    rw [BitVec.getLsbD_xor, BitVec.getLsbD_ofNat]
    show (x.toNat.testBit 0 ^^ _) = _
    rw [Nat.testBit_zero, Nat.testBit_zero]
    have h1 : x.toNat % 2 = 0 ∨ x.toNat % 2 = 1 := by omega
    have h2 : c % 2 = 0 ∨ c % 2 = 1 := by omega
    rcases h1 with h1 | h1 <;> rcases h2 with h2 | h2 <;> simp [h1, h2]
  rw [hs, hl]
  by_cases h : x.toNat % 2 = c % 2
  · rw [if_pos (by exact_mod_cast h)]
    simp [h]
  · rw [if_neg (by exact_mod_cast h)]
    simp [h]
theorem inner (l : List Int) (i : Int) (d : Nat) : ∀ (k : Nat) (v : BitVec 32) (c : Nat) (x8 : Int), 0 ≤ x8 → 8 - x8 = d → c < 4294967296 →
    estreatref03_More.l1 (k + d + 1) l (I v) i c x8 = estreatref03_More.l0 k l (I (feed d v c)) (wrap64 (i + 1)) := by
  induction d with
  | zero =>
    intro k v c x8 h0 hd hc
    simp only [estreatref03_More.l1]
    rw [if_neg (by omega)]
    rfl
  | succ d ih =>
    intro k v c x8 h0 hd hc
    rw [show k + (d + 1) + 1 = (k + d + 1) + 1 from by omega]
    simp only [estreatref03_More.l1]
    rw [if_pos (by omega), take_is v c]
    simp only [Option.bind_some]
    have e : (Int.tdiv (c : Int) 2) % 4294967296 = ((c / 2 : Nat) : Int) := by rw [Int.tdiv_eq_ediv_of_nonneg (by omega)]; omega
    have e8 : wrap64 (x8 + 1) = x8 + 1 := by unfold wrap64; omega
    rw [e, e8]
    exact ih k _ _ _ (by omega) (by omega) (by omega)
theorem ref_is (l : List Int) (h : Byte l) (hl : l.length ≤ 140737488351232) (n : Nat) : ∀ (k : Nat) (v : BitVec 32) (i : Nat), i + n = l.length → 10 * n < k →
    estreatref03_More.l0 k l (I v) i = some (I (ones ^^^ fold v (CrcMath.bytes (l.drop i)))) := by
  induction n with
  | zero =>
    intro k v i hi hk
    obtain ⟨k, rfl⟩ : ∃ m, k = m + 1 := ⟨k - 1, by omega⟩
    simp only [estreatref03_More.l0]
    rw [if_neg (by omega), compl_I, List.drop_of_length_le (by omega)]
    rfl
  | succ n ih =>
    intro k v i hi hk
    obtain ⟨k, rfl⟩ : ∃ m, k = m + 8 + 1 + 1 := ⟨k - 10, by omega⟩
    have hlt : i < l.length := by omega
    have hr : rd l i = l[i] := by simp [rd, hlt]
    have hb := h l[i] (List.getElem_mem hlt)
    simp only [estreatref03_More.l0]
    rw [if_pos (by omega), if_pos (by omega), hr]
    have e : l[i] % 4294967296 = ((l[i].toNat : Nat) : Int) := by omega
    rw [e, inner l i 8 k v l[i].toNat 0 (by omega) (by omega) (by omega)]
    have ei : wrap64 ((i : Int) + 1) = ((i + 1 : Nat) : Int) := by unfold wrap64; omega
    rw [ei, ih k _ (i + 1) (by omega) (by omega)]
    have ed : l.drop i = l[i] :: l.drop (i + 1) := List.drop_eq_getElem_cons hlt
    rw [ed]
    rfl
theorem refmore_is (s : BitVec 32) (l : List Int) (h : Byte l) (hl : l.length ≤ 140737488351232) (k : Nat) (hk : 10 * l.length < k) : estreatref03_More.f k (I s) l = some (I (sum s l)) := by
  unfold estreatref03_More.f
  rw [compl_I, show (0 : Int) = ((0 : Nat) : Int) from rfl, ref_is l h hl l.length k _ 0 (by omega) hk, List.drop_zero]
  rfl
theorem refput_is (l : List Int) (h : Byte l) (hl : l.length ≤ 16777216) (k : Nat) (hk : 10 * l.length + 60 < k) : estreatref04_Put.f k l = some (frameP l) := by
  unfold estreatref04_Put.f
  rw [wrap_u64 _ (by omega) (by omega), reffix_is _ (by omega) k (by omega)]
  simp only [Option.bind_some, List.nil_append, List.length_nil]
  rw [if_pos (by rw [fix4_length]; omega), if_pos (by rw [fix4_length]; omega), show (0 : Int) = I 0#32 from rfl, refmore_is 0#32 _ (Byte.app (fix4_byte _) h) (by rw [List.length_append, fix4_length]; omega) k (by rw [List.length_append, fix4_length]; omega)]
  simp only [Option.bind_some]
  rw [wrapI, reffix_is _ (by have := (sum 0#32 (fix4 l.length ++ l)).isLt; omega) k (by omega)]
  simp only [Option.bind_some]
  rw [if_pos (by rw [fix4_length, fix4_length]; omega), if_pos (by rw [List.length_append, fix4_length, fix4_length]; omega), List.append_assoc]
  rfl
end Go.Proofs.YtdabdhimidfofaaDoor.FrameMath
