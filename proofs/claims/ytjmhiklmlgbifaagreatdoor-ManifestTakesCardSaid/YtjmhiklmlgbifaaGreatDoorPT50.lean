/- Texts, put into one. -/
import Derived.Test.YtjmhiklmlgbifaaGreatDoorPT18
import Derived.Test.YtjmhiklmlgbifaaGreatDoorPT44
import Derived.Test.YtjmhiklmlgbifaaGreatDoorPT49
import Derived.Test.YtjmhiklmlgbifaaGreatDoorPTW
set_option linter.unusedVariables false
set_option linter.unusedSimpArgs false
open Go Go.RowKit Go.Proofs.YtjmhiklmlgbifaaGreatDoorW.PrintWords Go.Proofs.YtjmhiklmlgbifaaGreatDoorW.PrintLast Go.Proofs.YtjmhiklmlgbifaaGreatDoorW.PrintMore
namespace Go.Proofs.YtjmhiklmlgbifaaGreatDoor.FrameMath
section
open Go.Proofs.YtjmhiklmlgbifaaGreatDoor.PMan
open Go.Proofs.YtjmhiklmlgbifaaGreatDoor.CrcMath
theorem bits_same (n : Nat) (v : Int) : crc_bits n v = bitsI n v := by
 induction n with
 | zero => rfl
 | succ n ih => show crc_bit (crc_bits n v) = bitI (bitsI n v); rw [ih]; rfl
theorem step_same : crc_step = stepI := by
 funext v c
 unfold crc_step stepI
 rw [bits_same]
theorem more_is (s : BitVec 32) (l : List Int) (h : Byte l) : crc_More.f (I s) l = some (I (sum s l)) := by
 unfold crc_More.f
 rw [step_same, moreI_eq s l h]
theorem sum_is (l : List Int) (h : Byte l) : crc_Sum.f l = some (I (sum 0#32 l)) := by
 unfold crc_Sum.f
 rw [show (0 : Int) = I 0#32 from rfl, more_is 0#32 l h]
 rfl
theorem byte_of (l : List Int) (h : ∀ x ∈ l, (Lit.int .u8 x).wf = true) : Byte l := by
 intro x hx
 have := h x hx
 have := wf_u8 this
 omega
def fix4 (n : Nat) : List Int := [((n % 256 : Nat) : Int), ((n / 256 % 256 : Nat) : Int), ((n / 65536 % 256 : Nat) : Int), ((n / 16777216 % 256 : Nat) : Int)]
theorem fix4_byte (n : Nat) : Byte (fix4 n) := by
 intro x hx
 simp only [fix4, List.mem_cons, List.not_mem_nil, or_false] at hx
 omega
theorem putfix_is (l : List Int) (n : Nat) (hl : l.length ≤ 1000) (k : Nat) (hk : 5 ≤ k) : num_PutFix.f k l (n : Int) 4 = some (l ++ fix4 n) := by
 obtain ⟨k, rfl⟩ : ∃ m, k = m + 1 + 1 + 1 + 1 + 1 := ⟨k - 5, by omega⟩
 unfold num_PutFix.f
 rw [show mx 0 (mn 4 8) = (4 : Int) from by decide]
 have e0 : wrap64 (0 + 1) = 1 := by decide +kernel
 have e1 : wrap64 (1 + 1) = 2 := by decide +kernel
 have e2 : wrap64 (2 + 1) = 3 := by decide +kernel
 have e3 : wrap64 (3 + 1) = 4 := by decide +kernel
 rw [num_PutFix.l0, if_pos (by decide), if_pos (by omega), e0]
 rw [num_PutFix.l0, if_pos (by decide), if_pos (by simp; omega), e1]
 rw [num_PutFix.l0, if_pos (by decide), if_pos (by simp; omega), e2]
 rw [num_PutFix.l0, if_pos (by decide), if_pos (by simp; omega), e3]
 rw [num_PutFix.l0, if_neg (by decide)]
 congr 1
 simp only [List.append_assoc, List.cons_append, List.nil_append, fix4]
 congr 1
 refine List.cons_eq_cons.2 ⟨by omega, List.cons_eq_cons.2 ⟨by omega, List.cons_eq_cons.2 ⟨by omega, List.cons_eq_cons.2 ⟨by omega, rfl⟩⟩⟩⟩
theorem reffix_is (n : Nat) (hn : n < 4294967296) (k : Nat) (hk : 5 ≤ k) : estreatref01_Fix.f k (n : Int) 4 = some (fix4 n) := by
 obtain ⟨k, rfl⟩ : ∃ m, k = m + 1 + 1 + 1 + 1 + 1 := ⟨k - 5, by omega⟩
 unfold estreatref01_Fix.f
 have e0 : wrap64 (0 + 1) = 1 := by decide +kernel
 have e1 : wrap64 (1 + 1) = 2 := by decide +kernel
 have e2 : wrap64 (2 + 1) = 3 := by decide +kernel
 have e3 : wrap64 (3 + 1) = 4 := by decide +kernel
 have d (q : Nat) (hq : q < 549755813888) := div256 q hq
 have m (q : Nat) := mod256 q
 rw [estreatref01_Fix.l0, if_pos (by decide), if_pos (by decide), if_pos (by decide), e0, m, d n (by omega)]
 rw [estreatref01_Fix.l0, if_pos (by decide), if_pos (by decide), if_pos (by simp), e1, m, d _ (by omega)]
 rw [estreatref01_Fix.l0, if_pos (by decide), if_pos (by decide), if_pos (by simp), e2, m, d _ (by omega)]
 rw [estreatref01_Fix.l0, if_pos (by decide), if_pos (by decide), if_pos (by simp), e3, m, d _ (by omega)]
 rw [estreatref01_Fix.l0, if_neg (by decide)]
 congr 1
 simp only [List.cons_append, List.nil_append, fix4]
 refine List.cons_eq_cons.2 ⟨by omega, List.cons_eq_cons.2 ⟨by omega, List.cons_eq_cons.2 ⟨by omega, List.cons_eq_cons.2 ⟨by omega, rfl⟩⟩⟩⟩
theorem Byte.app {a b : List Int} (ha : Byte a) (hb : Byte b) : Byte (a ++ b) := fun x hx => (List.mem_append.1 hx).elim (ha x) (hb x)
theorem wrapI (x : BitVec 32) : IntKind.u64.wrap (I x) = ((x.toNat : Nat) : Int) := by
 have := x.isLt
 unfold I
 rw [wrap_u64 _ (by omega) (by omega)]
theorem same_is (l : List Int) (hl : l.length ≤ 140737488351232) (n : Nat) : ∀ (k i : Nat), i + n = l.length → n < k → estreatref01_Same.l0 k l l (i : Int) = some true := by
 induction n with
 | zero =>
  intro k i hi hk
  obtain ⟨k, rfl⟩ : ∃ m, k = m + 1 := ⟨k - 1, by omega⟩
  rw [estreatref01_Same.l0, if_neg (by omega)]
 | succ n ih =>
  intro k i hi hk
  obtain ⟨k, rfl⟩ : ∃ m, k = m + 1 := ⟨k - 1, by omega⟩
  rw [estreatref01_Same.l0, if_pos (by omega), if_pos (by omega), if_pos (by omega), if_pos rfl, wrap_next i (by omega)]
  exact ih k (i + 1) (by omega) (by omega)
theorem same_self (l : List Int) (hl : l.length ≤ 140737488351232) (k : Nat) (hk : l.length < k) : estreatref01_Same.f k l l = some true := by
 unfold estreatref01_Same.f
 rw [if_pos rfl, show (0 : Int) = ((0 : Nat) : Int) from rfl]
 exact same_is l hl l.length k 0 (by omega) hk
theorem compl_I (x : BitVec 32) : (4294967295 - I x) % 4294967296 = I (ones ^^^ x) := by
 have h : ones ^^^ x = ~~~x := by
  rw [show ones = BitVec.allOnes 32 from by decide]
  exact BitVec.allOnes_xor
 rw [h]
 have hx := x.isLt
 unfold I
 rw [BitVec.toNat_not]
 omega
theorem take_is (x : BitVec 32) (c : Nat) : estreatref03_take.f (I x) (Int.tmod (c : Int) 2) = some (I (T (x ^^^ BitVec.ofNat 32 (c % 2)))) := by
 have hx := x.isLt
 have e1 : Int.tmod (I x) 2 = ((x.toNat % 2 : Nat) : Int) := by unfold I; rw [Int.tmod_eq_emod_of_nonneg (by omega)]; omega
 have e2 : Int.tmod (c : Int) 2 = ((c % 2 : Nat) : Int) := by rw [Int.tmod_eq_emod_of_nonneg (by omega)]; omega
 have e3 : (Int.tdiv (I x) 2) % 4294967296 = I (x >>> (1 : Nat)) := by
  rw [← half_I]
  have := I_range x
  rw [Int.tdiv_eq_ediv_of_nonneg (by omega)]
  omega
 unfold estreatref03_take.f
 rw [e1, e2, e3, poly_I, xor_I]
 unfold T
 have hs : (x ^^^ BitVec.ofNat 32 (c % 2)) >>> (1 : Nat) = x >>> (1 : Nat) := by
  apply BitVec.eq_of_toNat_eq
  rw [BitVec.toNat_ushiftRight, BitVec.toNat_ushiftRight, BitVec.toNat_xor, BitVec.toNat_ofNat, Nat.mod_eq_of_lt (show c % 2 < 2 ^ 32 from by omega), Nat.shiftRight_eq_div_pow, Nat.shiftRight_eq_div_pow, Nat.xor_div_two_pow, Nat.div_eq_of_lt (show c % 2 < 2 ^ 1 from by omega)]
  simp
 have hl : (x ^^^ BitVec.ofNat 32 (c % 2)).getLsbD 0 = decide (¬ x.toNat % 2 = c % 2) := by
  rw [BitVec.getLsbD_xor, BitVec.getLsbD_ofNat]
  show (x.toNat.testBit 0 ^^ _) = _
  rw [Nat.testBit_zero, Nat.testBit_zero]
  have h1 : x.toNat % 2 = 0 ∨ x.toNat % 2 = 1 := by omega
  have h2 : c % 2 = 0 ∨ c % 2 = 1 := by omega
  rcases h1 with h1 | h1 <;> rcases h2 with h2 | h2 <;> simp [h1, h2]
 rw [hs, hl]
 by_cases h : x.toNat % 2 = c % 2
 ·rw [if_pos (by exact_mod_cast h)]
  simp [h]
 ·rw [if_neg (by exact_mod_cast h)]
  simp [h]
theorem inner (l : List Int) (i : Int) (d : Nat) : ∀ (k : Nat) (v : BitVec 32) (c : Nat) (x8 : Int), 0 ≤ x8 → 8 - x8 = d → c < 4294967296 →
  estreatref03_More.l1 (k + d + 1) l (I v) i c x8 = estreatref03_More.l0 k l (I (feed d v c)) (wrap64 (i + 1)) := by
 induction d with
 | zero =>
  intro k v c x8 h0 hd hc
  simp only [estreatref03_More.l1]
  rw [if_neg (by omega)]
  rfl
 | succ d ih =>
  intro k v c x8 h0 hd hc
  rw [show k + (d + 1) + 1 = (k + d + 1) + 1 from by omega]
  simp only [estreatref03_More.l1]
  rw [if_pos (by omega), take_is v c]
  simp only [Option.bind_some]
  have e : (Int.tdiv (c : Int) 2) % 4294967296 = ((c / 2 : Nat) : Int) := by rw [Int.tdiv_eq_ediv_of_nonneg (by omega)]; omega
  have e8 : wrap64 (x8 + 1) = x8 + 1 := by unfold wrap64; omega
  rw [e, e8]
  exact ih k _ _ _ (by omega) (by omega) (by omega)
theorem ref_is (l : List Int) (h : Byte l) (hl : l.length ≤ 140737488351232) (n : Nat) : ∀ (k : Nat) (v : BitVec 32) (i : Nat), i + n = l.length → 10 * n < k →
  estreatref03_More.l0 k l (I v) i = some (I (ones ^^^ fold v (CrcMath.bytes (l.drop i)))) := by
 induction n with
 | zero =>
  intro k v i hi hk
  obtain ⟨k, rfl⟩ : ∃ m, k = m + 1 := ⟨k - 1, by omega⟩
  simp only [estreatref03_More.l0]
  rw [if_neg (by omega), compl_I, List.drop_of_length_le (by omega)]
  rfl
 | succ n ih =>
  intro k v i hi hk
  obtain ⟨k, rfl⟩ : ∃ m, k = m + 8 + 1 + 1 := ⟨k - 10, by omega⟩
  have hlt : i < l.length := by omega
  have hr : rd l i = l[i] := by simp [rd, hlt]
  have hb := h l[i] (List.getElem_mem hlt)
  simp only [estreatref03_More.l0]
  rw [if_pos (by omega), if_pos (by omega), hr]
  have e : l[i] % 4294967296 = ((l[i].toNat : Nat) : Int) := by omega
  rw [e, inner l i 8 k v l[i].toNat 0 (by omega) (by omega) (by omega)]
  have ei : wrap64 ((i : Int) + 1) = ((i + 1 : Nat) : Int) := by unfold wrap64; omega
  rw [ei, ih k _ (i + 1) (by omega) (by omega)]
  have ed : l.drop i = l[i] :: l.drop (i + 1) := List.drop_eq_getElem_cons hlt
  rw [ed]
  rfl
theorem refmore_is (s : BitVec 32) (l : List Int) (h : Byte l) (hl : l.length ≤ 140737488351232) (k : Nat) (hk : 10 * l.length < k) : estreatref03_More.f k (I s) l = some (I (sum s l)) := by
 unfold estreatref03_More.f
 rw [compl_I, show (0 : Int) = ((0 : Nat) : Int) from rfl, ref_is l h hl l.length k _ 0 (by omega) hk, List.drop_zero]
 rfl
def le4 (a b c d : Int) : Nat := a.toNat + 256 * b.toNat + 65536 * c.toNat + 16777216 * d.toNat
def B1 (x : Int) : Prop := 0 ≤ x ∧ x < 256
theorem u64_or (i : Nat) (hi : i ≤ 40) (x y : Int) (h0 : 0 ≤ x) (hx : x % 2 ^ i = 0) (h1 : x < 2 ^ 40) (k0 : 0 ≤ y) (k1 : y < 2 ^ i) : Go.bits .or .u64 x y = x + y := by
 have : (2 : Int) ^ i ≤ 2 ^ 40 := by exact_mod_cast Nat.pow_le_pow_right (n := 2) (by decide) hi
 exact bits_join .u64 40 (by decide) (fun n h0 h1 => wrap_u64 n h0 (by have : (2 : Int) ^ 40 = 1099511627776 := by decide
                                                                       omega)) i x y h0 hx h1 k0 k1 (by omega)
theorem fixv_is (a b c d : Int) (ha : B1 a) (hb : B1 b) (hc : B1 c) (hd : B1 d) : fixv [a, b, c, d] = some ((le4 a b c d : Nat) : Int) := by
 obtain ⟨a0, a1⟩ := ha
 obtain ⟨b0, b1⟩ := hb
 obtain ⟨c0, c1⟩ := hc
 obtain ⟨d0, d1⟩ := hd
 show some _ = some _
 unfold le4
 rw [wrap_u64 a (by omega) (by omega), wrap_u64 b (by omega) (by omega), wrap_u64 c (by omega) (by omega), wrap_u64 d (by omega) (by omega)]
 rw [wrap_u64 (d * 16777216) (by omega) (by omega), wrap_u64 (c * 65536) (by omega) (by omega), wrap_u64 (b * 256) (by omega) (by omega)]
 have e40 : (2 : Int) ^ 40 = 1099511627776 := by decide
 have e24 : (2 : Int) ^ 24 = 16777216 := by decide
 have e16 : (2 : Int) ^ 16 = 65536 := by decide
 have e8 : (2 : Int) ^ 8 = 256 := by decide
 rw [u64_or 40 (by omega) 0 (d * 16777216) (by omega) (by omega) (by omega) (by omega) (by omega)]
 rw [u64_or 24 (by omega) (0 + d * 16777216) (c * 65536) (by omega) (by omega) (by omega) (by omega) (by omega)]
 rw [u64_or 16 (by omega) (0 + d * 16777216 + c * 65536) (b * 256) (by omega) (by omega) (by omega) (by omega) (by omega)]
 rw [u64_or 8 (by omega) (0 + d * 16777216 + c * 65536 + b * 256) a (by omega) (by omega) (by omega) (by omega) (by omega)]
 congr 1
 omega
theorem fix_a (x0 x1 x2 x3 x4 x5 x6 x7 : Int) (h0 : B1 x0) (h1 : B1 x1) (h2 : B1 x2) (h3 : B1 x3) :
  num_Reader_Fix.f [x0, x1, x2, x3, x4, x5, x6, x7] 0 0 0 4 = some (((le4 x0 x1 x2 x3 : Nat) : Int), 4, 0, 0) := by
 unfold num_Reader_Fix.f num_Reader_Take.f
 simp only [List.length_cons, List.length_nil]
 rw [if_pos (by decide), if_pos (by decide), if_neg (by decide), if_pos (by decide), if_pos (by decide), if_neg (by decide), if_pos (by decide)]
 simp only [Option.bind_some]
 rw [show (List.take (Int.toNat (0 + 4)) [x0, x1, x2, x3, x4, x5, x6, x7]).drop (Int.toNat 0) = [x0, x1, x2, x3] from rfl, fixv_is x0 x1 x2 x3 h0 h1 h2 h3]
 rfl
theorem fix_b (x0 x1 x2 x3 x4 x5 x6 x7 : Int) (h4 : B1 x4) (h5 : B1 x5) (h6 : B1 x6) (h7 : B1 x7) :
  num_Reader_Fix.f [x0, x1, x2, x3, x4, x5, x6, x7] 4 0 0 4 = some (((le4 x4 x5 x6 x7 : Nat) : Int), 8, 0, 0) := by
 unfold num_Reader_Fix.f num_Reader_Take.f
 simp only [List.length_cons, List.length_nil]
 rw [if_pos (by decide), if_pos (by decide), if_neg (by decide), if_pos (by decide), if_pos (by decide), if_neg (by decide), if_pos (by decide)]
 simp only [Option.bind_some]
 rw [show (List.take (Int.toNat (4 + 4)) [x0, x1, x2, x3, x4, x5, x6, x7]).drop (Int.toNat 4) = [x4, x5, x6, x7] from rfl, fixv_is x4 x5 x6 x7 h4 h5 h6 h7]
 rfl
theorem get_long (x0 x1 x2 x3 x4 x5 x6 x7 : Int) (r : List Int) (h : Byte (x0 :: x1 :: x2 :: x3 :: x4 :: x5 :: x6 :: x7 :: r)) (hr : r.length ≤ 1099511627776) :
  frame_Get.f (x0 :: x1 :: x2 :: x3 :: x4 :: x5 :: x6 :: x7 :: r) = some (
   if 16777216 < le4 x0 x1 x2 x3 then ([], 0, 12) else if r.length < le4 x0 x1 x2 x3 then ([], 0, 2)
   else if le4 x4 x5 x6 x7 = (sum 0#32 ([x0, x1, x2, x3] ++ r.take (le4 x0 x1 x2 x3))).toNat then (r.take (le4 x0 x1 x2 x3), ((8 + le4 x0 x1 x2 x3 : Nat) : Int), 0) else ([], 0, 6)) := by
 have hb : ∀ x ∈ (x0 :: x1 :: x2 :: x3 :: x4 :: x5 :: x6 :: x7 :: r), B1 x := h
 have h0 := hb x0 (by simp)
 have h1 := hb x1 (by simp)
 have h2 := hb x2 (by simp)
 have h3 := hb x3 (by simp)
 have h4 := hb x4 (by simp)
 have h5 := hb x5 (by simp)
 have h6 := hb x6 (by simp)
 have h7 := hb x7 (by simp)
 have hR : Byte r := fun x hx => h x (by simp [hx])
 have hs : le4 x4 x5 x6 x7 < 4294967296 := by obtain ⟨_, _⟩ := h4; obtain ⟨_, _⟩ := h5; obtain ⟨_, _⟩ := h6; obtain ⟨_, _⟩ := h7; unfold le4; omega
 have hF : Byte [x0, x1, x2, x3] := fun x hx => hb x (by simp only [List.mem_cons, List.not_mem_nil, or_false] at hx ⊢; rcases hx with h | h | h | h <;> simp [h])
 unfold frame_Get.f frame_read.f
 rw [show List.take 8 (x0 :: x1 :: x2 :: x3 :: x4 :: x5 :: x6 :: x7 :: r) = [x0, x1, x2, x3, x4, x5, x6, x7] from rfl, fix_a x0 x1 x2 x3 x4 x5 x6 x7 h0 h1 h2 h3]
 simp only [Option.bind_some]
 rw [fix_b x0 x1 x2 x3 x4 x5 x6 x7 h4 h5 h6 h7]
 simp only [Option.bind_some, List.length_cons]
 generalize hn : le4 x0 x1 x2 x3 = n
 by_cases q1 : 16777216 < n
 ·rw [if_pos (by omega), if_pos q1]
  rfl
 ·rw [if_neg (by omega), if_pos trivial, if_pos (by omega), if_neg q1]
  by_cases q2 : r.length < n
  ·rw [if_pos (by omega), if_pos q2]
   rfl
  ·rw [if_neg (by omega), if_neg q2]
   rw [show (8 + (n : Int)).toNat = 8 + n from by omega]
   rw [show (List.take (8 + n) (x0 :: x1 :: x2 :: x3 :: x4 :: x5 :: x6 :: x7 :: r)).drop 8 = r.take n from by rw [show 8 + n = n + 1 + 1 + 1 + 1 + 1 + 1 + 1 + 1 from by omega]; rfl]
   rw [show List.take 4 (x0 :: x1 :: x2 :: x3 :: x4 :: x5 :: x6 :: x7 :: r) = [x0, x1, x2, x3] from rfl, sum_is _ hF]
   simp only [Option.bind_some]
   rw [more_is _ _ (fun x hx => hR x (List.mem_of_mem_take hx)), sum_append]
   simp only [Option.bind_some]
   have hlen : (r.take n).length = n := by rw [List.length_take]; omega
   have e1 : ((le4 x4 x5 x6 x7 : Nat) : Int) % 4294967296 = ((le4 x4 x5 x6 x7 : Nat) : Int) := by omega
   rw [e1]
   by_cases q3 : le4 x4 x5 x6 x7 = (sum 0#32 ([x0, x1, x2, x3] ++ r.take n)).toNat
   ·rw [if_pos (by unfold I; exact_mod_cast q3), if_pos q3]
    simp only [Option.bind_some]
    rw [if_pos trivial, hlen]
    have : wrap64 (8 + (n : Int)) = ((8 + n : Nat) : Int) := by unfold wrap64; omega
    rw [this]
   ·rw [if_neg (by unfold I; exact_mod_cast q3), if_neg q3]
    rfl
theorem get_tiny (l : List Int) (hl : l.length < 4) : frame_Get.f l = some ([], 0, 2) := by
 have h8 : List.take 8 l = l := List.take_of_length_le (by omega)
 have ha : num_Reader_Fix.f l 0 0 0 4 = some (0, 0, 2, 0) := by
  unfold num_Reader_Fix.f num_Reader_Take.f
  rw [if_pos (by decide), if_pos (by decide), if_neg (by decide), if_pos (by decide), if_pos (by omega), if_pos (by omega)]
  rfl
 have hb : num_Reader_Fix.f l 0 2 0 4 = some (0, 0, 2, 0) := by
  unfold num_Reader_Fix.f num_Reader_Take.f
  rw [if_pos (by decide), if_neg (by decide)]
  rfl
 unfold frame_Get.f frame_read.f
 rw [h8, ha, Option.bind_some]
 dsimp only
 rw [hb, Option.bind_some]
 dsimp only
 rw [if_neg (by omega), if_neg (by decide)]
 rfl
theorem get_mid (x0 x1 x2 x3 : Int) (t : List Int) (ht : t.length < 4) (h0 : B1 x0) (h1 : B1 x1) (h2 : B1 x2) (h3 : B1 x3) :
  frame_Get.f (x0 :: x1 :: x2 :: x3 :: t) = some ([], 0, if 16777216 < le4 x0 x1 x2 x3 then 12 else 2) := by
 have h8 : List.take 8 (x0 :: x1 :: x2 :: x3 :: t) = x0 :: x1 :: x2 :: x3 :: t := List.take_of_length_le (by simp only [List.length_cons]; omega)
 have ha : num_Reader_Fix.f (x0 :: x1 :: x2 :: x3 :: t) 0 0 0 4 = some (((le4 x0 x1 x2 x3 : Nat) : Int), 4, 0, 0) := by
  unfold num_Reader_Fix.f num_Reader_Take.f
  simp only [List.length_cons]
  rw [if_pos (by decide), if_pos (by decide), if_neg (by decide), if_pos (by decide), if_pos (by omega), if_neg (by omega), if_pos (by omega), Option.bind_some]
  dsimp only
  rw [show (List.take (Int.toNat (0 + 4)) (x0 :: x1 :: x2 :: x3 :: t)).drop (Int.toNat 0) = [x0, x1, x2, x3] from rfl, fixv_is x0 x1 x2 x3 h0 h1 h2 h3]
  rfl
 have hb : num_Reader_Fix.f (x0 :: x1 :: x2 :: x3 :: t) 4 0 0 4 = some (0, 4, 2, 4) := by
  unfold num_Reader_Fix.f num_Reader_Take.f
  simp only [List.length_cons]
  rw [if_pos (by decide), if_pos (by decide), if_neg (by decide), if_pos (by decide), if_pos (by omega), if_pos (by omega)]
  rfl
 unfold frame_Get.f frame_read.f
 rw [h8, ha, Option.bind_some]
 dsimp only
 rw [hb, Option.bind_some]
 dsimp only
 simp only [List.length_cons]
 by_cases q : 16777216 < le4 x0 x1 x2 x3
 ·rw [if_pos (by omega), if_pos q]
  rfl
 ·rw [if_neg (by omega), if_neg (by decide), if_neg q]
  rfl
theorem get_short (l : List Int) (h : Byte l) (hl : l.length < 8) : ∃ e : Int, frame_Get.f l = some ([], 0, e) ∧ e ≠ 0 := by
 match l, h, hl with
 | [], _, _ => exact ⟨2, get_tiny _ (by decide), by decide⟩
 | [_], _, _ => exact ⟨2, get_tiny _ (by simp), by decide⟩
 | [_, _], _, _ => exact ⟨2, get_tiny _ (by simp), by decide⟩
 | [_, _, _], _, _ => exact ⟨2, get_tiny _ (by simp), by decide⟩
 | x0 :: x1 :: x2 :: x3 :: t, h, hl =>
  refine ⟨_, get_mid x0 x1 x2 x3 t (by simp only [List.length_cons] at hl; omega) (h _ (by simp)) (h _ (by simp)) (h _ (by simp)) (h _ (by simp)), ?_⟩
  by_cases q : 16777216 < le4 x0 x1 x2 x3
  ·rw [if_pos q]; decide
  ·rw [if_neg q]; decide
theorem cons8 (b : List Int) (h : 8 ≤ b.length) : ∃ x0 x1 x2 x3 x4 x5 x6 x7 r, b = x0 :: x1 :: x2 :: x3 :: x4 :: x5 :: x6 :: x7 :: r := by
 match b, h with
 | x0 :: x1 :: x2 :: x3 :: x4 :: x5 :: x6 :: x7 :: r, _ => exact ⟨x0, x1, x2, x3, x4, x5, x6, x7, r, rfl⟩
theorem rfixv_is (a b c d : Int) (ha : B1 a) (hb : B1 b) (hc : B1 c) (hd : B1 d) : rfixv [a, b, c, d] = some ((le4 a b c d : Nat) : Int) := by
 obtain ⟨a0, a1⟩ := ha
 obtain ⟨b0, b1⟩ := hb
 obtain ⟨c0, c1⟩ := hc
 obtain ⟨d0, d1⟩ := hd
 show some _ = some _
 unfold le4
 rw [wrap_u64 d (by omega) (by omega), wrap_u64 d (by omega) (by omega), wrap_u64 (256 * d) (by omega) (by omega)]
 rw [wrap_u64 c (by omega) (by omega), wrap_u64 (256 * d + c) (by omega) (by omega), wrap_u64 (256 * (256 * d + c)) (by omega) (by omega)]
 rw [wrap_u64 b (by omega) (by omega), wrap_u64 (256 * (256 * d + c) + b) (by omega) (by omega), wrap_u64 (256 * (256 * (256 * d + c) + b)) (by omega) (by omega)]
 rw [wrap_u64 a (by omega) (by omega), wrap_u64 (256 * (256 * (256 * d + c) + b) + a) (by omega) (by omega)]
 congr 1
 omega
theorem rfix_tiny (l : List Int) (hl : l.length < 4) : estreatref01_Reader_Fix.f l 0 0 0 = some (0, 0, 2, 0) := by
 unfold estreatref01_Reader_Fix.f estreatref01_Reader_Take.f
 rw [if_pos rfl, if_neg (by decide), if_pos (by decide), if_pos (by omega), if_pos (by omega), Option.bind_some]
 rfl
theorem rfix_err (l : List Int) (s1 s3 : Int) : estreatref01_Reader_Fix.f l s1 2 s3 = some (0, s1, 2, s3) := by
 unfold estreatref01_Reader_Fix.f estreatref01_Reader_Take.f
 rw [if_neg (by decide), Option.bind_some]
 rfl
theorem rtake_err (l : List Int) (s1 s3 n : Int) : estreatref01_Reader_Take.f l s1 2 s3 n = some ([], s1, 2, s3) := by
 unfold estreatref01_Reader_Take.f
 rw [if_neg (by decide)]
theorem rfix_a (x0 x1 x2 x3 : Int) (t : List Int) (ht : t.length ≤ 100000000) (h0 : B1 x0) (h1 : B1 x1) (h2 : B1 x2) (h3 : B1 x3) :
  estreatref01_Reader_Fix.f (x0 :: x1 :: x2 :: x3 :: t) 0 0 0 = some (((le4 x0 x1 x2 x3 : Nat) : Int), 4, 0, 0) := by
 unfold estreatref01_Reader_Fix.f estreatref01_Reader_Take.f
 simp only [List.length_cons]
 rw [if_pos trivial, if_neg (by decide), if_pos (by decide), if_pos (by omega), if_neg (by omega), if_pos (by omega), Option.bind_some]
 dsimp only
 rw [show (List.take (Int.toNat (0 + 4)) (x0 :: x1 :: x2 :: x3 :: t)).drop (Int.toNat 0) = [x0, x1, x2, x3] from rfl, rfixv_is x0 x1 x2 x3 h0 h1 h2 h3]
 rfl
theorem rfix_mid (x0 x1 x2 x3 : Int) (t : List Int) (ht : t.length < 4) :
  estreatref01_Reader_Fix.f (x0 :: x1 :: x2 :: x3 :: t) 4 0 0 = some (0, 4, 2, 4) := by
 unfold estreatref01_Reader_Fix.f estreatref01_Reader_Take.f
 simp only [List.length_cons]
 rw [if_pos trivial, if_neg (by decide), if_pos (by decide), if_pos (by omega), if_pos (by omega), Option.bind_some]
 rfl
theorem rfix_b (x0 x1 x2 x3 x4 x5 x6 x7 : Int) (r : List Int) (hr : r.length ≤ 100000000) (h4 : B1 x4) (h5 : B1 x5) (h6 : B1 x6) (h7 : B1 x7) :
  estreatref01_Reader_Fix.f (x0 :: x1 :: x2 :: x3 :: x4 :: x5 :: x6 :: x7 :: r) 4 0 0 = some (((le4 x4 x5 x6 x7 : Nat) : Int), 8, 0, 0) := by
 unfold estreatref01_Reader_Fix.f estreatref01_Reader_Take.f
 simp only [List.length_cons]
 rw [if_pos trivial, if_neg (by decide), if_pos (by decide), if_pos (by omega), if_neg (by omega), if_pos (by omega), Option.bind_some]
 dsimp only
 rw [show (List.take (Int.toNat (4 + 4)) (x0 :: x1 :: x2 :: x3 :: x4 :: x5 :: x6 :: x7 :: r)).drop (Int.toNat 4) = [x4, x5, x6, x7] from rfl, rfixv_is x4 x5 x6 x7 h4 h5 h6 h7]
 rfl
theorem refget_tiny (k : Nat) (l : List Int) (hl : l.length < 4) : estreatref04_Get.f k l = some ([], 0, 2) := by
 unfold estreatref04_Get.f
 rw [rfix_tiny l hl, Option.bind_some]
 dsimp only
 rw [if_neg (by decide), rfix_err, Option.bind_some]
 dsimp only
 rw [rtake_err, Option.bind_some]
 dsimp only
 rw [if_neg (by decide)]
theorem refget_mid (k : Nat) (x0 x1 x2 x3 : Int) (t : List Int) (ht : t.length < 4) (h0 : B1 x0) (h1 : B1 x1) (h2 : B1 x2) (h3 : B1 x3) :
  estreatref04_Get.f k (x0 :: x1 :: x2 :: x3 :: t) = some ([], 0, if 16777216 < le4 x0 x1 x2 x3 then 12 else 2) := by
 unfold estreatref04_Get.f
 rw [rfix_a x0 x1 x2 x3 t (by omega) h0 h1 h2 h3, Option.bind_some]
 dsimp only
 by_cases q : 16777216 < le4 x0 x1 x2 x3
 ·rw [if_pos ⟨rfl, by omega⟩, if_pos q]
 ·rw [if_neg (fun h => q (by have := h.2; omega)), if_neg q, rfix_mid x0 x1 x2 x3 t ht, Option.bind_some]
  dsimp only
  rw [rtake_err, Option.bind_some]
  dsimp only
  rw [if_neg (by decide)]
theorem fix4_le4 (x0 x1 x2 x3 : Int) (h0 : B1 x0) (h1 : B1 x1) (h2 : B1 x2) (h3 : B1 x3) : fix4 (le4 x0 x1 x2 x3) = [x0, x1, x2, x3] := by
 obtain ⟨_, _⟩ := h0
 obtain ⟨_, _⟩ := h1
 obtain ⟨_, _⟩ := h2
 obtain ⟨_, _⟩ := h3
 unfold le4 fix4
 refine List.cons_eq_cons.2 ⟨by omega, List.cons_eq_cons.2 ⟨by omega, List.cons_eq_cons.2 ⟨by omega, List.cons_eq_cons.2 ⟨by omega, rfl⟩⟩⟩⟩
theorem refget_long (k : Nat) (x0 x1 x2 x3 x4 x5 x6 x7 : Int) (r : List Int) (h : Byte (x0 :: x1 :: x2 :: x3 :: x4 :: x5 :: x6 :: x7 :: r)) (hr : r.length ≤ 10000000) (hk : 10 * r.length + 100 < k) :
  estreatref04_Get.f k (x0 :: x1 :: x2 :: x3 :: x4 :: x5 :: x6 :: x7 :: r) = some (
   if 16777216 < le4 x0 x1 x2 x3 then ([], 0, 12) else if r.length < le4 x0 x1 x2 x3 then ([], 0, 2)
   else if le4 x4 x5 x6 x7 = (sum 0#32 ([x0, x1, x2, x3] ++ r.take (le4 x0 x1 x2 x3))).toNat then (r.take (le4 x0 x1 x2 x3), ((8 + le4 x0 x1 x2 x3 : Nat) : Int), 0) else ([], 0, 6)) := by
 have hb : ∀ x ∈ (x0 :: x1 :: x2 :: x3 :: x4 :: x5 :: x6 :: x7 :: r), B1 x := h
 have h0 := hb x0 (by simp)
 have h1 := hb x1 (by simp)
 have h2 := hb x2 (by simp)
 have h3 := hb x3 (by simp)
 have h4 := hb x4 (by simp)
 have h5 := hb x5 (by simp)
 have h6 := hb x6 (by simp)
 have h7 := hb x7 (by simp)
 have hR : Byte r := fun x hx => h x (by simp [hx])
 have hs : le4 x4 x5 x6 x7 < 4294967296 := by obtain ⟨_, _⟩ := h4; obtain ⟨_, _⟩ := h5; obtain ⟨_, _⟩ := h6; obtain ⟨_, _⟩ := h7; unfold le4; omega
 have hF : Byte [x0, x1, x2, x3] := fun x hx => hb x (by simp only [List.mem_cons, List.not_mem_nil, or_false] at hx ⊢; rcases hx with h | h | h | h <;> simp [h])
 have hfx := fix4_le4 x0 x1 x2 x3 h0 h1 h2 h3
 unfold estreatref04_Get.f
 rw [rfix_a x0 x1 x2 x3 (x4 :: x5 :: x6 :: x7 :: r) (by simp only [List.length_cons]; omega) h0 h1 h2 h3, Option.bind_some]
 dsimp only
 generalize hn : le4 x0 x1 x2 x3 = n at *
 by_cases q1 : 16777216 < n
 ·rw [if_pos ⟨rfl, by omega⟩, if_pos q1]
 ·rw [if_neg (fun h => q1 (by have := h.2; omega)), if_neg q1, rfix_b x0 x1 x2 x3 x4 x5 x6 x7 r (by omega) h4 h5 h6 h7, Option.bind_some]
  dsimp only
  have hw : wrap64 (n : Int) = (n : Int) := by unfold wrap64; omega
  rw [hw]
  by_cases q2 : r.length < n
  ·have ht : estreatref01_Reader_Take.f (x0 :: x1 :: x2 :: x3 :: x4 :: x5 :: x6 :: x7 :: r) 8 0 0 (n : Int) = some ([], 8, 2, 8) := by
    unfold estreatref01_Reader_Take.f
    simp only [List.length_cons]
    rw [if_pos trivial, if_neg (by omega), if_pos (by decide), if_pos (by omega), if_pos (by omega)]
   rw [ht, Option.bind_some, if_pos q2]
   dsimp only
   rw [if_neg (by decide)]
  ·have ht : estreatref01_Reader_Take.f (x0 :: x1 :: x2 :: x3 :: x4 :: x5 :: x6 :: x7 :: r) 8 0 0 (n : Int) = some (r.take n, ((8 + n : Nat) : Int), 0, 0) := by
    unfold estreatref01_Reader_Take.f
    simp only [List.length_cons]
    rw [if_pos trivial, if_neg (by omega), if_pos (by decide), if_pos (by omega), if_neg (by omega), if_pos (by omega)]
    rw [show ((8 : Int) + (n : Int)).toNat = 8 + n from by omega]
    rw [show (List.take (8 + n) (x0 :: x1 :: x2 :: x3 :: x4 :: x5 :: x6 :: x7 :: r)).drop (Int.toNat 8) = r.take n from by rw [show 8 + n = n + 1 + 1 + 1 + 1 + 1 + 1 + 1 + 1 from by omega]; rfl]
    rw [show (8 : Int) + (n : Int) = ((8 + n : Nat) : Int) from by omega]
   have hlen : (r.take n).length = n := by rw [List.length_take]; omega
   rw [ht, Option.bind_some, if_neg q2]
   dsimp only
   rw [if_pos rfl, reffix_is n (by omega) k (by omega), Option.bind_some, hfx]
   rw [if_pos (by rw [hlen]; simp only [List.length_cons, List.length_nil]; omega)]
   rw [show (0 : Int) = I 0#32 from rfl, refmore_is 0#32 _ (Byte.app hF (fun x hx => hR x (List.mem_of_mem_take hx))) (by rw [List.length_append, hlen]; simp only [List.length_cons, List.length_nil]; omega) k (by rw [List.length_append, hlen]; simp only [List.length_cons, List.length_nil]; omega), Option.bind_some]
   have e1 : ((le4 x4 x5 x6 x7 : Nat) : Int) % 4294967296 = ((le4 x4 x5 x6 x7 : Nat) : Int) := by omega
   rw [e1]
   by_cases q3 : le4 x4 x5 x6 x7 = (sum 0#32 ([x0, x1, x2, x3] ++ r.take n)).toNat
   ·rw [if_pos (by unfold I; exact_mod_cast q3.symm), if_pos q3]
   ·rw [if_neg (by unfold I; exact fun h => q3 (by exact_mod_cast h.symm)), if_neg q3]
theorem refget_is (k : Nat) (l : List Int) (h : Byte l) (hl : l.length ≤ 1000000) (hk : 10 * l.length + 100 < k) : estreatref04_Get.f k l = frame_Get.f l := by
 by_cases h8 : l.length < 8
 ·match l, h, h8 with
  | [], _, _ => rw [refget_tiny k _ (by decide), get_tiny _ (by decide)]
  | [_], _, _ => rw [refget_tiny k _ (by simp), get_tiny _ (by simp)]
  | [_, _], _, _ => rw [refget_tiny k _ (by simp), get_tiny _ (by simp)]
  | [_, _, _], _, _ => rw [refget_tiny k _ (by simp), get_tiny _ (by simp)]
  | x0 :: x1 :: x2 :: x3 :: t, h, hl =>
   have ht : t.length < 4 := by simp only [List.length_cons] at hl; omega
   rw [refget_mid k x0 x1 x2 x3 t ht (h _ (by simp)) (h _ (by simp)) (h _ (by simp)) (h _ (by simp)), get_mid x0 x1 x2 x3 t ht (h _ (by simp)) (h _ (by simp)) (h _ (by simp)) (h _ (by simp))]
 ·obtain ⟨x0, x1, x2, x3, x4, x5, x6, x7, r, rfl⟩ := cons8 l (by omega)
  simp only [List.length_cons] at hl hk
  rw [get_long x0 x1 x2 x3 x4 x5 x6 x7 r h (by omega), refget_long k x0 x1 x2 x3 x4 x5 x6 x7 r h (by omega) (by omega)]
end
end Go.Proofs.YtjmhiklmlgbifaaGreatDoor.FrameMath
