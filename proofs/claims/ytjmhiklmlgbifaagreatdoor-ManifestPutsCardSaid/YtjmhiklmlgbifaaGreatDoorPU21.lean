/- Texts of this proof, put into one, without what it does not use: CrcMath, FrameMath, MsA, MoA. -/
import Derived.Laws.BitsLemmas
import GoSem.Claim
import Derived.WalkKit
import Derived.Test.YtjmhiklmlgbifaaGreatDoorPU20
import Derived.Test.YtjmhiklmlgbifaaGreatDoorPU16
import Derived.Test.YtjmhiklmlgbifaaGreatDoorPU19
import Derived.OpenShut
import Derived.Deep.Slices
section
namespace Go.Proofs.YtjmhiklmlgbifaaGreatDoor.CrcMath
open Go.RowKit
theorem wf_u8 {x : Int} (h : (Lit.int .u8 x).wf = true) : 0 ≤ x ∧ x ≤ 255 := by
  simp [Lit.wf, IntKind.min, IntKind.max, IntKind.signed, IntKind.bits] at h
  omega
theorem wf_i64 {x : Int} (h : (Lit.int .i64 x).wf = true) : -9223372036854775808 ≤ x ∧ x ≤ 9223372036854775807 := by
  simp [Lit.wf, IntKind.min, IntKind.max, IntKind.signed, IntKind.bits] at h
  omega
def poly : BitVec 32 := 3988292384#32
def T (x : BitVec 32) : BitVec 32 := (x >>> 1) ^^^ (if x.getLsbD 0 then poly else 0#32)
def Tn : Nat → BitVec 32 → BitVec 32
  | 0, x => x
  | n + 1, x => T (Tn n x)
theorem Tn_succ' (n : Nat) (x : BitVec 32) : Tn (n + 1) x = Tn n (T x) := by
  induction n generalizing x with
  | zero => rfl
  | succ n ih => show T (Tn (n + 1) x) = T (Tn n (T x)); rw [ih]
theorem xor_shift (a b : BitVec 32) : (a ^^^ b) >>> 1 = (a >>> 1) ^^^ (b >>> 1) := by
  apply BitVec.eq_of_getLsbD_eq
  intro i _
  simp
theorem xor_four (a b p q : BitVec 32) : (a ^^^ b) ^^^ (p ^^^ q) = (a ^^^ p) ^^^ (b ^^^ q) := by
  apply BitVec.eq_of_getLsbD_eq
  intro i _
  simp only [BitVec.getLsbD_xor]
  cases a.getLsbD i <;> cases b.getLsbD i <;> cases p.getLsbD i <;> cases q.getLsbD i <;> rfl
theorem T_xor (a b : BitVec 32) : T (a ^^^ b) = T a ^^^ T b := by
  unfold T
  rw [xor_shift, BitVec.getLsbD_xor, xor_four]
  congr 1
  cases a.getLsbD 0 <;> cases b.getLsbD 0 <;> simp
theorem Tn_xor (n : Nat) (a b : BitVec 32) : Tn n (a ^^^ b) = Tn n a ^^^ Tn n b := by
  induction n with
  | zero => rfl
  | succ n ih => show T (Tn n (a ^^^ b)) = T (Tn n a) ^^^ T (Tn n b); rw [ih, T_xor]
def feed : Nat → BitVec 32 → Nat → BitVec 32
  | 0, v, _ => v
  | m + 1, v, c => feed m (T (v ^^^ BitVec.ofNat 32 (c % 2))) (c / 2)
theorem T_double (c : Nat) (h : 2 * c < 2 ^ 32) : T (BitVec.ofNat 32 (2 * c)) = BitVec.ofNat 32 c := by
  unfold T
  have h0 : (BitVec.ofNat 32 (2 * c)).getLsbD 0 = false := by rw [BitVec.getLsbD_ofNat]; simp
  rw [h0]
  apply BitVec.eq_of_toNat_eq
  simp only [Bool.false_eq_true, if_false, BitVec.xor_zero, BitVec.toNat_ushiftRight, BitVec.toNat_ofNat]
  rw [Nat.mod_eq_of_lt h, Nat.mod_eq_of_lt (by omega), Nat.shiftRight_eq_div_pow]
  omega
theorem ofNat_split (c : Nat) : BitVec.ofNat 32 c = BitVec.ofNat 32 (c % 2) ^^^ BitVec.ofNat 32 (2 * (c / 2)) := by
  apply BitVec.eq_of_getLsbD_eq
  intro i hi
  simp only [BitVec.getLsbD_xor, BitVec.getLsbD_ofNat, hi, decide_true, Bool.true_and]
  cases i with
  | zero =>
    have : (2 * (c / 2)).testBit 0 = false := by simp
    rw [this]
    simp
  | succ j =>
    have h1 : (c % 2).testBit (j + 1) = false := by
      rw [Nat.testBit_succ]
      have : c % 2 / 2 = 0 := by omega
      rw [this]
      simp
    have h2 : (2 * (c / 2)).testBit (j + 1) = c.testBit (j + 1) := by
      rw [Nat.testBit_succ, Nat.testBit_succ]
      congr 1
      omega
    rw [h1, h2]
    simp
theorem feed_eq (m : Nat) : ∀ (v : BitVec 32) (c : Nat), c < 2 ^ m → c < 2 ^ 32 → feed m v c = Tn m (v ^^^ BitVec.ofNat 32 c) := by
  induction m with
  | zero =>
    intro v c h _
    have : c = 0 := by simp at h; omega
    subst this
    simp [feed, Tn]
  | succ m ih =>
    intro v c h h32
    have hd : c / 2 < 2 ^ m := by
      have : 2 ^ (m + 1) = 2 * 2 ^ m := by rw [Nat.pow_succ]; omega
      omega
    show feed m (T (v ^^^ BitVec.ofNat 32 (c % 2))) (c / 2) = _
    rw [ih _ _ hd (by omega), Tn_succ']
    congr 1
    rw [← T_double (c / 2) (by omega), ← T_xor]
    congr 1
    rw [BitVec.xor_assoc, ← ofNat_split]
def step (v : BitVec 32) (c : Nat) : BitVec 32 := feed 8 v c
theorem step_eq (v : BitVec 32) (c : Nat) (h : c < 256) : step v c = Tn 8 (v ^^^ BitVec.ofNat 32 c) := feed_eq 8 v c h (by omega)
theorem Tn_shift (m : Nat) : ∀ (c : Nat), 2 ^ m * c < 2 ^ 32 → Tn m (BitVec.ofNat 32 (2 ^ m * c)) = BitVec.ofNat 32 c := by
  induction m with
  | zero => intro c _; simp [Tn]
  | succ m ih =>
    intro c h
    have hp : 2 ^ (m + 1) * c = 2 * (2 ^ m * c) := by rw [Nat.pow_succ, Nat.mul_comm (2 ^ m) 2, Nat.mul_assoc]
    rw [Tn_succ', hp, T_double _ (by omega)]
    exact ih c (by omega)
theorem split8 (x : BitVec 32) : x = BitVec.ofNat 32 (x.toNat % 256) ^^^ BitVec.ofNat 32 (2 ^ 8 * (x.toNat / 256)) := by
  have hx := x.isLt
  apply BitVec.eq_of_getLsbD_eq
  intro i hi
  simp only [BitVec.getLsbD_xor, BitVec.getLsbD_ofNat, hi, decide_true, Bool.true_and]
  rw [show x.getLsbD i = x.toNat.testBit i from rfl, show (256 : Nat) = 2 ^ 8 from rfl, Nat.testBit_mod_two_pow, Nat.testBit_two_pow_mul, Nat.testBit_div_two_pow]
  by_cases h8 : i < 8
  · simp [h8, show ¬ i ≥ 8 from by omega]
  · simp [h8, show i ≥ 8 from by omega, show i - 8 + 8 = i from by omega]
/-- The table's step. -/
theorem table_step (x : BitVec 32) : Tn 8 x = BitVec.ofNat 32 (x.toNat / 256) ^^^ Tn 8 (BitVec.ofNat 32 (x.toNat % 256)) := by
  have hx := x.isLt
  have h : Tn 8 (BitVec.ofNat 32 (2 ^ 8 * (x.toNat / 256))) = BitVec.ofNat 32 (x.toNat / 256) := Tn_shift 8 _ (by omega)
  calc Tn 8 x = Tn 8 (BitVec.ofNat 32 (x.toNat % 256) ^^^ BitVec.ofNat 32 (2 ^ 8 * (x.toNat / 256))) := by rw [← split8 x]
    _ = _ := by rw [Tn_xor, h, BitVec.xor_comm]
def bitI (v : Int) : Int := if Go.bits .and .u32 v 1 = 1 then Go.bits .xor .u32 (v / 2) 3988292384 else v / 2
def bitsI : Nat → Int → Int
  | 0, v => v
  | n + 1, v => bitI (bitsI n v)
def stepI (v c : Int) : Int := Go.bits .xor .u32 (v / 256) (bitsI 8 (Go.bits .xor .u8 (v % 256) c))
def I (x : BitVec 32) : Int := (x.toNat : Int)
theorem I_range (x : BitVec 32) : 0 ≤ I x ∧ I x < 4294967296 := by have := x.isLt; unfold I; omega
theorem xor_I (x y : BitVec 32) : Go.bits .xor .u32 (I x) (I y) = I (x ^^^ y) := by
  unfold Go.bits I
  simp only [IntKind.wrap_u32]
  have e : ∀ z : BitVec 32, BitVec.ofInt IntKind.u32.bits (z.toNat : Int) = z := fun z => by
    apply BitVec.eq_of_toNat_eq
    rw [BitVec.ofInt_natCast, BitVec.toNat_ofNat]
    exact Nat.mod_eq_of_lt z.isLt
  rw [e x, e y]
  have := (x ^^^ y).isLt
  show (((x ^^^ y).toNat : Nat) : Int) % 4294967296 = _
  omega
theorem and1_I (x : BitVec 32) : Go.bits .and .u32 (I x) 1 = if x.getLsbD 0 then 1 else 0 := by
  unfold Go.bits I
  simp only [IntKind.wrap_u32]
  have e : BitVec.ofInt IntKind.u32.bits (x.toNat : Int) = x := by
    apply BitVec.eq_of_toNat_eq
    rw [BitVec.ofInt_natCast, BitVec.toNat_ofNat]
    exact Nat.mod_eq_of_lt x.isLt
  have e1 : BitVec.ofInt IntKind.u32.bits (1 : Int) = 1#32 := rfl
  rw [e, e1]
  show (((x &&& 1#32).toNat : Nat) : Int) % 4294967296 = _
  have : (x &&& 1#32).toNat = if x.getLsbD 0 then 1 else 0 := by
    rw [BitVec.toNat_and]
    show x.toNat &&& 1 = if x.toNat.testBit 0 then 1 else 0
    rw [Nat.and_one_is_mod, Nat.testBit_zero]
    by_cases h : x.toNat % 2 = 1
    · simp [h]
    · have : x.toNat % 2 = 0 := by omega
      simp [this]
  rw [this]
  cases x.getLsbD 0 <;> rfl
theorem half_I (x : BitVec 32) : I x / (2 : Int) = I (x >>> (1 : Nat)) := by
  unfold I
  rw [BitVec.toNat_ushiftRight, Nat.shiftRight_eq_div_pow]
  omega
theorem poly_I : (3988292384 : Int) = I poly := rfl
theorem bitI_eq (x : BitVec 32) : bitI (I x) = I (T x) := by
  unfold bitI T
  rw [and1_I, half_I, poly_I, xor_I]
  cases x.getLsbD 0 with
  | true => simp
  | false => simp
theorem bitsI_eq (n : Nat) (x : BitVec 32) : bitsI n (I x) = I (Tn n x) := by
  induction n with
  | zero => rfl
  | succ n ih => show bitI (bitsI n (I x)) = I (T (Tn n x)); rw [ih, bitI_eq]
theorem xor8_I (x : BitVec 32) (c : Nat) (h : c < 256) : Go.bits .xor .u8 (I x % 256) c = I (BitVec.ofNat 32 ((x ^^^ BitVec.ofNat 32 c).toNat % 256)) := by
  unfold Go.bits I
  simp only [IntKind.wrap_u8]
  have hx := x.isLt
  have e1 : BitVec.ofInt IntKind.u8.bits ((x.toNat : Int) % 256) = BitVec.ofNat 8 (x.toNat % 256) := by
    rw [show (x.toNat : Int) % 256 = ((x.toNat % 256 : Nat) : Int) from by omega, BitVec.ofInt_natCast]
    rfl
  have e2 : BitVec.ofInt IntKind.u8.bits (c : Int) = BitVec.ofNat 8 c := by rw [BitVec.ofInt_natCast]; rfl
  rw [e1, e2]
  show (((BitVec.ofNat 8 (x.toNat % 256) ^^^ BitVec.ofNat 8 c).toNat : Nat) : Int) % 256 = _
  rw [BitVec.toNat_xor, BitVec.toNat_ofNat, BitVec.toNat_ofNat, BitVec.toNat_ofNat, BitVec.toNat_xor, BitVec.toNat_ofNat]
  rw [show (2 : Nat) ^ 8 = 256 from rfl, Nat.mod_mod, Nat.mod_eq_of_lt h, Nat.mod_eq_of_lt (show c < 2 ^ 32 from by omega)]
  have hm : (x.toNat ^^^ c) % 256 = (x.toNat % 256) ^^^ c := by
    have := Nat.xor_mod_two_pow (a := x.toNat) (b := c) (n := 8)
    rw [show (2 : Nat) ^ 8 = 256 from rfl] at this
    rw [this, Nat.mod_eq_of_lt h]
  rw [hm]
  have hl : (x.toNat % 256) ^^^ c < 256 := Nat.xor_lt_two_pow (n := 8) (by omega) h
  rw [Nat.mod_eq_of_lt (show (x.toNat % 256) ^^^ c < 2 ^ 32 from by omega)]
  omega
theorem div256_xor (x : BitVec 32) (c : Nat) (h : c < 256) : (x ^^^ BitVec.ofNat 32 c).toNat / 256 = x.toNat / 256 := by
  rw [BitVec.toNat_xor, BitVec.toNat_ofNat, Nat.mod_eq_of_lt (show c < 2 ^ 32 from by omega), show (256 : Nat) = 2 ^ 8 from rfl, Nat.xor_div_two_pow]
  rw [Nat.div_eq_of_lt (show c < 2 ^ 8 from h)]
  simp
/-- The program's step is the step bit by bit. -/
theorem stepI_eq (x : BitVec 32) (c : Nat) (h : c < 256) : stepI (I x) c = I (step x c) := by
  have hx := x.isLt
  unfold stepI
  rw [xor8_I x c h, bitsI_eq, step_eq x c h, table_step (x ^^^ BitVec.ofNat 32 c), div256_xor x c h]
  rw [← xor_I]
  congr 1
  unfold I
  rw [BitVec.toNat_ofNat, Nat.mod_eq_of_lt (by omega)]
  omega
def fold (v : BitVec 32) (l : List Nat) : BitVec 32 := l.foldl step v
def bytes (l : List Int) : List Nat := l.map Int.toNat
def Byte (l : List Int) : Prop := ∀ x ∈ l, 0 ≤ x ∧ x < 256
theorem foldI_eq (l : List Int) (h : Byte l) : ∀ x : BitVec 32, l.foldl stepI (I x) = I (fold x (bytes l)) := by
  induction l with
  | nil => intro x; rfl
  | cons c l ih =>
    intro x
    have hc := h c (List.mem_cons_self ..)
    have e : c = ((c.toNat : Nat) : Int) := by omega
    show l.foldl stepI (stepI (I x) c) = I (fold (step x c.toNat) (bytes l))
    rw [e, stepI_eq x c.toNat (by omega), Int.toNat_natCast]
    exact ih (fun y hy => h y (List.mem_cons_of_mem _ hy)) _
def ones : BitVec 32 := 4294967295#32
theorem max_I : IntKind.u32.max = I ones := by decide
/-- The sum that goes on from another. -/
def sum (s : BitVec 32) (l : List Int) : BitVec 32 := ones ^^^ fold (ones ^^^ s) (bytes l)
theorem moreI_eq (s : BitVec 32) (l : List Int) (h : Byte l) : Go.bits .xor .u32 IntKind.u32.max (l.foldl stepI (Go.bits .xor .u32 IntKind.u32.max (I s))) = I (sum s l) := by
  rw [max_I, xor_I, foldI_eq l h, xor_I]
  rfl
theorem fold_append (v : BitVec 32) (a b : List Nat) : fold v (a ++ b) = fold (fold v a) b := by simp [fold]
theorem sum_append (s : BitVec 32) (a b : List Int) : sum (sum s a) b = sum s (a ++ b) := by
  unfold sum
  rw [← BitVec.xor_assoc, BitVec.xor_self, BitVec.zero_xor]
  simp [bytes, fold_append]
theorem Byte.at_ {l : List Int} (h : Byte l) (i : Nat) (hi : i < l.length) : ∃ n : Nat, l[i] = (n : Int) ∧ n < 256 := by
  have := h l[i] (List.getElem_mem hi)
  exact ⟨l[i].toNat, by omega, by omega⟩
theorem wrap_nat (n : Nat) (h : n < 4611686018427387904) : wrap64 (n : Int) = (n : Int) := by unfold wrap64; omega
theorem wrap_next (n : Nat) (h : n < 4611686018427387903) : wrap64 ((n : Int) + 1) = ((n + 1 : Nat) : Int) := wrap_nat (n + 1) (by omega)
theorem wrap_u64 (x : Int) (h0 : 0 ≤ x) (h1 : x < 18446744073709551616) : IntKind.u64.wrap x = x := by
  simp [IntKind.wrap, IntKind.bits, IntKind.signed]
  omega
theorem div256 (q : Nat) (h : q < 549755813888) : IntKind.u64.wrap (Int.tdiv (q : Int) 256) = ((q / 256 : Nat) : Int) := by
  rw [Int.tdiv_eq_ediv_of_nonneg (by omega), wrap_u64 _ (by omega) (by omega)]
  omega
theorem mod256 (q : Nat) : (Int.tmod (q : Int) 256) % 256 = ((q % 256 : Nat) : Int) := by
  rw [Int.tmod_eq_emod_of_nonneg (by omega)]
  omega
end Go.Proofs.YtjmhiklmlgbifaaGreatDoor.CrcMath
end
section
namespace Go.Proofs.YtjmhiklmlgbifaaGreatDoor.FrameMath
open Go.RowKit Go.Proofs.YtjmhiklmlgbifaaGreatDoor.PMan Go.Proofs.YtjmhiklmlgbifaaGreatDoorW.PrintWords Go.Proofs.YtjmhiklmlgbifaaGreatDoorW.PrintLast
open Go.Proofs.YtjmhiklmlgbifaaGreatDoor.CrcMath
theorem bits_same (n : Nat) (v : Int) : crc_bits n v = bitsI n v := by
  induction n with
  | zero => rfl
  | succ n ih => show crc_bit (crc_bits n v) = bitI (bitsI n v); rw [ih]; rfl
theorem step_same : crc_step = stepI := by
  funext v c
  unfold crc_step stepI
  rw [bits_same]
theorem more_is (s : BitVec 32) (l : List Int) (h : Byte l) : crc_More.f (I s) l = some (I (sum s l)) := by
  unfold crc_More.f
  rw [step_same, moreI_eq s l h]
theorem sum_is (l : List Int) (h : Byte l) : crc_Sum.f l = some (I (sum 0#32 l)) := by
  unfold crc_Sum.f
  rw [show (0 : Int) = I 0#32 from rfl, more_is 0#32 l h]
  rfl
def fix4 (n : Nat) : List Int := [((n % 256 : Nat) : Int), ((n / 256 % 256 : Nat) : Int), ((n / 65536 % 256 : Nat) : Int), ((n / 16777216 % 256 : Nat) : Int)]
theorem fix4_length (n : Nat) : (fix4 n).length = 4 := rfl
theorem fix4_byte (n : Nat) : Byte (fix4 n) := by
  intro x hx
  simp only [fix4, List.mem_cons, List.not_mem_nil, or_false] at hx
  omega
theorem putfix_is (l : List Int) (n : Nat) (hl : l.length ≤ 1000) (k : Nat) (hk : 5 ≤ k) : num_PutFix.f k l (n : Int) 4 = some (l ++ fix4 n) := by
  obtain ⟨k, rfl⟩ : ∃ m, k = m + 1 + 1 + 1 + 1 + 1 := ⟨k - 5, by omega⟩
  unfold num_PutFix.f
  rw [show mx 0 (mn 4 8) = (4 : Int) from by decide]
  have e0 : wrap64 (0 + 1) = 1 := by decide +kernel
  have e1 : wrap64 (1 + 1) = 2 := by decide +kernel
  have e2 : wrap64 (2 + 1) = 3 := by decide +kernel
  have e3 : wrap64 (3 + 1) = 4 := by decide +kernel
  rw [num_PutFix.l0, if_pos (by decide), if_pos (by omega), e0]
  rw [num_PutFix.l0, if_pos (by decide), if_pos (by simp; omega), e1]
  rw [num_PutFix.l0, if_pos (by decide), if_pos (by simp; omega), e2]
  rw [num_PutFix.l0, if_pos (by decide), if_pos (by simp; omega), e3]
  rw [num_PutFix.l0, if_neg (by decide)]
  congr 1
  simp only [List.append_assoc, List.cons_append, List.nil_append, fix4]
  congr 1
  refine List.cons_eq_cons.2 ⟨by omega, List.cons_eq_cons.2 ⟨by omega, List.cons_eq_cons.2 ⟨by omega, List.cons_eq_cons.2 ⟨by omega, rfl⟩⟩⟩⟩
theorem reffix_is (n : Nat) (hn : n < 4294967296) (k : Nat) (hk : 5 ≤ k) : estreatref01_Fix.f k (n : Int) 4 = some (fix4 n) := by
  obtain ⟨k, rfl⟩ : ∃ m, k = m + 1 + 1 + 1 + 1 + 1 := ⟨k - 5, by omega⟩
  unfold estreatref01_Fix.f
  have e0 : wrap64 (0 + 1) = 1 := by decide +kernel
  have e1 : wrap64 (1 + 1) = 2 := by decide +kernel
  have e2 : wrap64 (2 + 1) = 3 := by decide +kernel
  have e3 : wrap64 (3 + 1) = 4 := by decide +kernel
  have d (q : Nat) (hq : q < 549755813888) := div256 q hq
  have m (q : Nat) := mod256 q
  rw [estreatref01_Fix.l0, if_pos (by decide), if_pos (by decide), if_pos (by decide), e0, m, d n (by omega)]
  rw [estreatref01_Fix.l0, if_pos (by decide), if_pos (by decide), if_pos (by simp), e1, m, d _ (by omega)]
  rw [estreatref01_Fix.l0, if_pos (by decide), if_pos (by decide), if_pos (by simp), e2, m, d _ (by omega)]
  rw [estreatref01_Fix.l0, if_pos (by decide), if_pos (by decide), if_pos (by simp), e3, m, d _ (by omega)]
  rw [estreatref01_Fix.l0, if_neg (by decide)]
  congr 1
  simp only [List.cons_append, List.nil_append, fix4]
  refine List.cons_eq_cons.2 ⟨by omega, List.cons_eq_cons.2 ⟨by omega, List.cons_eq_cons.2 ⟨by omega, List.cons_eq_cons.2 ⟨by omega, rfl⟩⟩⟩⟩
def fsum (l : List Int) : BitVec 32 := sum 0#32 (fix4 l.length ++ l)
def frameP (l : List Int) : List Int := fix4 l.length ++ (fix4 (fsum l).toNat ++ l)
theorem frameP_length (l : List Int) : (frameP l).length = 8 + l.length := by simp [frameP, fix4_length]; omega
theorem Byte.app {a b : List Int} (ha : Byte a) (hb : Byte b) : Byte (a ++ b) := fun x hx => (List.mem_append.1 hx).elim (ha x) (hb x)
theorem wrapI (x : BitVec 32) : IntKind.u64.wrap (I x) = ((x.toNat : Nat) : Int) := by
  have := x.isLt
  unfold I
  rw [wrap_u64 _ (by omega) (by omega)]
theorem put_is (l : List Int) (h : Byte l) (hl : l.length ≤ 16777216) (k : Nat) (hk : 5 ≤ k) : frame_Put.f k l = some (frameP l, 0) := by
  unfold frame_Put.f
  rw [if_neg (by omega), wrap_u64 _ (by omega) (by omega), putfix_is [] l.length (by simp) k hk]
  simp only [Option.bind_some, List.nil_append]
  rw [sum_is _ (fix4_byte _)]
  simp only [Option.bind_some]
  rw [more_is _ _ h, sum_append]
  simp only [Option.bind_some]
  rw [wrapI, putfix_is _ _ (by rw [fix4_length]; omega) k hk]
  simp only [Option.bind_some]
  rw [if_pos (by rw [List.length_append, fix4_length, fix4_length]; omega), List.append_assoc]
  rfl
theorem same_is (l : List Int) (hl : l.length ≤ 140737488351232) (n : Nat) : ∀ (k i : Nat), i + n = l.length → n < k → estreatref01_Same.l0 k l l (i : Int) = some true := by
  induction n with
  | zero =>
    intro k i hi hk
    obtain ⟨k, rfl⟩ : ∃ m, k = m + 1 := ⟨k - 1, by omega⟩
    rw [estreatref01_Same.l0, if_neg (by omega)]
  | succ n ih =>
    intro k i hi hk
    obtain ⟨k, rfl⟩ : ∃ m, k = m + 1 := ⟨k - 1, by omega⟩
    rw [estreatref01_Same.l0, if_pos (by omega), if_pos (by omega), if_pos (by omega), if_pos rfl, wrap_next i (by omega)]
    exact ih k (i + 1) (by omega) (by omega)
theorem same_self (l : List Int) (hl : l.length ≤ 140737488351232) (k : Nat) (hk : l.length < k) : estreatref01_Same.f k l l = some true := by
  unfold estreatref01_Same.f
  rw [if_pos rfl, show (0 : Int) = ((0 : Nat) : Int) from rfl]
  exact same_is l hl l.length k 0 (by omega) hk
theorem compl_I (x : BitVec 32) : (4294967295 - I x) % 4294967296 = I (ones ^^^ x) := by
  have h : ones ^^^ x = ~~~x := by
    rw [show ones = BitVec.allOnes 32 from by decide]
    exact BitVec.allOnes_xor
  rw [h]
  have hx := x.isLt
  unfold I
  rw [BitVec.toNat_not]
  omega
theorem take_is (x : BitVec 32) (c : Nat) : estreatref03_take.f (I x) (Int.tmod (c : Int) 2) = some (I (T (x ^^^ BitVec.ofNat 32 (c % 2)))) := by
  have hx := x.isLt
  have e1 : Int.tmod (I x) 2 = ((x.toNat % 2 : Nat) : Int) := by unfold I; rw [Int.tmod_eq_emod_of_nonneg (by omega)]; omega
  have e2 : Int.tmod (c : Int) 2 = ((c % 2 : Nat) : Int) := by rw [Int.tmod_eq_emod_of_nonneg (by omega)]; omega
  have e3 : (Int.tdiv (I x) 2) % 4294967296 = I (x >>> (1 : Nat)) := by
    rw [← half_I]
    have := I_range x
    rw [Int.tdiv_eq_ediv_of_nonneg (by omega)]
    omega
  unfold estreatref03_take.f
  rw [e1, e2, e3, poly_I, xor_I]
  unfold T
  have hs : (x ^^^ BitVec.ofNat 32 (c % 2)) >>> (1 : Nat) = x >>> (1 : Nat) := by
    apply BitVec.eq_of_toNat_eq
    rw [BitVec.toNat_ushiftRight, BitVec.toNat_ushiftRight, BitVec.toNat_xor, BitVec.toNat_ofNat, Nat.mod_eq_of_lt (show c % 2 < 2 ^ 32 from by omega), Nat.shiftRight_eq_div_pow, Nat.shiftRight_eq_div_pow, Nat.xor_div_two_pow, Nat.div_eq_of_lt (show c % 2 < 2 ^ 1 from by omega)]
    simp
  have hl : (x ^^^ BitVec.ofNat 32 (c % 2)).getLsbD 0 = decide (¬ x.toNat % 2 = c % 2) := by
    rw [BitVec.getLsbD_xor, BitVec.getLsbD_ofNat]
    show (x.toNat.testBit 0 ^^ _) = _
    rw [Nat.testBit_zero, Nat.testBit_zero]
    have h1 : x.toNat % 2 = 0 ∨ x.toNat % 2 = 1 := by omega
    have h2 : c % 2 = 0 ∨ c % 2 = 1 := by omega
    rcases h1 with h1 | h1 <;> rcases h2 with h2 | h2 <;> simp [h1, h2]
  rw [hs, hl]
  by_cases h : x.toNat % 2 = c % 2
  · rw [if_pos (by exact_mod_cast h)]
    simp [h]
  · rw [if_neg (by exact_mod_cast h)]
    simp [h]
theorem inner (l : List Int) (i : Int) (d : Nat) : ∀ (k : Nat) (v : BitVec 32) (c : Nat) (x8 : Int), 0 ≤ x8 → 8 - x8 = d → c < 4294967296 →
    estreatref03_More.l1 (k + d + 1) l (I v) i c x8 = estreatref03_More.l0 k l (I (feed d v c)) (wrap64 (i + 1)) := by
  induction d with
  | zero =>
    intro k v c x8 h0 hd hc
    simp only [estreatref03_More.l1]
    rw [if_neg (by omega)]
    rfl
  | succ d ih =>
    intro k v c x8 h0 hd hc
    rw [show k + (d + 1) + 1 = (k + d + 1) + 1 from by omega]
    simp only [estreatref03_More.l1]
    rw [if_pos (by omega), take_is v c]
    simp only [Option.bind_some]
    have e : (Int.tdiv (c : Int) 2) % 4294967296 = ((c / 2 : Nat) : Int) := by rw [Int.tdiv_eq_ediv_of_nonneg (by omega)]; omega
    have e8 : wrap64 (x8 + 1) = x8 + 1 := by unfold wrap64; omega
    rw [e, e8]
    exact ih k _ _ _ (by omega) (by omega) (by omega)
theorem ref_is (l : List Int) (h : Byte l) (hl : l.length ≤ 140737488351232) (n : Nat) : ∀ (k : Nat) (v : BitVec 32) (i : Nat), i + n = l.length → 10 * n < k →
    estreatref03_More.l0 k l (I v) i = some (I (ones ^^^ fold v (CrcMath.bytes (l.drop i)))) := by
  induction n with
  | zero =>
    intro k v i hi hk
    obtain ⟨k, rfl⟩ : ∃ m, k = m + 1 := ⟨k - 1, by omega⟩
    simp only [estreatref03_More.l0]
    rw [if_neg (by omega), compl_I, List.drop_of_length_le (by omega)]
    rfl
  | succ n ih =>
    intro k v i hi hk
    obtain ⟨k, rfl⟩ : ∃ m, k = m + 8 + 1 + 1 := ⟨k - 10, by omega⟩
    have hlt : i < l.length := by omega
    have hr : rd l i = l[i] := by simp [rd, hlt]
    have hb := h l[i] (List.getElem_mem hlt)
    simp only [estreatref03_More.l0]
    rw [if_pos (by omega), if_pos (by omega), hr]
    have e : l[i] % 4294967296 = ((l[i].toNat : Nat) : Int) := by omega
    rw [e, inner l i 8 k v l[i].toNat 0 (by omega) (by omega) (by omega)]
    have ei : wrap64 ((i : Int) + 1) = ((i + 1 : Nat) : Int) := by unfold wrap64; omega
    rw [ei, ih k _ (i + 1) (by omega) (by omega)]
    have ed : l.drop i = l[i] :: l.drop (i + 1) := List.drop_eq_getElem_cons hlt
    rw [ed]
    rfl
theorem refmore_is (s : BitVec 32) (l : List Int) (h : Byte l) (hl : l.length ≤ 140737488351232) (k : Nat) (hk : 10 * l.length < k) : estreatref03_More.f k (I s) l = some (I (sum s l)) := by
  unfold estreatref03_More.f
  rw [compl_I, show (0 : Int) = ((0 : Nat) : Int) from rfl, ref_is l h hl l.length k _ 0 (by omega) hk, List.drop_zero]
  rfl
theorem refput_is (l : List Int) (h : Byte l) (hl : l.length ≤ 16777216) (k : Nat) (hk : 10 * l.length + 60 < k) : estreatref04_Put.f k l = some (frameP l) := by
  unfold estreatref04_Put.f
  rw [wrap_u64 _ (by omega) (by omega), reffix_is _ (by omega) k (by omega)]
  simp only [Option.bind_some, List.nil_append, List.length_nil]
  rw [if_pos (by rw [fix4_length]; omega), if_pos (by rw [fix4_length]; omega), show (0 : Int) = I 0#32 from rfl, refmore_is 0#32 _ (Byte.app (fix4_byte _) h) (by rw [List.length_append, fix4_length]; omega) k (by rw [List.length_append, fix4_length]; omega)]
  simp only [Option.bind_some]
  rw [wrapI, reffix_is _ (by have := (sum 0#32 (fix4 l.length ++ l)).isLt; omega) k (by omega)]
  simp only [Option.bind_some]
  rw [if_pos (by rw [fix4_length, fix4_length]; omega), if_pos (by rw [List.length_append, fix4_length, fix4_length]; omega), List.append_assoc]
  rfl
end Go.Proofs.YtjmhiklmlgbifaaGreatDoor.FrameMath
end
section
namespace Go.Proofs.YtjmhiklmlgbifaaGreatDoor.PMan
open Go.RowKit Go.Proofs.YtjmhiklmlgbifaaGreatDoorW.PrintWords Go.Proofs.YtjmhiklmlgbifaaGreatDoorW.PrintLast Go.Proofs.YtjmhiklmlgbifaaGreatDoorW.PrintMore
open Go.Proofs.YtjmhiklmlgbifaaGreatDoor.CrcMath Go.Proofs.YtjmhiklmlgbifaaGreatDoor.FrameMath
set_option linter.unusedVariables false
set_option linter.unusedSimpArgs false
def ones (l : List UInt8) : ByteArray := ⟨l.toArray⟩
theorem ones_app (a b : List UInt8) : ones a ++ ones b = ones (a ++ b) := by
  apply ByteArray.ext
  simp [ones]
theorem ones_size (a : List UInt8) : (ones a).size = a.length := by simp [ones, ByteArray.size]
/-- The digits ahead of the last one. -/
def preD (u : Nat) : List UInt8 := if u < 10 then [] else Lib.decDigits (u / 10)
theorem preD_app (u : Nat) : preD u ++ [UInt8.ofNat (48 + u % 10)] = Lib.decDigits u := by
  unfold preD
  by_cases h : u < 10
  · rw [if_pos h, Lib.decDigits, dif_pos h, Nat.mod_eq_of_lt h]
    rfl
  · rw [if_neg h]
    conv => rhs; rw [Lib.decDigits]
    rw [dif_neg h]
theorem digit_is (u : Nat) (h : u < 10000000000000) : strOfNums ([(wrap64 (48 + (Int.tmod (u : Int) 10))) % 256] : List Int) = ones [UInt8.ofNat (48 + u % 10)] := by
  have e1 : Int.tmod (u : Int) 10 = ((u % 10 : Nat) : Int) := by rw [Int.tmod_eq_emod_of_nonneg (by omega)]; omega
  have e2 : wrap64 (48 + ((u % 10 : Nat) : Int)) = ((48 + u % 10 : Nat) : Int) := by unfold wrap64; omega
  rw [e1, e2, show ((48 + u % 10 : Nat) : Int) % 256 = ((48 + u % 10 : Nat) : Int) by omega]
  unfold strOfNums ones
  simp only [List.map_cons, List.map_nil, Int.toNat_natCast]
theorem text_l0 : ∀ (u : Nat) (s : List UInt8) (e : Nat), u + s.length < 10000000000000 → estreatref01_Text.l0 (u + 1 + e) (u : Int) (ones s) = some (ones (preD u ++ s)) := by
  intro u
  induction u using Nat.strongRecOn with
  | ind u ih =>
    intro s e hb
    rw [show u + 1 + e = (u + e) + 1 by omega, estreatref01_Text.l0]
    by_cases h : u < 10
    · rw [if_neg (by omega), preD, if_pos h]
      rfl
    · have e1 : Int.tdiv (u : Int) 10 = ((u / 10 : Nat) : Int) := by rw [Int.tdiv_eq_ediv_of_nonneg (by omega)]; omega
      have e2 : wrap64 ((u / 10 : Nat) : Int) = ((u / 10 : Nat) : Int) := by unfold wrap64; omega
      rw [if_pos (by omega), e1, e2, Option.bind_some, digit_is (u / 10) (by omega), ones_app, if_pos (by rw [ones_size, ones_size]; simp only [List.length_singleton]; omega), show u + e = u / 10 + 1 + (u - u / 10 - 1 + e) by omega, ih (u / 10) (by omega) _ _ (by simp only [List.length_append, List.length_singleton]; omega), ← List.append_assoc, preD_app]
      rw [show preD u = Lib.decDigits (u / 10) by unfold preD; rw [if_neg h]]
theorem text_p (n : Int) (h0 : 0 ≤ n) (h1 : n ≤ 1099511627776) : estreatref01_Text.f (n.toNat + 2) n = some (ones (Lib.itoa n)) := by
  obtain ⟨u, rfl⟩ : ∃ u : Nat, n = (u : Int) := ⟨n.toNat, by omega⟩
  rw [show ((u : Int)).toNat + 2 = (u + 1 + 0) + 1 by omega, estreatref01_Text.f, if_neg (by omega), digit_is u (by omega), text_l0 u _ 0 (by simp only [List.length_singleton]; omega), preD_app, Lib.itoa_nonneg]
/-- What the values of a manifest are by their kinds. -/
structure MnT (m : Mn) : Prop where
  l : ∀ r ∈ m.loose, ∀ v ∈ r, -9223372036854775808 ≤ v.f1 ∧ v.f1 ≤ 9223372036854775807
  g : ∀ g ∈ m.groups, Byte g.hd.dead ∧ Byte g.dead ∧ ∀ c ∈ g.hd.cols, (-9223372036854775808 ≤ c.z.f2.f1 ∧ c.z.f2.f1 ≤ 9223372036854775807) ∧ (-9223372036854775808 ≤ c.z.f3.f1 ∧ c.z.f3.f1 ≤ 9223372036854775807) ∧ Byte c.h
  e : ∀ x ∈ m.entries, Byte x.s ∧ Byte x.r
/-- How long a manifest's digests are. -/
structure MnL (m : Mn) : Prop where
  g : ∀ g ∈ m.groups, g.hd.dead.length = 32 ∧ ∀ c ∈ g.hd.cols, c.h.length = 32
  e : ∀ x ∈ m.entries, x.s.length = 32 ∧ x.r.length = 32
theorem MnC.len {w : World} {m : Mn} {As Ag Al Ae : Option Addr} {cs cg cl ce : Nat} (h : MnC w m As cs Ag cg Al cl Ae ce) : MnL m := by
  refine ⟨fun g hg => ?_, fun x hx => ?_⟩
  · obtain ⟨cs, hK⟩ := C_each h.g g hg (by decide)
    obtain ⟨A, c, B, d, rfl, h32, hc, hC, hd, hD⟩ := kRf_open hK
    refine ⟨h32, fun c hc => ?_⟩
    obtain ⟨cs, hK⟩ := C_each hC c hc (by decide)
    exact (kCH_open hK).2
  · obtain ⟨cs, hK⟩ := C_each h.e x hx (by decide)
    exact (kEn_open hK).2
theorem getD_of_mem {α : Type} {l : List α} {x : α} (d : α) (h : x ∈ l) : ∃ t, t < l.length ∧ l.getD t d = x := by
  obtain ⟨i, hi, rfl⟩ := List.getElem_of_mem h
  exact ⟨i, hi, by rw [List.getD_eq_getElem?_getD, List.getElem?_eq_getElem hi]; rfl⟩
theorem Small.vals {m : Mn} (hs : Small m) : (∀ r ∈ m.loose, r.length ≤ 70 ∧ ∀ v ∈ r, v.f2.size ≤ 60) ∧ ∀ g ∈ m.groups, g.hd.cols.length ≤ 70 ∧ g.dead.length ≤ 100 ∧ ∀ c ∈ g.hd.cols, c.z.f2.f2.size ≤ 60 ∧ c.z.f3.f2.size ≤ 60 := by
  refine ⟨fun r hr => ?_, fun g hg => ?_⟩
  · obtain ⟨t, ht, rfl⟩ := getD_of_mem [] hr
    refine ⟨(hs.l t ht).1, fun v hv => ?_⟩
    obtain ⟨u, hu, rfl⟩ := getD_of_mem z68 hv
    exact (hs.l t ht).2 u hu
  · obtain ⟨t, ht, rfl⟩ := getD_of_mem zRf hg
    refine ⟨(hs.g t ht).1, (hs.g t ht).2.1, fun c hc => ?_⟩
    obtain ⟨u, hu, rfl⟩ := getD_of_mem zCH hc
    exact (hs.g t ht).2.2 u hu
theorem MnT.ok {m : Mn} (h : MnT m) (hs : Small m) : MnOk m := by
  obtain ⟨h1, h2⟩ := hs.vals
  exact ⟨fun r hr v hv => ⟨h.l r hr v hv, by have := (h1 r hr).2 v hv; omega⟩, fun g hg c hc => ⟨⟨((h.g g hg).2.2 c hc).1, by have := ((h2 g hg).2.2 c hc).1; omega⟩, ⟨((h.g g hg).2.2 c hc).2.1, by have := ((h2 g hg).2.2 c hc).2; omega⟩⟩⟩
theorem varN_byte : ∀ (n : Nat) (x : Int), Byte (varN n x)
  | 0, x => fun y hy => by
    rw [varN, List.mem_singleton] at hy
    subst hy
    omega
  | n + 1, x => fun y hy => by
    rw [varN] at hy
    split at hy
    · rcases List.mem_cons.1 hy with rfl | hy
      · rw [or128 (x % 256) (by omega) (by omega)]
        omega
      · exact varN_byte n _ y hy
    · rw [List.mem_singleton] at hy
      subst hy
      omega
theorem varP_byte (x : Int) : Byte (varP x) := varN_byte 9 x
theorem txtP_byte (s : ByteArray) : Byte (txtP s) := fun y hy => by
  unfold txtP at hy
  obtain ⟨b, _, rfl⟩ := List.mem_map.1 hy
  have := b.toNat_lt
  omega
theorem one_byte (x : Int) : Byte [x % 256] := fun y hy => by
  rw [List.mem_singleton] at hy
  subst hy
  omega
theorem nil_byte : Byte [] := fun y hy => by simp at hy
theorem valP_byte (v : S68) : Byte (valP v) := by
  rw [valP, ← List.singleton_append]
  refine Byte.app (one_byte _) ?_
  split
  · exact varP_byte _
  · split
    · exact Byte.app (varP_byte _) (txtP_byte _)
    · exact nil_byte
theorem rowF_byte : ∀ r : List S68, Byte (rowF r)
  | [] => nil_byte
  | v :: r => Byte.app (valP_byte v) (rowF_byte r)
theorem rowsF_byte : ∀ l : List (List S68), Byte (rowsF l)
  | [] => nil_byte
  | r :: l => Byte.app (rowF_byte r) (rowsF_byte l)
theorem schemaL_byte : ∀ s : List S123, Byte (schemaL s)
  | [] => nil_byte
  | c :: s => Byte.app (fun y hy => by
      simp only [colB, List.mem_cons, List.not_mem_nil, or_false] at hy
      rcases hy with rfl | rfl | rfl
      · omega
      · split <;> omega
      · omega) (schemaL_byte s)
theorem colF_byte (c : CH) (h : Byte c.h) : Byte (colF c) := by
  unfold colF zoneF
  refine Byte.app (varP_byte _) (Byte.app ?_ h)
  split
  · exact fun y hy => by
      rcases List.mem_cons.1 hy with rfl | hy
      · omega
      · exact Byte.app (valP_byte _) (valP_byte _) y hy
  · exact fun y hy => by
      rw [List.mem_singleton] at hy
      omega
theorem colsF_byte : ∀ l : List CH, (∀ c ∈ l, Byte c.h) → Byte (colsF l)
  | [], _ => nil_byte
  | c :: l, h => Byte.app (colF_byte c (h c List.mem_cons_self)) (colsF_byte l fun c hc => h c (List.mem_cons_of_mem _ hc))
theorem groupsF_byte : ∀ l : List Rf, (∀ g ∈ l, Byte g.hd.dead ∧ Byte g.dead ∧ ∀ c ∈ g.hd.cols, Byte c.h) → Byte (groupsF l)
  | [], _ => nil_byte
  | g :: l, h => by
    obtain ⟨h1, h2, h3⟩ := h g List.mem_cons_self
    exact Byte.app (Byte.app (varP_byte _) (Byte.app (Byte.app (varP_byte _) (Byte.app (varP_byte _) (Byte.app h1 (colsF_byte _ h3)))) (Byte.app (varP_byte _) h2))) (groupsF_byte l fun g hg => h g (List.mem_cons_of_mem _ hg))
theorem entriesF_byte : ∀ l : List En, (∀ x ∈ l, Byte x.s ∧ Byte x.r) → Byte (entriesF l)
  | [], _ => nil_byte
  | x :: l, h => by
    obtain ⟨h1, h2⟩ := h x List.mem_cons_self
    exact Byte.app (Byte.app (Byte.app h1 (varP_byte _)) h2) (entriesF_byte l fun x hx => h x (List.mem_cons_of_mem _ hx))
theorem bodyP_byte (m : Mn) (h : MnT m) : Byte (bodyP m) := by
  unfold bodyP tailF rowsP
  refine Byte.app (varP_byte _) (Byte.app (varP_byte _) (Byte.app (varP_byte _) (Byte.app ?_ (Byte.app (varP_byte _) (Byte.app (groupsF_byte _ fun g hg => ⟨(h.g g hg).1, (h.g g hg).2.1, fun c hc => ((h.g g hg).2.2 c hc).2.2⟩) (Byte.app (Byte.app (varP_byte _) (rowsF_byte _)) (Byte.app (varP_byte _) (entriesF_byte _ h.e))))))))
  unfold schemaF
  rw [← List.singleton_append]
  exact Byte.app (one_byte _) (schemaL_byte _)
theorem flat_len {α : Type} (f : List α → List Int) (g : α → List Int) (h0 : f [] = []) (h1 : ∀ x l, f (x :: l) = g x ++ f l) (K : Nat) : ∀ l : List α, (∀ x ∈ l, (g x).length ≤ K) → (f l).length ≤ l.length * K
  | [], _ => by rw [h0]; simp
  | x :: l, h => by
    have a := flat_len f g h0 h1 K l (fun y hy => h y (List.mem_cons_of_mem _ hy))
    have b := h x List.mem_cons_self
    rw [h1, List.length_append, List.length_cons, Nat.add_mul]
    omega
theorem mul_le_of {a b c d : Nat} (h1 : a ≤ b * c) (h2 : b ≤ d) : a ≤ d * c := Nat.le_trans h1 (Nat.mul_le_mul_right c h2)
theorem valP_small (v : S68) (h : v.f2.size ≤ 60) : (valP v).length ≤ 90 := by
  have h1 := varP_len (zigP v.f1)
  have h2 := varP_len ((txtP v.f2).length : Int)
  have h3 := txtP_length v.f2
  unfold valP blobP
  rw [List.length_cons]
  split
  · omega
  · split
    · rw [List.length_append]; omega
    · simp
theorem colF_small (c : CH) (h : c.h.length = 32) (h1 : c.z.f2.f2.size ≤ 60) (h2 : c.z.f3.f2.size ≤ 60) : (colF c).length ≤ 240 := by
  have a := varP_len c.z.f0
  have b1 := valP_small c.z.f2 h1
  have b2 := valP_small c.z.f3 h2
  unfold colF zoneF
  rw [List.length_append, List.length_append, h]
  split
  · rw [List.length_cons, List.length_append]; omega
  · rw [List.length_singleton]; omega
theorem bodyP_small (m : Mn) (hs : Small m) (hl : MnL m) : (bodyP m).length ≤ 1000000 := by
  obtain ⟨h1, h2⟩ := hs.vals
  have v1 := varP_len m.gen
  have v2 := varP_len m.next
  have v3 := varP_len m.most
  have v4 := varP_len (m.groups.length : Int)
  have v5 := varP_len (m.loose.length : Int)
  have v6 := varP_len (m.entries.length : Int)
  have s1 : (schemaF m.schema).length ≤ 211 := by
    have := schemaL_len m.schema
    have := hs.s
    unfold schemaF
    rw [List.length_cons]
    omega
  have g1 : (groupsF m.groups).length ≤ 30 * 17100 := by
    refine mul_le_of (flat_len groupsF groupF rfl (fun _ _ => rfl) 17100 m.groups fun g hg => ?_) hs.gn
    have c1 : (colsF g.hd.cols).length ≤ 70 * 240 := mul_le_of (flat_len colsF colF rfl (fun _ _ => rfl) 240 g.hd.cols fun c hc => colF_small c ((hl.g g hg).2 c hc) ((h2 g hg).2.2 c hc).1 ((h2 g hg).2.2 c hc).2) (h2 g hg).1
    have a1 := varP_len g.id
    have a2 := varP_len g.hd.rows
    have a3 := varP_len g.hd.live
    have a4 := varP_len (g.dead.length : Int)
    have a5 := (hl.g g hg).1
    have a6 := (h2 g hg).2.1
    unfold groupF headP blobP
    simp only [List.length_append]
    omega
  have r1 : (rowsF m.loose).length ≤ 40 * 6300 := by
    refine mul_le_of (flat_len rowsF rowF rfl (fun _ _ => rfl) 6300 m.loose fun r hr => ?_) hs.ln
    exact mul_le_of (flat_len rowF valP rfl (fun _ _ => rfl) 90 r fun v hv => valP_small v ((h1 r hr).2 v hv)) (h1 r hr).1
  have e1 : (entriesF m.entries).length ≤ 40 * 74 := by
    refine mul_le_of (flat_len entriesF entP rfl (fun _ _ => rfl) 74 m.entries fun x hx => ?_) hs.en
    have a1 := varP_len x.g
    obtain ⟨a2, a3⟩ := hl.e x hx
    unfold entP
    simp only [List.length_append]
    omega
  unfold bodyP tailF rowsP
  simp only [List.length_append]
  omega
end Go.Proofs.YtjmhiklmlgbifaaGreatDoor.PMan
end
section
namespace Go.Proofs.YtjmhiklmlgbifaaGreatDoor.PMan
open Go.RowKit Go.Proofs.YtjmhiklmlgbifaaGreatDoorW.PrintWords Go.Proofs.YtjmhiklmlgbifaaGreatDoorW.PrintLast Go.Proofs.YtjmhiklmlgbifaaGreatDoorW.PrintMore
open Go.Proofs.YtjmhiklmlgbifaaGreatDoor.CrcMath
set_option linter.unusedVariables false
set_option linter.unusedSimpArgs false
section
variable {H : Type} (enc : TypeId × Value → H) (w : World) (base : Nat) (sp : Nat → Bool) (hd : Bool)
/-- What is read by type t is of kind d. -/
def Opens {α : Type} (t : TypeId) (d : Kd α) (ok : α → Prop) : Prop := d.sz = Tryz.prog.cellsOf t ∧ ∀ n cs x, DataW.trod enc Tryz.prog w base sp hd n t cs = some x → ∃ a, d.K w a cs ∧ ok a
theorem opens_int {t : TypeId} {k : IntKind} (ht : Tryz.prog.underlying t = some (.int k)) (hc : Tryz.prog.cellsOf t = 1) : Opens enc w base sp hd t (Kd.int k) (fun n => (Lit.int k n).wf = true) := by
  refine ⟨hc.symm, fun n cs x h => ?_⟩
  obtain ⟨a, rfl, _, hw⟩ := DataW.trod_int ht h
  exact ⟨a, rfl, hw⟩
theorem opens_bool {t : TypeId} (ht : Tryz.prog.underlying t = some .bool) (hc : Tryz.prog.cellsOf t = 1) : Opens enc w base sp hd t Kd.bool (fun _ => True) := by
  refine ⟨hc.symm, fun n cs x h => ?_⟩
  obtain ⟨a, rfl, _⟩ := DataW.trod_bool ht h
  exact ⟨a, rfl, trivial⟩
theorem opens_string {t : TypeId} (ht : Tryz.prog.underlying t = some .string) (hc : Tryz.prog.cellsOf t = 1) : Opens enc w base sp hd t Kd.string (fun _ => True) := by
  refine ⟨hc.symm, fun n cs x h => ?_⟩
  obtain ⟨a, rfl, _⟩ := DataW.trod_string ht h
  exact ⟨a, rfl, trivial⟩
theorem opens_hash {t e : TypeId} (ht : Tryz.prog.underlying t = some (.array 32 e)) (he : Tryz.prog.underlying e = some (.int .u8)) (hc : Tryz.prog.cellsOf t = 32) (hce : Tryz.prog.cellsOf e = 1) :
    Opens enc w base sp hd t kH (fun l => Byte l) := by
  refine ⟨hc.symm, fun n cs x h => ?_⟩
  obtain ⟨xs, m, _, _, hl, hx, hi⟩ := DataW.trod_array ht h
  rw [hc] at hl
  rw [hce] at hi
  have each : ∀ i, i < 32 → ∃ q : Int, cs[i]? = some (.int .u8 q) ∧ (Lit.int .u8 q).wf = true := fun i h32 => by
    have h1 := hi i h32
    rw [Nat.mul_one, List.getElem?_eq_getElem (by omega)] at h1
    obtain ⟨q, hq, _, hw⟩ := DataW.trod_int he h1
    refine ⟨q, ?_, hw⟩
    have h2 : ((cs.drop i).take 1)[0]? = some (.int .u8 q) := by rw [hq]; rfl
    rw [List.getElem?_take_of_lt (by decide), List.getElem?_drop] at h2
    exact h2
  obtain ⟨f, hf⟩ := Go.Deep.choose_lt each
  refine ⟨(List.range 32).map f, ⟨?_, by simp⟩, fun y hy => ?_⟩
  · apply List.ext_getElem?
    intro i
    unfold hashCells
    by_cases h32 : i < 32
    · rw [(hf i h32).1, List.map_map, List.getElem?_map, List.getElem?_range h32]
      rfl
    · rw [List.getElem?_eq_none (by omega), List.getElem?_eq_none (by simp; omega)]
  · obtain ⟨i, hi, rfl⟩ := List.mem_map.1 hy
    have := wf_u8 (hf i (List.mem_range.1 hi)).2
    omega
theorem opens_slice {t e : TypeId} {α : Type} {d : Kd α} {ok : α → Prop} (q : Nat) (ht : Tryz.prog.underlying t = some (.slice e)) (hc : Tryz.prog.cellsOf t = 1) (z : α) (he : Opens enc w base sp hd e d ok) : Opens enc w base sp hd t (Kd.slice q d) (fun l => ∀ x ∈ l, ok x) := by
  refine ⟨hc.symm, fun n cs x h => ?_⟩
  rcases Go.Deep.open_slice ht h with ⟨rfl, _⟩ | ⟨a, len, cap, m, n, D, Pl, rfl, _, hl, hm, hmm, _, hx⟩
  · exact ⟨[], ⟨none, 0, rfl, Nat.zero_le _, ⟨rfl, by simp, fun h => absurd h (by simp)⟩⟩, fun x hx => by simp at hx⟩
  · have hlm : len ≤ m := by rw [hmm]; split <;> omega
    have hinh : Inhabited α := ⟨z⟩
    have each : ∀ i, i < len → ∃ y : α, ok y ∧ ∃ cs', cs'.length = d.sz ∧ d.K w y cs' ∧ ∀ k u, cs'[k]? = some u → w.cell? (a.add (i * d.sz + k)) = some u := fun i hi => by
      obtain ⟨cs', h1, h2⟩ := hx i (by omega)
      obtain ⟨y, hK, hok⟩ := he.2 _ _ _ h2
      obtain ⟨_, h3, h4⟩ := World.cells?_some h1
      refine ⟨y, hok, cs', d.K_len hK, hK, fun k u hu => ?_⟩
      have hk := (List.getElem?_eq_some_iff.1 hu).1
      have := h4 k (by omega)
      rw [Go.Deep.add_add, hu, ← he.1] at this
      exact this
    obtain ⟨f, hf⟩ := Go.Deep.choose_lt each
    refine ⟨(List.range len).map f, ⟨some a, cap, by rw [List.length_map, List.length_range], by rw [List.length_map, List.length_range]; exact hl, ⟨rfl, by rw [List.length_map, List.length_range]; unfold maxLen at hm; omega, fun _ => ⟨a, rfl, fun j p hj => ?_⟩⟩⟩, fun y hy => ?_⟩
    · rw [List.getElem?_map, Option.map_eq_some_iff] at hj
      obtain ⟨r, hr, rfl⟩ := hj
      obtain ⟨hjl, rfl⟩ := List.getElem?_eq_some_iff.1 hr
      rw [List.length_range] at hjl
      rw [List.getElem_range]
      obtain ⟨_, cs', h1, h2, h3⟩ := hf j hjl
      exact ⟨cs', h1, h2, h3⟩
    · obtain ⟨r, hr, rfl⟩ := List.mem_map.1 hy
      exact (hf r (List.mem_range.1 hr)).1
/-- What is read by a struct's last fields. -/
def OpensF {α : Type} (fs : List Field) (off : Nat) (d : Kd α) (ok : α → Prop) : Prop := ∀ n cs, cs.length = d.sz → (∀ f ∈ fs, ∃ y, DataW.trod enc Tryz.prog w base sp hd n f.type ((cs.drop (f.offset - off)).take (Tryz.prog.cellsOf f.type)) = some y) → ∃ a, d.K w a cs ∧ ok a
theorem opensF_one {α : Type} {f : Field} {off : Nat} {d : Kd α} {ok : α → Prop} (ho : f.offset = off) (h : Opens enc w base sp hd f.type d ok) : OpensF enc w base sp hd [f] off d ok := fun n cs hl hy => by
  obtain ⟨y, hy⟩ := hy f List.mem_cons_self
  rw [ho, Nat.sub_self, List.drop_zero, List.take_of_length_le (by rw [hl, h.1]; exact Nat.le_refl _)] at hy
  exact h.2 _ _ _ hy
theorem opensF_cons {α β : Type} {f : Field} {fs : List Field} {off : Nat} {d1 : Kd α} {d2 : Kd β} {ok1 : α → Prop} {ok2 : β → Prop} (ho : f.offset = off) (hge : (fs.all fun g => Nat.ble (off + d1.sz) g.offset) = true)
    (h1 : Opens enc w base sp hd f.type d1 ok1) (h2 : OpensF enc w base sp hd fs (off + d1.sz) d2 ok2) : OpensF enc w base sp hd (f :: fs) off (Kd.pair d1 d2) (fun p => ok1 p.1 ∧ ok2 p.2) := fun n cs hl hy => by
  have hl : cs.length = d1.sz + d2.sz := hl
  obtain ⟨y, hy0⟩ := hy f List.mem_cons_self
  rw [ho, Nat.sub_self, List.drop_zero, ← h1.1] at hy0
  obtain ⟨a, hK1, ho1⟩ := h1.2 _ _ _ hy0
  obtain ⟨b, hK2, ho2⟩ := h2 n (cs.drop d1.sz) (by rw [List.length_drop]; omega) fun g hg => by
    obtain ⟨y, hy1⟩ := hy g (List.mem_cons_of_mem _ hg)
    have := Nat.le_of_ble_eq_true (List.all_eq_true.1 hge g hg)
    refine ⟨y, ?_⟩
    rw [List.drop_drop, show d1.sz + (g.offset - (off + d1.sz)) = g.offset - off by omega]
    exact hy1
  exact ⟨(a, b), ⟨cs.take d1.sz, cs.drop d1.sz, (List.take_append_drop _ _).symm, hK1, hK2⟩, ho1, ho2⟩
theorem opensF_imp {α : Type} {fs : List Field} {off : Nat} {d : Kd α} {ok ok' : α → Prop} (h : OpensF enc w base sp hd fs off d ok) (hi : ∀ a, ok a → ok' a) : OpensF enc w base sp hd fs off d ok' := fun n cs h1 h2 => by
  obtain ⟨a, hK, ho⟩ := h n cs h1 h2
  exact ⟨a, hK, hi a ho⟩
theorem opens_struct {α : Type} {t : TypeId} {fs : Array Field} {d : Kd α} {ok : α → Prop} (ht : Tryz.prog.underlying t = some (.struct fs)) (hc : d.sz = Tryz.prog.cellsOf t) (h : OpensF enc w base sp hd fs.toList 0 d ok) : Opens enc w base sp hd t d ok := by
  refine ⟨hc, fun n cs x hx => ?_⟩
  obtain ⟨xs, m, _, _, hl, hxl, hf⟩ := DataW.trod_struct ht hx
  refine h m cs (by rw [hl, hc]) fun f hfm => ?_
  obtain ⟨i, hi, rfl⟩ := List.getElem_of_mem hfm
  have hi' : i < fs.size := by simpa using hi
  have := hf i fs[i] (Array.getElem?_eq_getElem hi')
  rw [List.getElem?_eq_getElem (by omega)] at this
  exact ⟨_, by rw [Nat.sub_zero, Array.getElem_toList]; exact this⟩
theorem opens_iso {α β : Type} {t : TypeId} {d : Kd α} {ok : α → Prop} (f : β → α) (g : α → β) (hfg : ∀ a, f (g a) = a) (h : Opens enc w base sp hd t d ok) : Opens enc w base sp hd t (Kd.iso d f) (fun b => ok (f b)) := by
  refine ⟨h.1, fun n cs x hx => ?_⟩
  obtain ⟨a, hK, ho⟩ := h.2 n cs x hx
  exact ⟨g a, by show d.K w (f (g a)) cs; rw [hfg]; exact hK, by show ok (f (g a)); rw [hfg]; exact ho⟩
abbrev IntOk (k : IntKind) (n : Int) : Prop := (Lit.int k n).wf = true
theorem o_int : Opens enc w base sp hd 3 (Kd.int .i64) (IntOk .i64) := opens_int enc w base sp hd Tryz.underlying3 (by kernel_rfl)
theorem o_i64 : Opens enc w base sp hd 2 (Kd.int .i64) (IntOk .i64) := opens_int enc w base sp hd Tryz.underlying2 (by kernel_rfl)
theorem o_bool : Opens enc w base sp hd 4 Kd.bool (fun _ => True) := opens_bool enc w base sp hd Tryz.underlying4 (by kernel_rfl)
theorem o_str : Opens enc w base sp hd 9 Kd.string (fun _ => True) := opens_string enc w base sp hd Tryz.underlying9 (by kernel_rfl)
theorem o_hash : Opens enc w base sp hd 61 kH (fun l => Byte l) := opens_hash enc w base sp hd Tryz.underlying61 Tryz.underlying5 (by kernel_rfl) (by kernel_rfl)
theorem o_bytes : Opens enc w base sp hd 30 (Kd.slice 5 (Kd.int .u8)) (fun l => ∀ x ∈ l, IntOk .u8 x) := opens_slice enc w base sp hd 5 Tryz.underlying30 (by kernel_rfl) 0 (opens_int enc w base sp hd Tryz.underlying5 (by kernel_rfl))
set_option maxRecDepth 100000 in
theorem o_val : Opens enc w base sp hd 68 k68 (fun v => IntOk .i64 v.f0 ∧ IntOk .i64 v.f1 ∧ True) := by
  unfold k68
  refine opens_iso enc w base sp hd (ok := fun p => IntOk .i64 p.1 ∧ IntOk .i64 p.2.1 ∧ True) (fun x : S68 => (x.f0, x.f1, x.f2)) (fun p => ⟨p.1, p.2.1, p.2.2⟩) (fun _ => rfl) (opens_struct enc w base sp hd Tryz.underlying68 (by kernel_rfl) ?_)
  refine opensF_imp enc w base sp hd (opensF_cons enc w base sp hd rfl (by kernel_rfl) (o_int enc w base sp hd) (opensF_cons enc w base sp hd rfl (by kernel_rfl) (o_i64 enc w base sp hd) (opensF_one enc w base sp hd rfl (o_str enc w base sp hd)))) (fun _ h => h)
set_option maxRecDepth 100000 in
theorem o_col : Opens enc w base sp hd 123 k123 (fun c => IntOk .i64 c.f0 ∧ True ∧ IntOk .i64 c.f2) := by
  unfold k123
  refine opens_iso enc w base sp hd (ok := fun p => IntOk .i64 p.1 ∧ True ∧ IntOk .i64 p.2.2) (fun x : S123 => (x.f0, x.f1, x.f2)) (fun p => ⟨p.1, p.2.1, p.2.2⟩) (fun _ => rfl) (opens_struct enc w base sp hd Tryz.underlying123 (by kernel_rfl) ?_)
  refine opensF_imp enc w base sp hd (opensF_cons enc w base sp hd rfl (by kernel_rfl) (o_int enc w base sp hd) (opensF_cons enc w base sp hd rfl (by kernel_rfl) (o_bool enc w base sp hd) (opensF_one enc w base sp hd rfl (o_int enc w base sp hd)))) (fun _ h => h)
abbrev ValT (v : S68) : Prop := IntOk .i64 v.f0 ∧ IntOk .i64 v.f1 ∧ True
set_option maxRecDepth 100000 in
theorem o_zone : Opens enc w base sp hd 70 k70 (fun z => IntOk .i64 z.f0 ∧ True ∧ ValT z.f2 ∧ ValT z.f3) := by
  unfold k70
  refine opens_iso enc w base sp hd (ok := fun p => IntOk .i64 p.1 ∧ True ∧ ValT p.2.2.1 ∧ ValT p.2.2.2) (fun x : S70 => (x.f0, x.f1, x.f2, x.f3)) (fun p => ⟨p.1, p.2.1, p.2.2.1, p.2.2.2⟩) (fun _ => rfl) (opens_struct enc w base sp hd Tryz.underlying70 (by kernel_rfl) ?_)
  refine opensF_imp enc w base sp hd (opensF_cons enc w base sp hd rfl (by kernel_rfl) (o_int enc w base sp hd) (opensF_cons enc w base sp hd rfl (by kernel_rfl) (o_bool enc w base sp hd) (opensF_cons enc w base sp hd rfl (by kernel_rfl) (o_val enc w base sp hd) (opensF_one enc w base sp hd rfl (o_val enc w base sp hd))))) (fun _ h => h)
abbrev ColT (c : CH) : Prop := (IntOk .i64 c.z.f0 ∧ True ∧ ValT c.z.f2 ∧ ValT c.z.f3) ∧ Byte c.h
set_option maxRecDepth 100000 in
theorem o_colhead : Opens enc w base sp hd 72 kCH ColT := by
  unfold kCH
  refine opens_iso enc w base sp hd (ok := fun p => (IntOk .i64 p.1.f0 ∧ True ∧ ValT p.1.f2 ∧ ValT p.1.f3) ∧ Byte p.2) (fun x : CH => (x.z, x.h)) (fun p => ⟨p.1, p.2⟩) (fun _ => rfl) (opens_struct enc w base sp hd Tryz.underlying72 (by kernel_rfl) ?_)
  refine opensF_imp enc w base sp hd (opensF_cons enc w base sp hd rfl (by kernel_rfl) (o_zone enc w base sp hd) (opensF_one enc w base sp hd rfl (o_hash enc w base sp hd))) (fun _ h => h)
abbrev HdT (x : Hd) : Prop := IntOk .i64 x.rows ∧ IntOk .i64 x.live ∧ Byte x.dead ∧ ∀ c ∈ x.cols, ColT c
set_option maxRecDepth 100000 in
theorem o_hd : Opens enc w base sp hd 64 kHd HdT := by
  unfold kHd
  refine opens_iso enc w base sp hd (ok := fun p => IntOk .i64 p.1 ∧ IntOk .i64 p.2.1 ∧ Byte p.2.2.1 ∧ ∀ c ∈ p.2.2.2, ColT c) (fun x : Hd => (x.rows, x.live, x.dead, x.cols)) (fun p => ⟨p.1, p.2.1, p.2.2.1, p.2.2.2⟩) (fun _ => rfl) (opens_struct enc w base sp hd Tryz.underlying64 (by kernel_rfl) ?_)
  refine opensF_imp enc w base sp hd (opensF_cons enc w base sp hd rfl (by kernel_rfl) (o_int enc w base sp hd) (opensF_cons enc w base sp hd rfl (by kernel_rfl) (o_int enc w base sp hd) (opensF_cons enc w base sp hd rfl (by kernel_rfl) (o_hash enc w base sp hd) (opensF_one enc w base sp hd rfl (opens_slice enc w base sp hd 72 Tryz.underlying62 (by kernel_rfl) zCH (o_colhead enc w base sp hd)))))) (fun _ h => h)
abbrev RfT (g : Rf) : Prop := IntOk .i64 g.id ∧ HdT g.hd ∧ ∀ x ∈ g.dead, IntOk .u8 x
set_option maxRecDepth 100000 in
theorem o_rf : Opens enc w base sp hd 66 kRf RfT := by
  unfold kRf
  refine opens_iso enc w base sp hd (ok := fun p => IntOk .i64 p.1 ∧ HdT p.2.1 ∧ ∀ x ∈ p.2.2, IntOk .u8 x) (fun x : Rf => (x.id, x.hd, x.dead)) (fun p => ⟨p.1, p.2.1, p.2.2⟩) (fun _ => rfl) (opens_struct enc w base sp hd Tryz.underlying66 (by kernel_rfl) ?_)
  refine opensF_imp enc w base sp hd (opensF_cons enc w base sp hd rfl (by kernel_rfl) (o_int enc w base sp hd) (opensF_cons enc w base sp hd rfl (by kernel_rfl) (o_hd enc w base sp hd) (opensF_one enc w base sp hd rfl (o_bytes enc w base sp hd)))) (fun _ h => h)
abbrev EnT (x : En) : Prop := Byte x.s ∧ IntOk .i64 x.g ∧ Byte x.r
set_option maxRecDepth 100000 in
theorem o_en : Opens enc w base sp hd 81 kEn EnT := by
  unfold kEn
  refine opens_iso enc w base sp hd (ok := fun p => Byte p.1 ∧ IntOk .i64 p.2.1 ∧ Byte p.2.2) (fun x : En => (x.s, x.g, x.r)) (fun p => ⟨p.1, p.2.1, p.2.2⟩) (fun _ => rfl) (opens_struct enc w base sp hd Tryz.underlying81 (by kernel_rfl) ?_)
  refine opensF_imp enc w base sp hd (opensF_cons enc w base sp hd rfl (by kernel_rfl) (o_hash enc w base sp hd) (opensF_cons enc w base sp hd rfl (by kernel_rfl) (o_int enc w base sp hd) (opensF_one enc w base sp hd rfl (o_hash enc w base sp hd)))) (fun _ h => h)
def kMn : Kd Mn := Kd.iso (Kd.pair (Kd.int .i64) (Kd.pair (Kd.int .i64) (Kd.pair (Kd.slice 123 k123) (Kd.pair (Kd.int .i64) (Kd.pair (Kd.slice 66 kRf) (Kd.pair (Kd.slice 89 (Kd.slice 68 k68)) (Kd.slice 81 kEn))))))) (fun m : Mn => (m.gen, m.next, m.schema, m.most, m.groups, m.loose, m.entries))
abbrev MnAll (m : Mn) : Prop := IntOk .i64 m.gen ∧ IntOk .i64 m.next ∧ (∀ c ∈ m.schema, IntOk .i64 c.f0 ∧ True ∧ IntOk .i64 c.f2) ∧ IntOk .i64 m.most ∧ (∀ g ∈ m.groups, RfT g) ∧ (∀ r ∈ m.loose, ∀ v ∈ r, ValT v) ∧ ∀ x ∈ m.entries, EnT x
set_option maxRecDepth 100000 in
theorem o_mn : Opens enc w base sp hd 27 kMn MnAll := by
  unfold kMn
  refine opens_iso enc w base sp hd (ok := fun p => IntOk .i64 p.1 ∧ IntOk .i64 p.2.1 ∧ (∀ c ∈ p.2.2.1, IntOk .i64 c.f0 ∧ True ∧ IntOk .i64 c.f2) ∧ IntOk .i64 p.2.2.2.1 ∧ (∀ g ∈ p.2.2.2.2.1, RfT g) ∧ (∀ r ∈ p.2.2.2.2.2.1, ∀ v ∈ r, ValT v) ∧ ∀ x ∈ p.2.2.2.2.2.2, EnT x) (fun m : Mn => (m.gen, m.next, m.schema, m.most, m.groups, m.loose, m.entries)) (fun p => ⟨p.1, p.2.1, p.2.2.1, p.2.2.2.1, p.2.2.2.2.1, p.2.2.2.2.2.1, p.2.2.2.2.2.2⟩) (fun _ => rfl) (opens_struct enc w base sp hd Tryz.underlying27 (by kernel_rfl) ?_)
  refine opensF_imp enc w base sp hd (opensF_cons enc w base sp hd rfl (by kernel_rfl) (o_int enc w base sp hd) (opensF_cons enc w base sp hd rfl (by kernel_rfl) (o_int enc w base sp hd) (opensF_cons enc w base sp hd rfl (by kernel_rfl) (opens_slice enc w base sp hd 123 Tryz.underlying22 (by kernel_rfl) z123 (o_col enc w base sp hd)) (opensF_cons enc w base sp hd rfl (by kernel_rfl) (o_int enc w base sp hd) (opensF_cons enc w base sp hd rfl (by kernel_rfl) (opens_slice enc w base sp hd 66 Tryz.underlying23 (by kernel_rfl) zRf (o_rf enc w base sp hd)) (opensF_cons enc w base sp hd rfl (by kernel_rfl) (opens_slice enc w base sp hd 89 Tryz.underlying24 (by kernel_rfl) [] (opens_slice enc w base sp hd 68 Tryz.underlying89 (by kernel_rfl) z68 (o_val enc w base sp hd))) (opensF_one enc w base sp hd rfl (opens_slice enc w base sp hd 81 Tryz.underlying25 (by kernel_rfl) zEn (o_en enc w base sp hd))))))))) (fun _ h => h)
end
theorem wf_i64 {n : Int} (h : (Lit.int .i64 n).wf = true) : -9223372036854775808 ≤ n ∧ n ≤ 9223372036854775807 := by
  simp [Lit.wf, IntKind.min, IntKind.max, IntKind.signed, IntKind.bits] at h
  omega
theorem MnAll.t {m : Mn} (h : MnAll m) : MnT m := by
  obtain ⟨_, _, _, _, hg, hl, he⟩ := h
  refine ⟨fun r hr v hv => wf_i64 (hl r hr v hv).2.1, fun g hgm => ?_, fun x hx => ⟨(he x hx).1, (he x hx).2.2⟩⟩
  obtain ⟨_, ⟨_, _, hd, hc⟩, hb⟩ := hg g hgm
  refine ⟨hd, fun x hx => ?_, fun c hcm => ?_⟩
  · have := wf_u8 (hb x hx)
    omega
  · obtain ⟨⟨_, _, h2, h3⟩, hh⟩ := hc c hcm
    exact ⟨wf_i64 h2.2.1, wf_i64 h3.2.1, hh⟩
theorem kMn_open {w : World} {m : Mn} {cs : List Value} (h : kMn.K w m cs) : ∃ As ns Ag ng Al nl Ae ne, cs = (mnCells m As ns Ag ng Al nl Ae ne).toList ∧ MnC w m As ns Ag ng Al nl Ae ne := by
  obtain ⟨_, _, rfl, rfl, ⟨_, _, rfl, rfl, ⟨_, _, rfl, ⟨As, ns, rfl, s1, s2⟩, ⟨_, _, rfl, rfl, ⟨_, _, rfl, ⟨Ag, ng, rfl, g1, g2⟩, ⟨_, _, rfl, ⟨Al, nl, rfl, l1, l2⟩, ⟨Ae, ne, rfl, e1, e2⟩⟩⟩⟩⟩⟩⟩ := h
  exact ⟨As, ns, Ag, ng, Al, nl, Ae, ne, rfl, ⟨s2, s1, g2, g1, l2, l1, e2, e1⟩⟩
end Go.Proofs.YtjmhiklmlgbifaaGreatDoor.PMan
end
