/- Texts, put into one. -/
import Derived.Laws.BitsLemmas
import GoSem.Claim
import Derived.WalkKit
import Derived.Test.YtjmhiklmlgbifaaGreatDoorPTW
set_option linter.unusedVariables false
set_option linter.unusedSimpArgs false
open Go Go.RowKit Go.Proofs.YtjmhiklmlgbifaaGreatDoorW.PrintWords Go.Proofs.YtjmhiklmlgbifaaGreatDoorW.PrintLast Go.Proofs.YtjmhiklmlgbifaaGreatDoorW.PrintMore
namespace Go.Proofs.YtjmhiklmlgbifaaGreatDoor.CrcMath
section
open Go.RowKit
theorem wf_u8 {x : Int} (h : (Lit.int .u8 x).wf = true) : 0 ≤ x ∧ x ≤ 255 := by
 simp [Lit.wf, IntKind.min, IntKind.max, IntKind.signed, IntKind.bits] at h
 omega
def poly : BitVec 32 := 3988292384#32
def T (x : BitVec 32) : BitVec 32 := (x >>> 1) ^^^ (if x.getLsbD 0 then poly else 0#32)
def Tn : Nat → BitVec 32 → BitVec 32
 | 0, x => x
 | n + 1, x => T (Tn n x)
theorem Tn_succ' (n : Nat) (x : BitVec 32) : Tn (n + 1) x = Tn n (T x) := by
 induction n generalizing x with
 | zero => rfl
 | succ n ih => show T (Tn (n + 1) x) = T (Tn n (T x)); rw [ih]
theorem xor_shift (a b : BitVec 32) : (a ^^^ b) >>> 1 = (a >>> 1) ^^^ (b >>> 1) := by
 apply BitVec.eq_of_getLsbD_eq
 intro i _
 simp
theorem xor_four (a b p q : BitVec 32) : (a ^^^ b) ^^^ (p ^^^ q) = (a ^^^ p) ^^^ (b ^^^ q) := by
 apply BitVec.eq_of_getLsbD_eq
 intro i _
 simp only [BitVec.getLsbD_xor]
 cases a.getLsbD i <;> cases b.getLsbD i <;> cases p.getLsbD i <;> cases q.getLsbD i <;> rfl
theorem T_xor (a b : BitVec 32) : T (a ^^^ b) = T a ^^^ T b := by
 unfold T
 rw [xor_shift, BitVec.getLsbD_xor, xor_four]
 congr 1
 cases a.getLsbD 0 <;> cases b.getLsbD 0 <;> simp
theorem Tn_xor (n : Nat) (a b : BitVec 32) : Tn n (a ^^^ b) = Tn n a ^^^ Tn n b := by
 induction n with
 | zero => rfl
 | succ n ih => show T (Tn n (a ^^^ b)) = T (Tn n a) ^^^ T (Tn n b); rw [ih, T_xor]
def feed : Nat → BitVec 32 → Nat → BitVec 32
 | 0, v, _ => v
 | m + 1, v, c => feed m (T (v ^^^ BitVec.ofNat 32 (c % 2))) (c / 2)
theorem T_double (c : Nat) (h : 2 * c < 2 ^ 32) : T (BitVec.ofNat 32 (2 * c)) = BitVec.ofNat 32 c := by
 unfold T
 have h0 : (BitVec.ofNat 32 (2 * c)).getLsbD 0 = false := by rw [BitVec.getLsbD_ofNat]; simp
 rw [h0]
 apply BitVec.eq_of_toNat_eq
 simp only [Bool.false_eq_true, if_false, BitVec.xor_zero, BitVec.toNat_ushiftRight, BitVec.toNat_ofNat]
 rw [Nat.mod_eq_of_lt h, Nat.mod_eq_of_lt (by omega), Nat.shiftRight_eq_div_pow]
 omega
theorem ofNat_split (c : Nat) : BitVec.ofNat 32 c = BitVec.ofNat 32 (c % 2) ^^^ BitVec.ofNat 32 (2 * (c / 2)) := by
 apply BitVec.eq_of_getLsbD_eq
 intro i hi
 simp only [BitVec.getLsbD_xor, BitVec.getLsbD_ofNat, hi, decide_true, Bool.true_and]
 cases i with
 | zero =>
  have : (2 * (c / 2)).testBit 0 = false := by simp
  rw [this]
  simp
 | succ j =>
  have h1 : (c % 2).testBit (j + 1) = false := by
   rw [Nat.testBit_succ]
   have : c % 2 / 2 = 0 := by omega
   rw [this]
   simp
  have h2 : (2 * (c / 2)).testBit (j + 1) = c.testBit (j + 1) := by
   rw [Nat.testBit_succ, Nat.testBit_succ]
   congr 1
   omega
  rw [h1, h2]
  simp
theorem feed_eq (m : Nat) : ∀ (v : BitVec 32) (c : Nat), c < 2 ^ m → c < 2 ^ 32 → feed m v c = Tn m (v ^^^ BitVec.ofNat 32 c) := by
 induction m with
 | zero =>
  intro v c h _
  have : c = 0 := by simp at h; omega
  subst this
  simp [feed, Tn]
 | succ m ih =>
  intro v c h h32
  have hd : c / 2 < 2 ^ m := by
   have : 2 ^ (m + 1) = 2 * 2 ^ m := by rw [Nat.pow_succ]; omega
   omega
  show feed m (T (v ^^^ BitVec.ofNat 32 (c % 2))) (c / 2) = _
  rw [ih _ _ hd (by omega), Tn_succ']
  congr 1
  rw [← T_double (c / 2) (by omega), ← T_xor]
  congr 1
  rw [BitVec.xor_assoc, ← ofNat_split]
def step (v : BitVec 32) (c : Nat) : BitVec 32 := feed 8 v c
theorem step_eq (v : BitVec 32) (c : Nat) (h : c < 256) : step v c = Tn 8 (v ^^^ BitVec.ofNat 32 c) := feed_eq 8 v c h (by omega)
theorem Tn_shift (m : Nat) : ∀ (c : Nat), 2 ^ m * c < 2 ^ 32 → Tn m (BitVec.ofNat 32 (2 ^ m * c)) = BitVec.ofNat 32 c := by
 induction m with
 | zero => intro c _; simp [Tn]
 | succ m ih =>
  intro c h
  have hp : 2 ^ (m + 1) * c = 2 * (2 ^ m * c) := by rw [Nat.pow_succ, Nat.mul_comm (2 ^ m) 2, Nat.mul_assoc]
  rw [Tn_succ', hp, T_double _ (by omega)]
  exact ih c (by omega)
theorem split8 (x : BitVec 32) : x = BitVec.ofNat 32 (x.toNat % 256) ^^^ BitVec.ofNat 32 (2 ^ 8 * (x.toNat / 256)) := by
 have hx := x.isLt
 apply BitVec.eq_of_getLsbD_eq
 intro i hi
 simp only [BitVec.getLsbD_xor, BitVec.getLsbD_ofNat, hi, decide_true, Bool.true_and]
 rw [show x.getLsbD i = x.toNat.testBit i from rfl, show (256 : Nat) = 2 ^ 8 from rfl, Nat.testBit_mod_two_pow, Nat.testBit_two_pow_mul, Nat.testBit_div_two_pow]
 by_cases h8 : i < 8
 ·simp [h8, show ¬ i ≥ 8 from by omega]
 ·simp [h8, show i ≥ 8 from by omega, show i - 8 + 8 = i from by omega]
theorem table_step (x : BitVec 32) : Tn 8 x = BitVec.ofNat 32 (x.toNat / 256) ^^^ Tn 8 (BitVec.ofNat 32 (x.toNat % 256)) := by
 have hx := x.isLt
 have h : Tn 8 (BitVec.ofNat 32 (2 ^ 8 * (x.toNat / 256))) = BitVec.ofNat 32 (x.toNat / 256) := Tn_shift 8 _ (by omega)
 calc Tn 8 x = Tn 8 (BitVec.ofNat 32 (x.toNat % 256) ^^^ BitVec.ofNat 32 (2 ^ 8 * (x.toNat / 256))) := by rw [← split8 x]
  _ = _ := by rw [Tn_xor, h, BitVec.xor_comm]
def bitI (v : Int) : Int := if Go.bits .and .u32 v 1 = 1 then Go.bits .xor .u32 (v / 2) 3988292384 else v / 2
def bitsI : Nat → Int → Int
 | 0, v => v
 | n + 1, v => bitI (bitsI n v)
def stepI (v c : Int) : Int := Go.bits .xor .u32 (v / 256) (bitsI 8 (Go.bits .xor .u8 (v % 256) c))
def I (x : BitVec 32) : Int := (x.toNat : Int)
theorem I_range (x : BitVec 32) : 0 ≤ I x ∧ I x < 4294967296 := by have := x.isLt; unfold I; omega
theorem xor_I (x y : BitVec 32) : Go.bits .xor .u32 (I x) (I y) = I (x ^^^ y) := by
 unfold Go.bits I
 simp only [IntKind.wrap_u32]
 have e : ∀ z : BitVec 32, BitVec.ofInt IntKind.u32.bits (z.toNat : Int) = z := fun z => by
  apply BitVec.eq_of_toNat_eq
  rw [BitVec.ofInt_natCast, BitVec.toNat_ofNat]
  exact Nat.mod_eq_of_lt z.isLt
 rw [e x, e y]
 have := (x ^^^ y).isLt
 show (((x ^^^ y).toNat : Nat) : Int) % 4294967296 = _
 omega
theorem and1_I (x : BitVec 32) : Go.bits .and .u32 (I x) 1 = if x.getLsbD 0 then 1 else 0 := by
 unfold Go.bits I
 simp only [IntKind.wrap_u32]
 have e : BitVec.ofInt IntKind.u32.bits (x.toNat : Int) = x := by
  apply BitVec.eq_of_toNat_eq
  rw [BitVec.ofInt_natCast, BitVec.toNat_ofNat]
  exact Nat.mod_eq_of_lt x.isLt
 have e1 : BitVec.ofInt IntKind.u32.bits (1 : Int) = 1#32 := rfl
 rw [e, e1]
 show (((x &&& 1#32).toNat : Nat) : Int) % 4294967296 = _
 have : (x &&& 1#32).toNat = if x.getLsbD 0 then 1 else 0 := by
  rw [BitVec.toNat_and]
  show x.toNat &&& 1 = if x.toNat.testBit 0 then 1 else 0
  rw [Nat.and_one_is_mod, Nat.testBit_zero]
  by_cases h : x.toNat % 2 = 1
  ·simp [h]
  ·have : x.toNat % 2 = 0 := by omega
   simp [this]
 rw [this]
 cases x.getLsbD 0 <;> rfl
theorem half_I (x : BitVec 32) : I x / (2 : Int) = I (x >>> (1 : Nat)) := by
 unfold I
 rw [BitVec.toNat_ushiftRight, Nat.shiftRight_eq_div_pow]
 omega
theorem poly_I : (3988292384 : Int) = I poly := rfl
theorem bitI_eq (x : BitVec 32) : bitI (I x) = I (T x) := by
 unfold bitI T
 rw [and1_I, half_I, poly_I, xor_I]
 cases x.getLsbD 0 with
 | true => simp
 | false => simp
theorem bitsI_eq (n : Nat) (x : BitVec 32) : bitsI n (I x) = I (Tn n x) := by
 induction n with
 | zero => rfl
 | succ n ih => show bitI (bitsI n (I x)) = I (T (Tn n x)); rw [ih, bitI_eq]
theorem xor8_I (x : BitVec 32) (c : Nat) (h : c < 256) : Go.bits .xor .u8 (I x % 256) c = I (BitVec.ofNat 32 ((x ^^^ BitVec.ofNat 32 c).toNat % 256)) := by
 unfold Go.bits I
 simp only [IntKind.wrap_u8]
 have hx := x.isLt
 have e1 : BitVec.ofInt IntKind.u8.bits ((x.toNat : Int) % 256) = BitVec.ofNat 8 (x.toNat % 256) := by
  rw [show (x.toNat : Int) % 256 = ((x.toNat % 256 : Nat) : Int) from by omega, BitVec.ofInt_natCast]
  rfl
 have e2 : BitVec.ofInt IntKind.u8.bits (c : Int) = BitVec.ofNat 8 c := by rw [BitVec.ofInt_natCast]; rfl
 rw [e1, e2]
 show (((BitVec.ofNat 8 (x.toNat % 256) ^^^ BitVec.ofNat 8 c).toNat : Nat) : Int) % 256 = _
 rw [BitVec.toNat_xor, BitVec.toNat_ofNat, BitVec.toNat_ofNat, BitVec.toNat_ofNat, BitVec.toNat_xor, BitVec.toNat_ofNat]
 rw [show (2 : Nat) ^ 8 = 256 from rfl, Nat.mod_mod, Nat.mod_eq_of_lt h, Nat.mod_eq_of_lt (show c < 2 ^ 32 from by omega)]
 have hm : (x.toNat ^^^ c) % 256 = (x.toNat % 256) ^^^ c := by
  have := Nat.xor_mod_two_pow (a := x.toNat) (b := c) (n := 8)
  rw [show (2 : Nat) ^ 8 = 256 from rfl] at this
  rw [this, Nat.mod_eq_of_lt h]
 rw [hm]
 have hl : (x.toNat % 256) ^^^ c < 256 := Nat.xor_lt_two_pow (n := 8) (by omega) h
 rw [Nat.mod_eq_of_lt (show (x.toNat % 256) ^^^ c < 2 ^ 32 from by omega)]
 omega
theorem div256_xor (x : BitVec 32) (c : Nat) (h : c < 256) : (x ^^^ BitVec.ofNat 32 c).toNat / 256 = x.toNat / 256 := by
 rw [BitVec.toNat_xor, BitVec.toNat_ofNat, Nat.mod_eq_of_lt (show c < 2 ^ 32 from by omega), show (256 : Nat) = 2 ^ 8 from rfl, Nat.xor_div_two_pow]
 rw [Nat.div_eq_of_lt (show c < 2 ^ 8 from h)]
 simp
theorem stepI_eq (x : BitVec 32) (c : Nat) (h : c < 256) : stepI (I x) c = I (step x c) := by
 have hx := x.isLt
 unfold stepI
 rw [xor8_I x c h, bitsI_eq, step_eq x c h, table_step (x ^^^ BitVec.ofNat 32 c), div256_xor x c h]
 rw [← xor_I]
 congr 1
 unfold I
 rw [BitVec.toNat_ofNat, Nat.mod_eq_of_lt (by omega)]
 omega
def fold (v : BitVec 32) (l : List Nat) : BitVec 32 := l.foldl step v
def bytes (l : List Int) : List Nat := l.map Int.toNat
def Byte (l : List Int) : Prop := ∀ x ∈ l, 0 ≤ x ∧ x < 256
theorem foldI_eq (l : List Int) (h : Byte l) : ∀ x : BitVec 32, l.foldl stepI (I x) = I (fold x (bytes l)) := by
 induction l with
 | nil => intro x; rfl
 | cons c l ih =>
  intro x
  have hc := h c (List.mem_cons_self ..)
  have e : c = ((c.toNat : Nat) : Int) := by omega
  show l.foldl stepI (stepI (I x) c) = I (fold (step x c.toNat) (bytes l))
  rw [e, stepI_eq x c.toNat (by omega), Int.toNat_natCast]
  exact ih (fun y hy => h y (List.mem_cons_of_mem _ hy)) _
def ones : BitVec 32 := 4294967295#32
theorem max_I : IntKind.u32.max = I ones := by decide
def sum (s : BitVec 32) (l : List Int) : BitVec 32 := ones ^^^ fold (ones ^^^ s) (bytes l)
theorem moreI_eq (s : BitVec 32) (l : List Int) (h : Byte l) : Go.bits .xor .u32 IntKind.u32.max (l.foldl stepI (Go.bits .xor .u32 IntKind.u32.max (I s))) = I (sum s l) := by
 rw [max_I, xor_I, foldI_eq l h, xor_I]
 rfl
theorem fold_append (v : BitVec 32) (a b : List Nat) : fold v (a ++ b) = fold (fold v a) b := by simp [fold]
theorem sum_append (s : BitVec 32) (a b : List Int) : sum (sum s a) b = sum s (a ++ b) := by
 unfold sum
 rw [← BitVec.xor_assoc, BitVec.xor_self, BitVec.zero_xor]
 simp [bytes, fold_append]
def low : Nat → Nat → List Nat
 | 0, _ => []
 | n + 1, w => w % 256 :: low n (w / 256)
theorem wrap_nat (n : Nat) (h : n < 4611686018427387904) : wrap64 (n : Int) = (n : Int) := by unfold wrap64; omega
theorem wrap_next (n : Nat) (h : n < 4611686018427387903) : wrap64 ((n : Int) + 1) = ((n + 1 : Nat) : Int) := wrap_nat (n + 1) (by omega)
theorem wrap_u64 (x : Int) (h0 : 0 ≤ x) (h1 : x < 18446744073709551616) : IntKind.u64.wrap x = x := by
 simp [IntKind.wrap, IntKind.bits, IntKind.signed]
 omega
theorem div256 (q : Nat) (h : q < 549755813888) : IntKind.u64.wrap (Int.tdiv (q : Int) 256) = ((q / 256 : Nat) : Int) := by
 rw [Int.tdiv_eq_ediv_of_nonneg (by omega), wrap_u64 _ (by omega) (by omega)]
 omega
theorem mod256 (q : Nat) : (Int.tmod (q : Int) 256) % 256 = ((q % 256 : Nat) : Int) := by
 rw [Int.tmod_eq_emod_of_nonneg (by omega)]
 omega
end
end Go.Proofs.YtjmhiklmlgbifaaGreatDoor.CrcMath
