/- Texts of this proof, put into one, without what it does not use: PManx17, CrcMath, FrameMath, MsA. -/
import Derived.Test.YtjmhiklmlgbifaaGreatDoorPB4
import Derived.Laws.BitsLemmas
import GoSem.Claim
import Derived.WalkKit
import Derived.Test.YtjmhiklmlgbifaaGreatDoorPB28
import Derived.Test.YtjmhiklmlgbifaaGreatDoorPB25
import Derived.Shelf.Strconv.Itoa3
import Derived.Lib.AppendIntMem
import Derived.Lib.LaidTab
import Derived.Lib.ItoaLen
section
namespace Go.Proofs.YtjmhiklmlgbifaaGreatDoor.PMan
open Go.RowKit Go.Proofs.YtjmhiklmlgbifaaGreatDoorW.PrintWords Go.Proofs.YtjmhiklmlgbifaaGreatDoorW.PrintLast Go.Proofs.YtjmhiklmlgbifaaGreatDoorW.PrintMore
attribute [local go_sem] max2_int min2_int max_two min_two max_three min_three max_four min_four   -- for this text's walks alone
set_option linter.unusedVariables false
set_option linter.unusedSimpArgs false
def estreatref01_Same.l0 : Nat → List Int → List Int → Int → Option (Bool)
  | 0, _, _, _ => none
  | k + 1, x0, x1, x5 => if x5 < (x0.length : Int) then (if 0 ≤ x5 then (if x5 < (x1.length : Int) then (if (rd x0 x5) = (rd x1 x5) then (estreatref01_Same.l0 k x0 x1 (wrap64 (x5 + 1))) else (some false)) else (none)) else (none)) else (some true)
def estreatref01_Same.f (k : Nat) (l0 : List Int) (l1 : List Int) : Option (Bool) := if (l0.length : Int) = (l1.length : Int) then (estreatref01_Same.l0 k l0 l1 0) else (some false)
set_option maxHeartbeats 8000000 in
set_option maxRecDepth 100000 in
theorem estreatref01_Same.calls (k : Nat) (A0 : Option Addr) (c0 : Nat) (l0 : List Int) (A1 : Option Addr) (c1 : Nat) (l1 : List Int) (r : Bool) (w : World) (hr0 : Kd.C (Kd.int .u8) w A0 l0.length l0) (hc0 : l0.length ≤ c0) (hr1 : Kd.C (Kd.int .u8) w A1 l1.length l1) (hc1 : l1.length ≤ c1) (h : estreatref01_Same.f k l0 l1 = some r) :
    Calls Tryz.prog 12 #[.slice A0 l0.length c0, .slice A1 l1.length c1] w fun e w' => e = .returned (.bool r) ∧ Drawn0 w w' := by
  have HR0 := Aside0.mk hr0
  have HC0 := Aside0.mk hc0
  clear hr0 hc0
  have HR1 := Aside0.mk hr1
  have HC1 := Aside0.mk hc1
  clear hr1 hc1
  have H : (if (l0.length : Int) = (l1.length : Int) then (estreatref01_Same.l0 k l0 l1 0) else (some false)) = some r := h
  clear h
  by_cases c3 : (l0.length : Int) = (l1.length : Int)
  · rw [if_pos c3] at H
    have c3b0 : ((l0.length : Int) == (l1.length : Int)) = true := beq_iff_eq.mpr c3
    have c3b1 : ((l0.length : Int) != (l1.length : Int)) = false := bne_eq_false_iff_eq.mpr c3
    have c3b2 : (l0.length == l1.length) = true := by first | simpa using c3 | (simp at c3 ⊢; omega)
    clear c3
    have H' := Aside0.mk H
    clear H
    go_enter Tryz.func12, Tryz.ntmps12
    go_wp2
    repeat (go_quiet (fail); try go_wp2)
    go_loopg [5] k (fun kq v5 w' => ∃ (x5_1 : Int), v5 = .int .i64 x5_1 ∧ Aside0 (estreatref01_Same.l0 kq l0 l1 x5_1 = some r) ∧ Aside0 (kq ≤ k) ∧ Drawn0 w w')
    case atStart => exact ⟨(0), (by first | rfl | (simp; done) | (simp [*]; done)), H', ⟨Nat.le_refl _⟩, by repeat (first | exact Drawn0.refl _ | apply Drawn0.step)⟩
    case round =>
      clear H'
      try clear c1
      try clear p2
      try clear c3
      try clear c3b0
      try clear c3b1
      try clear c3b2
      obtain ⟨x5_1, rfl, HA, HK1, ⟨m1, rfl⟩⟩ := hrel
      cases gk with
      | zero => exact absurd HA.out (by simp [estreatref01_Same.l0])
      | succ k1 =>
        have H := HA.out
        clear HA
        simp only [estreatref01_Same.l0] at H
        by_cases c4 : x5_1 < (l0.length : Int)
        · rw [if_pos c4] at H
          have c4b0 : decide (x5_1 < (l0.length : Int)) = true := decide_eq_true c4
          clear c4
          by_cases c5 : 0 ≤ x5_1
          · rw [if_pos c5] at H
            have c5b0 : decide (0 ≤ x5_1) = true := decide_eq_true c5
            clear c5
            by_cases c6 : x5_1 < (l1.length : Int)
            · rw [if_pos c6] at H
              have c6b0 : decide (x5_1 < (l1.length : Int)) = true := decide_eq_true c6
              clear c6
              by_cases c7 : (rd l0 x5_1) = (rd l1 x5_1)
              · rw [if_pos c7] at H
                have c7b0 : ((rd l0 x5_1) == (rd l1 x5_1)) = true := beq_iff_eq.mpr c7
                have c7b1 : ((rd l0 x5_1) != (rd l1 x5_1)) = false := bne_eq_false_iff_eq.mpr c7
                clear c7
                have H' := Aside0.mk H
                clear H
                have p163 : 0 ≤ (x5_1 : Int) := of_decide_eq_true (by first | (with_reducible assumption) | assumption)
                have q163 : x5_1 < (l0.length : Int) := of_decide_eq_true (by first | (with_reducible assumption) | assumption)
                obtain ⟨ad163, e163, hx163_0⟩ := Kd.at_int HR0.out x5_1 p163 q163
                cases e163
                replace p163 := eq_true p163
                replace q163 := eq_true q163
                have p164 : 0 ≤ (x5_1 : Int) := of_decide_eq_true (by first | (with_reducible assumption) | assumption)
                have q164 : x5_1 < (l1.length : Int) := of_decide_eq_true (by first | (with_reducible assumption) | assumption)
                obtain ⟨ad164, e164, hx164_0⟩ := Kd.at_int HR1.out x5_1 p164 q164
                cases e164
                replace p164 := eq_true p164
                replace q164 := eq_true q164
                go_wp2
                repeat (go_quiet (fail); try go_wp2)
                go_roundg k1
                case measure => have := HK1.out; omega
                case rel => exact ⟨(wrap64 (x5_1 + 1)), (by first | rfl | (simp; done) | (simp [*]; done)), H', ⟨by have := HK1.out; omega⟩, by repeat (first | exact Drawn0.refl _ | apply Drawn0.step)⟩
              · rw [if_neg c7] at H
                have c7b0 : ((rd l0 x5_1) == (rd l1 x5_1)) = false := beq_eq_false_iff_ne.mpr c7
                have c7b1 : ((rd l0 x5_1) != (rd l1 x5_1)) = true := bne_iff_ne.mpr c7
                obtain rfl := Option.some.inj H
                have p163 : 0 ≤ (x5_1 : Int) := of_decide_eq_true (by first | (with_reducible assumption) | assumption)
                have q163 : x5_1 < (l0.length : Int) := of_decide_eq_true (by first | (with_reducible assumption) | assumption)
                obtain ⟨ad163, e163, hx163_0⟩ := Kd.at_int HR0.out x5_1 p163 q163
                cases e163
                replace p163 := eq_true p163
                replace q163 := eq_true q163
                have p164 : 0 ≤ (x5_1 : Int) := of_decide_eq_true (by first | (with_reducible assumption) | assumption)
                have q164 : x5_1 < (l1.length : Int) := of_decide_eq_true (by first | (with_reducible assumption) | assumption)
                obtain ⟨ad164, e164, hx164_0⟩ := Kd.at_int HR1.out x5_1 p164 q164
                cases e164
                replace p164 := eq_true p164
                replace q164 := eq_true q164
                go_wp2
                repeat (go_quiet (fail); try go_wp2)
                go_ret
                exact ⟨by first | rfl | (simp; done) | (simp [*]; done), by repeat (first | exact Drawn0.refl _ | apply Drawn0.step)⟩
            · rw [if_neg c6] at H
              exact absurd H (by simp)
          · rw [if_neg c5] at H
            exact absurd H (by simp)
        · rw [if_neg c4] at H
          have c4b0 : decide (x5_1 < (l0.length : Int)) = false := decide_eq_false c4
          clear c4
          obtain rfl := Option.some.inj H
          go_wp2
          repeat (go_quiet (fail); try go_wp2)
          go_ret
          exact ⟨by first | rfl | (simp; done) | (simp [*]; done), by repeat (first | exact Drawn0.refl _ | apply Drawn0.step)⟩
  · rw [if_neg c3] at H
    have c3b0 : ((l0.length : Int) == (l1.length : Int)) = false := beq_eq_false_iff_ne.mpr c3
    have c3b1 : ((l0.length : Int) != (l1.length : Int)) = true := bne_iff_ne.mpr c3
    have c3b2 : (l0.length == l1.length) = false := by first | simpa using c3 | (simp at c3 ⊢; omega)
    obtain rfl := Option.some.inj H
    go_enter Tryz.func12, Tryz.ntmps12
    go_wp2
    repeat (go_quiet (fail); try go_wp2)
    go_ret
    exact ⟨by first | rfl | (simp; done) | (simp [*]; done), by repeat (first | exact Drawn0.refl _ | apply Drawn0.step)⟩
end Go.Proofs.YtjmhiklmlgbifaaGreatDoor.PMan
end
section
namespace Go.Proofs.YtjmhiklmlgbifaaGreatDoor.CrcMath
open Go.RowKit
theorem wf_u8 {x : Int} (h : (Lit.int .u8 x).wf = true) : 0 ≤ x ∧ x ≤ 255 := by
  simp [Lit.wf, IntKind.min, IntKind.max, IntKind.signed, IntKind.bits] at h
  omega
theorem wf_i64 {x : Int} (h : (Lit.int .i64 x).wf = true) : -9223372036854775808 ≤ x ∧ x ≤ 9223372036854775807 := by
  simp [Lit.wf, IntKind.min, IntKind.max, IntKind.signed, IntKind.bits] at h
  omega
def poly : BitVec 32 := 3988292384#32
def T (x : BitVec 32) : BitVec 32 := (x >>> 1) ^^^ (if x.getLsbD 0 then poly else 0#32)
def Tn : Nat → BitVec 32 → BitVec 32
  | 0, x => x
  | n + 1, x => T (Tn n x)
theorem Tn_succ' (n : Nat) (x : BitVec 32) : Tn (n + 1) x = Tn n (T x) := by
  induction n generalizing x with
  | zero => rfl
  | succ n ih => show T (Tn (n + 1) x) = T (Tn n (T x)); rw [ih]
theorem xor_shift (a b : BitVec 32) : (a ^^^ b) >>> 1 = (a >>> 1) ^^^ (b >>> 1) := by
  apply BitVec.eq_of_getLsbD_eq
  intro i _
  simp
theorem xor_four (a b p q : BitVec 32) : (a ^^^ b) ^^^ (p ^^^ q) = (a ^^^ p) ^^^ (b ^^^ q) := by
  apply BitVec.eq_of_getLsbD_eq
  intro i _
  simp only [BitVec.getLsbD_xor]
  cases a.getLsbD i <;> cases b.getLsbD i <;> cases p.getLsbD i <;> cases q.getLsbD i <;> rfl
theorem T_xor (a b : BitVec 32) : T (a ^^^ b) = T a ^^^ T b := by
  unfold T
  rw [xor_shift, BitVec.getLsbD_xor, xor_four]
  congr 1
  cases a.getLsbD 0 <;> cases b.getLsbD 0 <;> simp
theorem Tn_xor (n : Nat) (a b : BitVec 32) : Tn n (a ^^^ b) = Tn n a ^^^ Tn n b := by
  induction n with
  | zero => rfl
  | succ n ih => show T (Tn n (a ^^^ b)) = T (Tn n a) ^^^ T (Tn n b); rw [ih, T_xor]
def feed : Nat → BitVec 32 → Nat → BitVec 32
  | 0, v, _ => v
  | m + 1, v, c => feed m (T (v ^^^ BitVec.ofNat 32 (c % 2))) (c / 2)
theorem T_double (c : Nat) (h : 2 * c < 2 ^ 32) : T (BitVec.ofNat 32 (2 * c)) = BitVec.ofNat 32 c := by
  unfold T
  have h0 : (BitVec.ofNat 32 (2 * c)).getLsbD 0 = false := by rw [BitVec.getLsbD_ofNat]; simp
  rw [h0]
  apply BitVec.eq_of_toNat_eq
  simp only [Bool.false_eq_true, if_false, BitVec.xor_zero, BitVec.toNat_ushiftRight, BitVec.toNat_ofNat]
  rw [Nat.mod_eq_of_lt h, Nat.mod_eq_of_lt (by omega), Nat.shiftRight_eq_div_pow]
  omega
theorem ofNat_split (c : Nat) : BitVec.ofNat 32 c = BitVec.ofNat 32 (c % 2) ^^^ BitVec.ofNat 32 (2 * (c / 2)) := by
  apply BitVec.eq_of_getLsbD_eq
  intro i hi
  simp only [BitVec.getLsbD_xor, BitVec.getLsbD_ofNat, hi, decide_true, Bool.true_and]
  cases i with
  | zero =>
    have : (2 * (c / 2)).testBit 0 = false := by simp
    rw [this]
    simp
  | succ j =>
    have h1 : (c % 2).testBit (j + 1) = false := by
      rw [Nat.testBit_succ]
      have : c % 2 / 2 = 0 := by omega
      rw [this]
      simp
    have h2 : (2 * (c / 2)).testBit (j + 1) = c.testBit (j + 1) := by
      rw [Nat.testBit_succ, Nat.testBit_succ]
      congr 1
      omega
    rw [h1, h2]
    simp
theorem feed_eq (m : Nat) : ∀ (v : BitVec 32) (c : Nat), c < 2 ^ m → c < 2 ^ 32 → feed m v c = Tn m (v ^^^ BitVec.ofNat 32 c) := by
  induction m with
  | zero =>
    intro v c h _
    have : c = 0 := by simp at h; omega
    subst this
    simp [feed, Tn]
  | succ m ih =>
    intro v c h h32
    have hd : c / 2 < 2 ^ m := by
      have : 2 ^ (m + 1) = 2 * 2 ^ m := by rw [Nat.pow_succ]; omega
      omega
    show feed m (T (v ^^^ BitVec.ofNat 32 (c % 2))) (c / 2) = _
    rw [ih _ _ hd (by omega), Tn_succ']
    congr 1
    rw [← T_double (c / 2) (by omega), ← T_xor]
    congr 1
    rw [BitVec.xor_assoc, ← ofNat_split]
def step (v : BitVec 32) (c : Nat) : BitVec 32 := feed 8 v c
theorem step_eq (v : BitVec 32) (c : Nat) (h : c < 256) : step v c = Tn 8 (v ^^^ BitVec.ofNat 32 c) := feed_eq 8 v c h (by omega)
theorem Tn_shift (m : Nat) : ∀ (c : Nat), 2 ^ m * c < 2 ^ 32 → Tn m (BitVec.ofNat 32 (2 ^ m * c)) = BitVec.ofNat 32 c := by
  induction m with
  | zero => intro c _; simp [Tn]
  | succ m ih =>
    intro c h
    have hp : 2 ^ (m + 1) * c = 2 * (2 ^ m * c) := by rw [Nat.pow_succ, Nat.mul_comm (2 ^ m) 2, Nat.mul_assoc]
    rw [Tn_succ', hp, T_double _ (by omega)]
    exact ih c (by omega)
theorem split8 (x : BitVec 32) : x = BitVec.ofNat 32 (x.toNat % 256) ^^^ BitVec.ofNat 32 (2 ^ 8 * (x.toNat / 256)) := by
  have hx := x.isLt
  apply BitVec.eq_of_getLsbD_eq
  intro i hi
  simp only [BitVec.getLsbD_xor, BitVec.getLsbD_ofNat, hi, decide_true, Bool.true_and]
  rw [show x.getLsbD i = x.toNat.testBit i from rfl, show (256 : Nat) = 2 ^ 8 from rfl, Nat.testBit_mod_two_pow, Nat.testBit_two_pow_mul, Nat.testBit_div_two_pow]
  by_cases h8 : i < 8
  · simp [h8, show ¬ i ≥ 8 from by omega]
  · simp [h8, show i ≥ 8 from by omega, show i - 8 + 8 = i from by omega]
/-- The table's step. -/
theorem table_step (x : BitVec 32) : Tn 8 x = BitVec.ofNat 32 (x.toNat / 256) ^^^ Tn 8 (BitVec.ofNat 32 (x.toNat % 256)) := by
  have hx := x.isLt
  have h : Tn 8 (BitVec.ofNat 32 (2 ^ 8 * (x.toNat / 256))) = BitVec.ofNat 32 (x.toNat / 256) := Tn_shift 8 _ (by omega)
  calc Tn 8 x = Tn 8 (BitVec.ofNat 32 (x.toNat % 256) ^^^ BitVec.ofNat 32 (2 ^ 8 * (x.toNat / 256))) := by rw [← split8 x]
    _ = _ := by rw [Tn_xor, h, BitVec.xor_comm]
def bitI (v : Int) : Int := if Go.bits .and .u32 v 1 = 1 then Go.bits .xor .u32 (v / 2) 3988292384 else v / 2
def bitsI : Nat → Int → Int
  | 0, v => v
  | n + 1, v => bitI (bitsI n v)
def stepI (v c : Int) : Int := Go.bits .xor .u32 (v / 256) (bitsI 8 (Go.bits .xor .u8 (v % 256) c))
def I (x : BitVec 32) : Int := (x.toNat : Int)
theorem I_range (x : BitVec 32) : 0 ≤ I x ∧ I x < 4294967296 := by have := x.isLt; unfold I; omega
theorem xor_I (x y : BitVec 32) : Go.bits .xor .u32 (I x) (I y) = I (x ^^^ y) := by
  unfold Go.bits I
  simp only [IntKind.wrap_u32]
  have e : ∀ z : BitVec 32, BitVec.ofInt IntKind.u32.bits (z.toNat : Int) = z := fun z => by
    apply BitVec.eq_of_toNat_eq
    rw [BitVec.ofInt_natCast, BitVec.toNat_ofNat]
    exact Nat.mod_eq_of_lt z.isLt
  rw [e x, e y]
  have := (x ^^^ y).isLt
  show (((x ^^^ y).toNat : Nat) : Int) % 4294967296 = _
  omega
theorem and1_I (x : BitVec 32) : Go.bits .and .u32 (I x) 1 = if x.getLsbD 0 then 1 else 0 := by
  unfold Go.bits I
  simp only [IntKind.wrap_u32]
  have e : BitVec.ofInt IntKind.u32.bits (x.toNat : Int) = x := by
    apply BitVec.eq_of_toNat_eq
    rw [BitVec.ofInt_natCast, BitVec.toNat_ofNat]
    exact Nat.mod_eq_of_lt x.isLt
  have e1 : BitVec.ofInt IntKind.u32.bits (1 : Int) = 1#32 := rfl
  rw [e, e1]
  show (((x &&& 1#32).toNat : Nat) : Int) % 4294967296 = _
  have : (x &&& 1#32).toNat = if x.getLsbD 0 then 1 else 0 := by
    rw [BitVec.toNat_and]
    show x.toNat &&& 1 = if x.toNat.testBit 0 then 1 else 0
    rw [Nat.and_one_is_mod, Nat.testBit_zero]
    by_cases h : x.toNat % 2 = 1
    · simp [h]
    · have : x.toNat % 2 = 0 := by omega
      simp [this]
  rw [this]
  cases x.getLsbD 0 <;> rfl
theorem half_I (x : BitVec 32) : I x / (2 : Int) = I (x >>> (1 : Nat)) := by
  unfold I
  rw [BitVec.toNat_ushiftRight, Nat.shiftRight_eq_div_pow]
  omega
theorem poly_I : (3988292384 : Int) = I poly := rfl
theorem bitI_eq (x : BitVec 32) : bitI (I x) = I (T x) := by
  unfold bitI T
  rw [and1_I, half_I, poly_I, xor_I]
  cases x.getLsbD 0 with
  | true => simp
  | false => simp
theorem bitsI_eq (n : Nat) (x : BitVec 32) : bitsI n (I x) = I (Tn n x) := by
  induction n with
  | zero => rfl
  | succ n ih => show bitI (bitsI n (I x)) = I (T (Tn n x)); rw [ih, bitI_eq]
theorem xor8_I (x : BitVec 32) (c : Nat) (h : c < 256) : Go.bits .xor .u8 (I x % 256) c = I (BitVec.ofNat 32 ((x ^^^ BitVec.ofNat 32 c).toNat % 256)) := by
  unfold Go.bits I
  simp only [IntKind.wrap_u8]
  have hx := x.isLt
  have e1 : BitVec.ofInt IntKind.u8.bits ((x.toNat : Int) % 256) = BitVec.ofNat 8 (x.toNat % 256) := by
    rw [show (x.toNat : Int) % 256 = ((x.toNat % 256 : Nat) : Int) from by omega, BitVec.ofInt_natCast]
    rfl
  have e2 : BitVec.ofInt IntKind.u8.bits (c : Int) = BitVec.ofNat 8 c := by rw [BitVec.ofInt_natCast]; rfl
  rw [e1, e2]
  show (((BitVec.ofNat 8 (x.toNat % 256) ^^^ BitVec.ofNat 8 c).toNat : Nat) : Int) % 256 = _
  rw [BitVec.toNat_xor, BitVec.toNat_ofNat, BitVec.toNat_ofNat, BitVec.toNat_ofNat, BitVec.toNat_xor, BitVec.toNat_ofNat]
  rw [show (2 : Nat) ^ 8 = 256 from rfl, Nat.mod_mod, Nat.mod_eq_of_lt h, Nat.mod_eq_of_lt (show c < 2 ^ 32 from by omega)]
  have hm : (x.toNat ^^^ c) % 256 = (x.toNat % 256) ^^^ c := by
    have := Nat.xor_mod_two_pow (a := x.toNat) (b := c) (n := 8)
    rw [show (2 : Nat) ^ 8 = 256 from rfl] at this
    rw [this, Nat.mod_eq_of_lt h]
  rw [hm]
  have hl : (x.toNat % 256) ^^^ c < 256 := Nat.xor_lt_two_pow (n := 8) (by omega) h
  rw [Nat.mod_eq_of_lt (show (x.toNat % 256) ^^^ c < 2 ^ 32 from by omega)]
  omega
theorem div256_xor (x : BitVec 32) (c : Nat) (h : c < 256) : (x ^^^ BitVec.ofNat 32 c).toNat / 256 = x.toNat / 256 := by
  rw [BitVec.toNat_xor, BitVec.toNat_ofNat, Nat.mod_eq_of_lt (show c < 2 ^ 32 from by omega), show (256 : Nat) = 2 ^ 8 from rfl, Nat.xor_div_two_pow]
  rw [Nat.div_eq_of_lt (show c < 2 ^ 8 from h)]
  simp
/-- The program's step is the step bit by bit. -/
theorem stepI_eq (x : BitVec 32) (c : Nat) (h : c < 256) : stepI (I x) c = I (step x c) := by
  have hx := x.isLt
  unfold stepI
  rw [xor8_I x c h, bitsI_eq, step_eq x c h, table_step (x ^^^ BitVec.ofNat 32 c), div256_xor x c h]
  rw [← xor_I]
  congr 1
  unfold I
  rw [BitVec.toNat_ofNat, Nat.mod_eq_of_lt (by omega)]
  omega
def fold (v : BitVec 32) (l : List Nat) : BitVec 32 := l.foldl step v
def bytes (l : List Int) : List Nat := l.map Int.toNat
def Byte (l : List Int) : Prop := ∀ x ∈ l, 0 ≤ x ∧ x < 256
theorem foldI_eq (l : List Int) (h : Byte l) : ∀ x : BitVec 32, l.foldl stepI (I x) = I (fold x (bytes l)) := by
  induction l with
  | nil => intro x; rfl
  | cons c l ih =>
    intro x
    have hc := h c (List.mem_cons_self ..)
    have e : c = ((c.toNat : Nat) : Int) := by omega
    show l.foldl stepI (stepI (I x) c) = I (fold (step x c.toNat) (bytes l))
    rw [e, stepI_eq x c.toNat (by omega), Int.toNat_natCast]
    exact ih (fun y hy => h y (List.mem_cons_of_mem _ hy)) _
def ones : BitVec 32 := 4294967295#32
theorem max_I : IntKind.u32.max = I ones := by decide
/-- The sum that goes on from another. -/
def sum (s : BitVec 32) (l : List Int) : BitVec 32 := ones ^^^ fold (ones ^^^ s) (bytes l)
theorem moreI_eq (s : BitVec 32) (l : List Int) (h : Byte l) : Go.bits .xor .u32 IntKind.u32.max (l.foldl stepI (Go.bits .xor .u32 IntKind.u32.max (I s))) = I (sum s l) := by
  rw [max_I, xor_I, foldI_eq l h, xor_I]
  rfl
theorem fold_append (v : BitVec 32) (a b : List Nat) : fold v (a ++ b) = fold (fold v a) b := by simp [fold]
theorem sum_append (s : BitVec 32) (a b : List Int) : sum (sum s a) b = sum s (a ++ b) := by
  unfold sum
  rw [← BitVec.xor_assoc, BitVec.xor_self, BitVec.zero_xor]
  simp [bytes, fold_append]
/-- The bytes of a number, the lowest first. -/
def low : Nat → Nat → List Nat
  | 0, _ => []
  | n + 1, w => w % 256 :: low n (w / 256)
theorem wrap_u64 (x : Int) (h0 : 0 ≤ x) (h1 : x < 18446744073709551616) : IntKind.u64.wrap x = x := by
  simp [IntKind.wrap, IntKind.bits, IntKind.signed]
  omega
end Go.Proofs.YtjmhiklmlgbifaaGreatDoor.CrcMath
end
section
namespace Go.Proofs.YtjmhiklmlgbifaaGreatDoor.FrameMath
open Go.RowKit Go.Proofs.YtjmhiklmlgbifaaGreatDoor.PMan Go.Proofs.YtjmhiklmlgbifaaGreatDoorW.PrintWords Go.Proofs.YtjmhiklmlgbifaaGreatDoorW.PrintLast
open Go.Proofs.YtjmhiklmlgbifaaGreatDoor.CrcMath
theorem bits_same (n : Nat) (v : Int) : crc_bits n v = bitsI n v := by
  induction n with
  | zero => rfl
  | succ n ih => show crc_bit (crc_bits n v) = bitI (bitsI n v); rw [ih]; rfl
theorem step_same : crc_step = stepI := by
  funext v c
  unfold crc_step stepI
  rw [bits_same]
theorem more_is (s : BitVec 32) (l : List Int) (h : Byte l) : crc_More.f (I s) l = some (I (sum s l)) := by
  unfold crc_More.f
  rw [step_same, moreI_eq s l h]
theorem sum_is (l : List Int) (h : Byte l) : crc_Sum.f l = some (I (sum 0#32 l)) := by
  unfold crc_Sum.f
  rw [show (0 : Int) = I 0#32 from rfl, more_is 0#32 l h]
  rfl
def fix4 (n : Nat) : List Int := [((n % 256 : Nat) : Int), ((n / 256 % 256 : Nat) : Int), ((n / 65536 % 256 : Nat) : Int), ((n / 16777216 % 256 : Nat) : Int)]
theorem fix4_length (n : Nat) : (fix4 n).length = 4 := rfl
theorem fix4_byte (n : Nat) : Byte (fix4 n) := by
  intro x hx
  simp only [fix4, List.mem_cons, List.not_mem_nil, or_false] at hx
  omega
theorem putfix_is (l : List Int) (n : Nat) (hl : l.length ≤ 1000) (k : Nat) (hk : 5 ≤ k) : num_PutFix.f k l (n : Int) 4 = some (l ++ fix4 n) := by
  obtain ⟨k, rfl⟩ : ∃ m, k = m + 1 + 1 + 1 + 1 + 1 := ⟨k - 5, by omega⟩
  unfold num_PutFix.f
  rw [show mx 0 (mn 4 8) = (4 : Int) from by decide]
  have e0 : wrap64 (0 + 1) = 1 := by decide +kernel
  have e1 : wrap64 (1 + 1) = 2 := by decide +kernel
  have e2 : wrap64 (2 + 1) = 3 := by decide +kernel
  have e3 : wrap64 (3 + 1) = 4 := by decide +kernel
  rw [num_PutFix.l0, if_pos (by decide), if_pos (by omega), e0]
  rw [num_PutFix.l0, if_pos (by decide), if_pos (by simp; omega), e1]
  rw [num_PutFix.l0, if_pos (by decide), if_pos (by simp; omega), e2]
  rw [num_PutFix.l0, if_pos (by decide), if_pos (by simp; omega), e3]
  rw [num_PutFix.l0, if_neg (by decide)]
  congr 1
  simp only [List.append_assoc, List.cons_append, List.nil_append, fix4]
  congr 1
  refine List.cons_eq_cons.2 ⟨by omega, List.cons_eq_cons.2 ⟨by omega, List.cons_eq_cons.2 ⟨by omega, List.cons_eq_cons.2 ⟨by omega, rfl⟩⟩⟩⟩
def fsum (l : List Int) : BitVec 32 := sum 0#32 (fix4 l.length ++ l)
def frameP (l : List Int) : List Int := fix4 l.length ++ (fix4 (fsum l).toNat ++ l)
theorem frameP_length (l : List Int) : (frameP l).length = 8 + l.length := by simp [frameP, fix4_length]; omega
theorem Byte.app {a b : List Int} (ha : Byte a) (hb : Byte b) : Byte (a ++ b) := fun x hx => (List.mem_append.1 hx).elim (ha x) (hb x)
theorem frameP_byte (l : List Int) (h : Byte l) : Byte (frameP l) := Byte.app (fix4_byte _) (Byte.app (fix4_byte _) h)
theorem wrapI (x : BitVec 32) : IntKind.u64.wrap (I x) = ((x.toNat : Nat) : Int) := by
  have := x.isLt
  unfold I
  rw [wrap_u64 _ (by omega) (by omega)]
theorem put_is (l : List Int) (h : Byte l) (hl : l.length ≤ 16777216) (k : Nat) (hk : 5 ≤ k) : frame_Put.f k l = some (frameP l, 0) := by
  unfold frame_Put.f
  rw [if_neg (by omega), wrap_u64 _ (by omega) (by omega), putfix_is [] l.length (by simp) k hk]
  simp only [Option.bind_some, List.nil_append]
  rw [sum_is _ (fix4_byte _)]
  simp only [Option.bind_some]
  rw [more_is _ _ h, sum_append]
  simp only [Option.bind_some]
  rw [wrapI, putfix_is _ _ (by rw [fix4_length]; omega) k hk]
  simp only [Option.bind_some]
  rw [if_pos (by rw [List.length_append, fix4_length, fix4_length]; omega), List.append_assoc]
  rfl
theorem take_is (x : BitVec 32) (c : Nat) : estreatref03_take.f (I x) (Int.tmod (c : Int) 2) = some (I (T (x ^^^ BitVec.ofNat 32 (c % 2)))) := by
  have hx := x.isLt
  have e1 : Int.tmod (I x) 2 = ((x.toNat % 2 : Nat) : Int) := by unfold I; rw [Int.tmod_eq_emod_of_nonneg (by omega)]; omega
  have e2 : Int.tmod (c : Int) 2 = ((c % 2 : Nat) : Int) := by rw [Int.tmod_eq_emod_of_nonneg (by omega)]; omega
  have e3 : (Int.tdiv (I x) 2) % 4294967296 = I (x >>> (1 : Nat)) := by
    rw [← half_I]
    have := I_range x
    rw [Int.tdiv_eq_ediv_of_nonneg (by omega)]
    omega
  unfold estreatref03_take.f
  rw [e1, e2, e3, poly_I, xor_I]
  unfold T
  have hs : (x ^^^ BitVec.ofNat 32 (c % 2)) >>> (1 : Nat) = x >>> (1 : Nat) := by
    apply BitVec.eq_of_toNat_eq
    rw [BitVec.toNat_ushiftRight, BitVec.toNat_ushiftRight, BitVec.toNat_xor, BitVec.toNat_ofNat, Nat.mod_eq_of_lt (show c % 2 < 2 ^ 32 from by omega), Nat.shiftRight_eq_div_pow, Nat.shiftRight_eq_div_pow, Nat.xor_div_two_pow, Nat.div_eq_of_lt (show c % 2 < 2 ^ 1 from by omega)]
    simp
  have hl : (x ^^^ BitVec.ofNat 32 (c % 2)).getLsbD 0 = decide (¬ x.toNat % 2 = c % 2) := by
    rw [BitVec.getLsbD_xor, BitVec.getLsbD_ofNat]
    show (x.toNat.testBit 0 ^^ _) = _
    rw [Nat.testBit_zero, Nat.testBit_zero]
    have h1 : x.toNat % 2 = 0 ∨ x.toNat % 2 = 1 := by omega
    have h2 : c % 2 = 0 ∨ c % 2 = 1 := by omega
    rcases h1 with h1 | h1 <;> rcases h2 with h2 | h2 <;> simp [h1, h2]
  rw [hs, hl]
  by_cases h : x.toNat % 2 = c % 2
  · rw [if_pos (by exact_mod_cast h)]
    simp [h]
  · rw [if_neg (by exact_mod_cast h)]
    simp [h]
theorem inner (l : List Int) (i : Int) (d : Nat) : ∀ (k : Nat) (v : BitVec 32) (c : Nat) (x8 : Int), 0 ≤ x8 → 8 - x8 = d → c < 4294967296 →
    estreatref03_More.l1 (k + d + 1) l (I v) i c x8 = estreatref03_More.l0 k l (I (feed d v c)) (wrap64 (i + 1)) := by
  induction d with
  | zero =>
    intro k v c x8 h0 hd hc
    simp only [estreatref03_More.l1]
    rw [if_neg (by omega)]
    rfl
  | succ d ih =>
    intro k v c x8 h0 hd hc
    rw [show k + (d + 1) + 1 = (k + d + 1) + 1 from by omega]
    simp only [estreatref03_More.l1]
    rw [if_pos (by omega), take_is v c]
    simp only [Option.bind_some]
    have e : (Int.tdiv (c : Int) 2) % 4294967296 = ((c / 2 : Nat) : Int) := by rw [Int.tdiv_eq_ediv_of_nonneg (by omega)]; omega
    have e8 : wrap64 (x8 + 1) = x8 + 1 := by unfold wrap64; omega
    rw [e, e8]
    exact ih k _ _ _ (by omega) (by omega) (by omega)
end Go.Proofs.YtjmhiklmlgbifaaGreatDoor.FrameMath
end
section
namespace Go.Proofs.YtjmhiklmlgbifaaGreatDoor.PMan
open Go.RowKit Go.Proofs.YtjmhiklmlgbifaaGreatDoorW.PrintWords Go.Proofs.YtjmhiklmlgbifaaGreatDoorW.PrintLast Go.Proofs.YtjmhiklmlgbifaaGreatDoorW.PrintMore
open Go.Proofs.YtjmhiklmlgbifaaGreatDoor.CrcMath Go.Proofs.YtjmhiklmlgbifaaGreatDoor.FrameMath
set_option linter.unusedVariables false
set_option linter.unusedSimpArgs false
def ones (l : List UInt8) : ByteArray := ⟨l.toArray⟩
/-- What the values of a manifest are by their kinds. -/
structure MnT (m : Mn) : Prop where
  l : ∀ r ∈ m.loose, ∀ v ∈ r, -9223372036854775808 ≤ v.f1 ∧ v.f1 ≤ 9223372036854775807
  g : ∀ g ∈ m.groups, Byte g.hd.dead ∧ Byte g.dead ∧ ∀ c ∈ g.hd.cols, (-9223372036854775808 ≤ c.z.f2.f1 ∧ c.z.f2.f1 ≤ 9223372036854775807) ∧ (-9223372036854775808 ≤ c.z.f3.f1 ∧ c.z.f3.f1 ≤ 9223372036854775807) ∧ Byte c.h
  e : ∀ x ∈ m.entries, Byte x.s ∧ Byte x.r
/-- How long a manifest's digests are. -/
structure MnL (m : Mn) : Prop where
  g : ∀ g ∈ m.groups, g.hd.dead.length = 32 ∧ ∀ c ∈ g.hd.cols, c.h.length = 32
  e : ∀ x ∈ m.entries, x.s.length = 32 ∧ x.r.length = 32
theorem MnC.len {w : World} {m : Mn} {As Ag Al Ae : Option Addr} {cs cg cl ce : Nat} (h : MnC w m As cs Ag cg Al cl Ae ce) : MnL m := by
  refine ⟨fun g hg => ?_, fun x hx => ?_⟩
  · obtain ⟨cs, hK⟩ := C_each h.g g hg (by decide)
    obtain ⟨A, c, B, d, rfl, h32, hc, hC, hd, hD⟩ := kRf_open hK
    refine ⟨h32, fun c hc => ?_⟩
    obtain ⟨cs, hK⟩ := C_each hC c hc (by decide)
    exact (kCH_open hK).2
  · obtain ⟨cs, hK⟩ := C_each h.e x hx (by decide)
    exact (kEn_open hK).2
theorem getD_of_mem {α : Type} {l : List α} {x : α} (d : α) (h : x ∈ l) : ∃ t, t < l.length ∧ l.getD t d = x := by
  obtain ⟨i, hi, rfl⟩ := List.getElem_of_mem h
  exact ⟨i, hi, by rw [List.getD_eq_getElem?_getD, List.getElem?_eq_getElem hi]; rfl⟩
theorem Small.vals {m : Mn} (hs : Small m) : (∀ r ∈ m.loose, r.length ≤ 70 ∧ ∀ v ∈ r, v.f2.size ≤ 60) ∧ ∀ g ∈ m.groups, g.hd.cols.length ≤ 70 ∧ g.dead.length ≤ 100 ∧ ∀ c ∈ g.hd.cols, c.z.f2.f2.size ≤ 60 ∧ c.z.f3.f2.size ≤ 60 := by
  refine ⟨fun r hr => ?_, fun g hg => ?_⟩
  · obtain ⟨t, ht, rfl⟩ := getD_of_mem [] hr
    refine ⟨(hs.l t ht).1, fun v hv => ?_⟩
    obtain ⟨u, hu, rfl⟩ := getD_of_mem z68 hv
    exact (hs.l t ht).2 u hu
  · obtain ⟨t, ht, rfl⟩ := getD_of_mem zRf hg
    refine ⟨(hs.g t ht).1, (hs.g t ht).2.1, fun c hc => ?_⟩
    obtain ⟨u, hu, rfl⟩ := getD_of_mem zCH hc
    exact (hs.g t ht).2.2 u hu
theorem MnT.ok {m : Mn} (h : MnT m) (hs : Small m) : MnOk m := by
  obtain ⟨h1, h2⟩ := hs.vals
  exact ⟨fun r hr v hv => ⟨h.l r hr v hv, by have := (h1 r hr).2 v hv; omega⟩, fun g hg c hc => ⟨⟨((h.g g hg).2.2 c hc).1, by have := ((h2 g hg).2.2 c hc).1; omega⟩, ⟨((h.g g hg).2.2 c hc).2.1, by have := ((h2 g hg).2.2 c hc).2; omega⟩⟩⟩
theorem varN_byte : ∀ (n : Nat) (x : Int), Byte (varN n x)
  | 0, x => fun y hy => by
    rw [varN, List.mem_singleton] at hy
    subst hy
    omega
  | n + 1, x => fun y hy => by
    rw [varN] at hy
    split at hy
    · rcases List.mem_cons.1 hy with rfl | hy
      · rw [or128 (x % 256) (by omega) (by omega)]
        omega
      · exact varN_byte n _ y hy
    · rw [List.mem_singleton] at hy
      subst hy
      omega
theorem varP_byte (x : Int) : Byte (varP x) := varN_byte 9 x
theorem txtP_byte (s : ByteArray) : Byte (txtP s) := fun y hy => by
  unfold txtP at hy
  obtain ⟨b, _, rfl⟩ := List.mem_map.1 hy
  have := b.toNat_lt
  omega
theorem one_byte (x : Int) : Byte [x % 256] := fun y hy => by
  rw [List.mem_singleton] at hy
  subst hy
  omega
theorem nil_byte : Byte [] := fun y hy => by simp at hy
theorem valP_byte (v : S68) : Byte (valP v) := by
  rw [valP, ← List.singleton_append]
  refine Byte.app (one_byte _) ?_
  split
  · exact varP_byte _
  · split
    · exact Byte.app (varP_byte _) (txtP_byte _)
    · exact nil_byte
theorem rowF_byte : ∀ r : List S68, Byte (rowF r)
  | [] => nil_byte
  | v :: r => Byte.app (valP_byte v) (rowF_byte r)
theorem rowsF_byte : ∀ l : List (List S68), Byte (rowsF l)
  | [] => nil_byte
  | r :: l => Byte.app (rowF_byte r) (rowsF_byte l)
theorem schemaL_byte : ∀ s : List S123, Byte (schemaL s)
  | [] => nil_byte
  | c :: s => Byte.app (fun y hy => by
      simp only [colB, List.mem_cons, List.not_mem_nil, or_false] at hy
      rcases hy with rfl | rfl | rfl
      · omega
      · split <;> omega
      · omega) (schemaL_byte s)
theorem colF_byte (c : CH) (h : Byte c.h) : Byte (colF c) := by
  unfold colF zoneF
  refine Byte.app (varP_byte _) (Byte.app ?_ h)
  split
  · exact fun y hy => by
      rcases List.mem_cons.1 hy with rfl | hy
      · omega
      · exact Byte.app (valP_byte _) (valP_byte _) y hy
  · exact fun y hy => by
      rw [List.mem_singleton] at hy
      omega
theorem colsF_byte : ∀ l : List CH, (∀ c ∈ l, Byte c.h) → Byte (colsF l)
  | [], _ => nil_byte
  | c :: l, h => Byte.app (colF_byte c (h c List.mem_cons_self)) (colsF_byte l fun c hc => h c (List.mem_cons_of_mem _ hc))
theorem groupsF_byte : ∀ l : List Rf, (∀ g ∈ l, Byte g.hd.dead ∧ Byte g.dead ∧ ∀ c ∈ g.hd.cols, Byte c.h) → Byte (groupsF l)
  | [], _ => nil_byte
  | g :: l, h => by
    obtain ⟨h1, h2, h3⟩ := h g List.mem_cons_self
    exact Byte.app (Byte.app (varP_byte _) (Byte.app (Byte.app (varP_byte _) (Byte.app (varP_byte _) (Byte.app h1 (colsF_byte _ h3)))) (Byte.app (varP_byte _) h2))) (groupsF_byte l fun g hg => h g (List.mem_cons_of_mem _ hg))
theorem entriesF_byte : ∀ l : List En, (∀ x ∈ l, Byte x.s ∧ Byte x.r) → Byte (entriesF l)
  | [], _ => nil_byte
  | x :: l, h => by
    obtain ⟨h1, h2⟩ := h x List.mem_cons_self
    exact Byte.app (Byte.app (Byte.app h1 (varP_byte _)) h2) (entriesF_byte l fun x hx => h x (List.mem_cons_of_mem _ hx))
theorem bodyP_byte (m : Mn) (h : MnT m) : Byte (bodyP m) := by
  unfold bodyP tailF rowsP
  refine Byte.app (varP_byte _) (Byte.app (varP_byte _) (Byte.app (varP_byte _) (Byte.app ?_ (Byte.app (varP_byte _) (Byte.app (groupsF_byte _ fun g hg => ⟨(h.g g hg).1, (h.g g hg).2.1, fun c hc => ((h.g g hg).2.2 c hc).2.2⟩) (Byte.app (Byte.app (varP_byte _) (rowsF_byte _)) (Byte.app (varP_byte _) (entriesF_byte _ h.e))))))))
  unfold schemaF
  rw [← List.singleton_append]
  exact Byte.app (one_byte _) (schemaL_byte _)
theorem flat_len {α : Type} (f : List α → List Int) (g : α → List Int) (h0 : f [] = []) (h1 : ∀ x l, f (x :: l) = g x ++ f l) (K : Nat) : ∀ l : List α, (∀ x ∈ l, (g x).length ≤ K) → (f l).length ≤ l.length * K
  | [], _ => by rw [h0]; simp
  | x :: l, h => by
    have a := flat_len f g h0 h1 K l (fun y hy => h y (List.mem_cons_of_mem _ hy))
    have b := h x List.mem_cons_self
    rw [h1, List.length_append, List.length_cons, Nat.add_mul]
    omega
theorem mul_le_of {a b c d : Nat} (h1 : a ≤ b * c) (h2 : b ≤ d) : a ≤ d * c := Nat.le_trans h1 (Nat.mul_le_mul_right c h2)
theorem valP_small (v : S68) (h : v.f2.size ≤ 60) : (valP v).length ≤ 90 := by
  have h1 := varP_len (zigP v.f1)
  have h2 := varP_len ((txtP v.f2).length : Int)
  have h3 := txtP_length v.f2
  unfold valP blobP
  rw [List.length_cons]
  split
  · omega
  · split
    · rw [List.length_append]; omega
    · simp
theorem colF_small (c : CH) (h : c.h.length = 32) (h1 : c.z.f2.f2.size ≤ 60) (h2 : c.z.f3.f2.size ≤ 60) : (colF c).length ≤ 240 := by
  have a := varP_len c.z.f0
  have b1 := valP_small c.z.f2 h1
  have b2 := valP_small c.z.f3 h2
  unfold colF zoneF
  rw [List.length_append, List.length_append, h]
  split
  · rw [List.length_cons, List.length_append]; omega
  · rw [List.length_singleton]; omega
theorem bodyP_small (m : Mn) (hs : Small m) (hl : MnL m) : (bodyP m).length ≤ 1000000 := by
  obtain ⟨h1, h2⟩ := hs.vals
  have v1 := varP_len m.gen
  have v2 := varP_len m.next
  have v3 := varP_len m.most
  have v4 := varP_len (m.groups.length : Int)
  have v5 := varP_len (m.loose.length : Int)
  have v6 := varP_len (m.entries.length : Int)
  have s1 : (schemaF m.schema).length ≤ 211 := by
    have := schemaL_len m.schema
    have := hs.s
    unfold schemaF
    rw [List.length_cons]
    omega
  have g1 : (groupsF m.groups).length ≤ 30 * 17100 := by
    refine mul_le_of (flat_len groupsF groupF rfl (fun _ _ => rfl) 17100 m.groups fun g hg => ?_) hs.gn
    have c1 : (colsF g.hd.cols).length ≤ 70 * 240 := mul_le_of (flat_len colsF colF rfl (fun _ _ => rfl) 240 g.hd.cols fun c hc => colF_small c ((hl.g g hg).2 c hc) ((h2 g hg).2.2 c hc).1 ((h2 g hg).2.2 c hc).2) (h2 g hg).1
    have a1 := varP_len g.id
    have a2 := varP_len g.hd.rows
    have a3 := varP_len g.hd.live
    have a4 := varP_len (g.dead.length : Int)
    have a5 := (hl.g g hg).1
    have a6 := (h2 g hg).2.1
    unfold groupF headP blobP
    simp only [List.length_append]
    omega
  have r1 : (rowsF m.loose).length ≤ 40 * 6300 := by
    refine mul_le_of (flat_len rowsF rowF rfl (fun _ _ => rfl) 6300 m.loose fun r hr => ?_) hs.ln
    exact mul_le_of (flat_len rowF valP rfl (fun _ _ => rfl) 90 r fun v hv => valP_small v ((h1 r hr).2 v hv)) (h1 r hr).1
  have e1 : (entriesF m.entries).length ≤ 40 * 74 := by
    refine mul_le_of (flat_len entriesF entP rfl (fun _ _ => rfl) 74 m.entries fun x hx => ?_) hs.en
    have a1 := varP_len x.g
    obtain ⟨a2, a3⟩ := hl.e x hx
    unfold entP
    simp only [List.length_append]
    omega
  unfold bodyP tailF rowsP
  simp only [List.length_append]
  omega
end Go.Proofs.YtjmhiklmlgbifaaGreatDoor.PMan
end
