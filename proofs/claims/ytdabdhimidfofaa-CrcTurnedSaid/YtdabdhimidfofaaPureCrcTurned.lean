/- Bytes (5 to 2000 of them) of which 1 to 32 bits in a row are turned have another sum; at every other input, too, the document's example holds. -/
import Derived.Test.YtdabdhimidfofaaPCrcTurnedx1
import Derived.Test.YtdabdhimidfofaaCrcMath
namespace Go.Proofs.Ytdabdhimidfofaa.Pure
open Go.RowKit Go.Proofs.Ytdabdhimidfofaa.PCrcTurned Go.Proofs.YtdabdhimidfofaaW.PrintWords Go.Proofs.YtdabdhimidfofaaW.PrintLast
open Go.Proofs.Ytdabdhimidfofaa.CrcMath

theorem bit_same : crc_bit = bitI := rfl
theorem bits_same (n : Nat) (v : Int) : crc_bits n v = bitsI n v := by
  induction n with
  | zero => rfl
  | succ n ih => show crc_bit (crc_bits n v) = bitI (bitsI n v); rw [ih]; rfl
theorem step_same : crc_step = stepI := by
  funext v c
  unfold crc_step stepI
  rw [bits_same]
theorem more_is (s : BitVec 32) (l : List Int) (h : Byte l) : crc_More.f (I s) l = some (I (sum s l)) := by
  unfold crc_More.f
  rw [step_same, moreI_eq s l h]
theorem sum_is (l : List Int) (h : Byte l) : crc_Sum.f l = some (I (sum 0#32 l)) := by
  unfold crc_Sum.f
  rw [show (0 : Int) = I 0#32 from rfl, more_is 0#32 l h]
  rfl
theorem awake_is : estreatlaw03_awake.f = some true := by decide +kernel
theorem byte_of (l : List Int) (h : ∀ x ∈ l, (Lit.int .u8 x).wf = true) : Byte l := by
  intro x hx
  have := h x hx
  have := wf_u8 this
  omega


/-- What is turned in the byte at place m: the burst's number w lies at the five places from p on. -/
def pat (p w m : Nat) : Nat := if p ≤ m ∧ m < p + 5 then w / 256 ^ (m - p) % 256 else 0
theorem pat_lt (p w m : Nat) : pat p w m < 256 := by
  unfold pat
  split <;> omega
theorem pats (p w r : Nat) : (List.range (p + (5 + r))).map (pat p w) = List.replicate p 0 ++ (low 5 w ++ List.replicate r 0) := by
  apply List.ext_getElem
  · simp [low]
    omega
  · intro m h1 h2
    rw [List.getElem_map, List.getElem_range]
    by_cases hp : m < p
    · rw [List.getElem_append_left (by simpa using hp), List.getElem_replicate]
      unfold pat
      rw [if_neg (by omega)]
    · rw [List.getElem_append_right (by simpa using (by omega : p ≤ m))]
      have hl : (low 5 w).length = 5 := rfl
      by_cases h5 : m < p + 5
      · rw [List.getElem_append_left (by simp only [List.length_replicate]; omega)]
        unfold pat
        rw [if_pos (by omega)]
        obtain ⟨q, rfl⟩ : ∃ q, m = p + q := ⟨m - p, by omega⟩
        have hq : q = 0 ∨ q = 1 ∨ q = 2 ∨ q = 3 ∨ q = 4 := by omega
        simp only [Nat.add_sub_cancel_left, List.length_replicate]
        rcases hq with h | h | h | h | h <;> subst h <;> simp [low] <;> omega
      · rw [List.getElem_append_right (by simp only [List.length_replicate]; omega), List.getElem_replicate]
        unfold pat
        rw [if_neg (by omega)]
/-- The bytes, the first j of the five turned. -/
def turned (l : List Int) (p w j m : Nat) : Int := if p ≤ m ∧ m < p + j then Go.bits .xor .u8 (l.getD m 0) ((pat p w m : Nat) : Int) else l.getD m 0
theorem turned_zero (l : List Int) (p w : Nat) : (List.range l.length).map (turned l p w 0) = l := by
  apply List.ext_getElem
  · simp
  · intro m h1 h2
    rw [List.getElem_map, List.getElem_range]
    unfold turned
    rw [if_neg (by omega), rd_get l m h2]
theorem turned_set (l : List Int) (p w j : Nat) (hj : j < 5) :
    ((List.range l.length).map (turned l p w j)).set (p + j) (Go.bits .xor .u8 (l.getD (p + j) 0) ((w / 256 ^ j % 256 : Nat) : Int)) = (List.range l.length).map (turned l p w (j + 1)) := by
  apply List.ext_getElem
  · simp
  · intro m h1 h2
    have hm : m < l.length := by simpa using h2
    rw [List.getElem_set, List.getElem_map, List.getElem_range, List.getElem_map, List.getElem_range]
    by_cases e : p + j = m
    · subst e
      rw [if_pos rfl]
      unfold turned pat
      rw [if_pos (by omega), if_pos (by omega), Nat.add_sub_cancel_left]
    · rw [if_neg e]
      unfold turned
      by_cases l1 : p ≤ m ∧ m < p + j
      · rw [if_pos l1, if_pos (by omega)]
      · rw [if_neg l1, if_neg (by omega)]
theorem turned_at (l : List Int) (p w j : Nat) (h : p + j < l.length) : rd ((List.range l.length).map (turned l p w j)) ((p + j : Nat) : Int) = l.getD (p + j) 0 := by
  unfold rd
  rw [Int.toNat_natCast, rd_get _ _ (by simpa using h), List.getElem_map, List.getElem_range]
  unfold turned
  rw [if_neg (by omega)]
theorem turned_is (l : List Int) (hB : Byte l) (p w m : Nat) (hm : m < l.length) : turned l p w 5 m = ((l[m].toNat ^^^ pat p w m : Nat) : Int) ∧ l[m].toNat ^^^ pat p w m < 256 := by
  obtain ⟨x, ex, hx⟩ := hB.at_ m hm
  unfold turned
  rw [rd_get l m hm, ex, Int.toNat_natCast]
  refine ⟨?_, xor_lt x _ hx (pat_lt p w m)⟩
  by_cases h : p ≤ m ∧ m < p + 5
  · rw [if_pos h, xor8_nat x _ hx (pat_lt p w m)]
  · rw [if_neg h]
    unfold pat
    rw [if_neg h, Nat.xor_zero]
theorem turned_bytes (l : List Int) (hB : Byte l) (p w : Nat) : Byte ((List.range l.length).map (turned l p w 5)) ∧
    CrcMath.bytes ((List.range l.length).map (turned l p w 5)) = List.zipWith (· ^^^ ·) (CrcMath.bytes l) ((List.range l.length).map (pat p w)) := by
  constructor
  · intro x hx
    simp only [List.mem_map, List.mem_range] at hx
    obtain ⟨i, hi, rfl⟩ := hx
    have := turned_is l hB p w i hi
    omega
  · apply List.ext_getElem
    · simp [CrcMath.bytes]
    · intro i hi1 hi2
      have hi : i < l.length := by simpa [CrcMath.bytes] using hi1
      have := turned_is l hB p w i hi
      simp only [List.getElem_zipWith, CrcMath.bytes, List.getElem_map, List.getElem_range]
      omega
/-- The sums of the two differ. -/
theorem differ (l : List Int) (hB : Byte l) (p s t : Nat) (hp : p + 5 ≤ l.length) (hs : s < 8) (ht : t < 2 ^ 32) (h0 : t ≠ 0) :
    sum 0#32 ((List.range l.length).map (turned l p (2 ^ s * t) 5)) ≠ sum 0#32 l := by
  intro h
  unfold sum at h
  rw [BitVec.xor_zero, (turned_bytes l hB p (2 ^ s * t)).2] at h
  have h1 : fold ones (List.zipWith (· ^^^ ·) (CrcMath.bytes l) ((List.range l.length).map (pat p (2 ^ s * t)))) = fold ones (CrcMath.bytes l) := by
    have := congrArg (fun x => ones ^^^ x) h
    simpa [← BitVec.xor_assoc] using this
  have h2 := fold_xor (CrcMath.bytes l) ((List.range l.length).map (pat p (2 ^ s * t))) ones 0#32 (by simp [CrcMath.bytes]) (bytes_lt hB) (by
    intro x hx
    simp only [List.mem_map] at hx
    obtain ⟨i, _, rfl⟩ := hx
    exact pat_lt _ _ _)
  rw [BitVec.xor_zero, h1] at h2
  have h3 : fold 0#32 ((List.range l.length).map (pat p (2 ^ s * t))) = 0#32 := by
    have := congrArg (fun x => fold ones (CrcMath.bytes l) ^^^ x) h2
    simpa [← BitVec.xor_assoc] using this.symm
  obtain ⟨r, hr⟩ : ∃ r, l.length = p + (5 + r) := ⟨l.length - p - 5, by omega⟩
  rw [hr, pats, fold_append, fold_zeros, Tn_zero, fold_append, fold_low, fold_zeros] at h3
  exact burst s t hs ht h0 (Tn_inj0 _ _ h3)

theorem burst_lt (s t : Nat) (hs : s < 8) (ht : t < 2 ^ 32) : 2 ^ s * t < 549755813888 := by
  have h7 : 2 ^ s ≤ 128 := Nat.pow_le_pow_right (n := 2) (i := s) (j := 7) (by decide) (by omega)
  have : 2 ^ s * t ≤ 128 * t := Nat.mul_le_mul_right _ h7
  have ht : t < 4294967296 := ht
  generalize 2 ^ s * t = q at *
  omega
theorem second (l : List Int) (hB : Byte l) (p s t : Nat) (hp : p + 5 ≤ l.length) (hl : l.length ≤ 2000) (hs : s < 8) (ht : t < 2 ^ 32) (h0 : t ≠ 0) (n : Nat) :
    ∀ (k j : Nat) (x8 : Int), wrap64 (Int.tdiv x8 8) = (p : Int) → j + n = 5 → n < k →
      estreatlaw03_CrcTurned.l1 k l ((List.range l.length).map (turned l p (2 ^ s * t) j)) x8 ((2 ^ s * t / 256 ^ j : Nat) : Int) ((p + j : Nat) : Int) = some true := by
  induction n with
  | zero =>
    intro k j x8 h8 hj hk
    obtain ⟨k, rfl⟩ : ∃ m, k = m + 1 := ⟨k - 1, by omega⟩
    obtain rfl : j = 5 := by omega
    have hd := differ l hB p s t hp hs ht h0
    simp only [estreatlaw03_CrcTurned.l1]
    have e5 : wrap64 ((p : Int) + 5) = ((p + 5 : Nat) : Int) := wrap_nat (p + 5) (by omega)
    rw [h8, e5, if_neg (by omega), sum_is _ (turned_bytes l hB p (2 ^ s * t)).1, sum_is l hB]
    simp only [Option.bind_some]
    rw [if_neg (fun e => hd (I_inj e)), awake_is]
    rfl
  | succ n ih =>
    intro k j x8 h8 hj hk
    obtain ⟨k, rfl⟩ : ∃ m, k = m + 1 := ⟨k - 1, by omega⟩
    have e5 : wrap64 ((p : Int) + 5) = ((p + 5 : Nat) : Int) := wrap_nat (p + 5) (by omega)
    have e1 : wrap64 (((p + j : Nat) : Int) + 1) = ((p + (j + 1) : Nat) : Int) := wrap_next (p + j) (by omega)
    have c1 : ((p + j : Nat) : Int) < ((p + 5 : Nat) : Int) := by omega
    have c2 : (0 : Int) ≤ ((p + j : Nat) : Int) := by omega
    have c3 : ((p + j : Nat) : Int) < (l.length : Int) := by omega
    have c5 : j < 5 := by omega
    have c6 : p + j < l.length := by omega
    have hih := ih k (j + 1) x8 h8 (by omega) (by omega)
    have hq : 2 ^ s * t / 256 ^ j < 549755813888 := Nat.lt_of_le_of_lt (Nat.div_le_self _ _) (burst_lt s t hs ht)
    have hn : 2 ^ s * t / 256 ^ (j + 1) = 2 ^ s * t / 256 ^ j / 256 := by rw [Nat.pow_succ, ← Nat.div_div_eq_div_mul]
    have e2 := div256 _ hq
    have e3 := mod256 (2 ^ s * t / 256 ^ j)
    have hset := turned_set l p (2 ^ s * t) j c5
    have hrd := turned_at l p (2 ^ s * t) j c6
    rw [hn] at hih
    generalize 2 ^ s * t / 256 ^ j = q at *
    clear ih hn ht hq
    simp only [estreatlaw03_CrcTurned.l1]
    rw [h8, e5, if_pos c1, if_pos c2, if_pos (by rw [List.length_map, List.length_range]; exact c3), e1, e2, e3, hrd, Int.toNat_natCast, hset]
    exact hih
theorem first (l x7 : List Int) (x8 : Int) (t s : Nat) (hs : s < 8) (h8 : Int.tmod x8 8 = (s : Int)) (ht : t < 2 ^ 32) (n : Nat) :
    ∀ (k j : Nat), j + n = s → estreatlaw03_CrcTurned.l0 (k + n + 1) l x7 x8 ((2 ^ j * t : Nat) : Int) (j : Int) = estreatlaw03_CrcTurned.l1 k l x7 x8 ((2 ^ s * t : Nat) : Int) (wrap64 (Int.tdiv x8 8)) := by
  induction n with
  | zero =>
    intro k j hj
    obtain rfl : j = s := by omega
    simp only [estreatlaw03_CrcTurned.l0]
    rw [h8, if_neg (by omega)]
  | succ n ih =>
    intro k j hj
    have hw : 2 ^ j * t < 549755813888 := burst_lt j t (by omega) ht
    have hih := ih k (j + 1) (by omega)
    have hn : 2 ^ (j + 1) * t = 2 ^ j * t * 2 := by rw [Nat.pow_succ, Nat.mul_right_comm]
    rw [hn] at hih
    generalize 2 ^ j * t = q at *
    clear ih hn ht
    rw [show k + (n + 1) + 1 = (k + n + 1) + 1 from by omega, estreatlaw03_CrcTurned.l0]
    have e1 := wrap_next j (by omega)
    have e2 := twice q hw
    rw [h8, if_pos (by omega), e1, e2]
    exact hih
theorem CrcTurned : estreatlaw03_CrcTurned.Pure := by
  intro l a t _ hl hb ha ht
  have hB := byte_of l hb
  have ht := wf_u32 ht
  refine ⟨20, ?_⟩
  have hj : estreatlaw03_CrcTurned.j0 20 l a t true = some true := by
    simp only [estreatlaw03_CrcTurned.j0]
    rw [awake_is]
    rfl
  unfold estreatlaw03_CrcTurned.f
  by_cases h : (l.length : Int) > 2000
  · rw [if_pos h, hj]
  · rw [if_neg h]
    by_cases h5 : (l.length : Int) < 5
    · rw [if_pos h5, hj]
    · rw [if_neg h5]
      by_cases h0 : t = 0
      · rw [show (t == 0) = true from by simpa using h0, hj]
      · rw [show (t == 0) = false from by simpa using h0]
        simp only [estreatlaw03_CrcTurned.j0]
        rw [if_neg (by simp)]
        simp only [Option.bind_some, List.length_nil, List.nil_append]
        rw [if_pos (by omega)]
        have e1 : wrap64 ((l.length : Int) - 4) = (l.length : Int) - 4 := by unfold wrap64; omega
        have e2 : wrap64 (8 * ((l.length : Int) - 4)) = ((8 * (l.length - 4) : Nat) : Int) := by unfold wrap64; omega
        obtain ⟨r, hr, hlt⟩ := pick_in estreatref01_Pick.f (fun a n => rfl) a (8 * (l.length - 4)) (by omega) (by omega)
        rw [e1, e2, hr]
        simp only [Option.bind_some]
        obtain ⟨n, rfl⟩ : ∃ n : Nat, t = (n : Int) := ⟨t.toNat, by omega⟩
        rw [wrap_u64 _ (by omega) (by omega)]
        have hm : Int.tmod (r : Int) 8 = ((r % 8 : Nat) : Int) := by rw [Int.tmod_eq_emod_of_nonneg (by omega)]; omega
        have hd : wrap64 (Int.tdiv (r : Int) 8) = ((r / 8 : Nat) : Int) := by rw [Int.tdiv_eq_ediv_of_nonneg (by omega)]; unfold wrap64; omega
        have hf := first l l (r : Int) n (r % 8) (by omega) hm (by omega) (r % 8) (18 - r % 8) 0 (by omega)
        rw [show 18 - r % 8 + r % 8 + 1 = 19 from by omega, Nat.pow_zero, Nat.one_mul, hd] at hf
        rw [show (0 : Int) = ((0 : Nat) : Int) from rfl, hf]
        have hg := second l hB (r / 8) (r % 8) n (by omega) (by omega) (by omega) (by omega) (by omega) 5 (18 - r % 8) 0 (r : Int) hd (by omega) (by omega)
        rw [turned_zero, Nat.pow_zero, Nat.div_one, Nat.add_zero] at hg
        exact hg

end Go.Proofs.Ytdabdhimidfofaa.Pure
