/- Texts of this proof, put into one, without what it does not use: MtA, MtB. -/
import Derived.Test.YtjmhiklmlgbifaaGreatDoorPB12
import Derived.Test.YtjmhiklmlgbifaaGreatDoorPB19
import Derived.Test.YtjmhiklmlgbifaaGreatDoorPB30
import Derived.Test.YtjmhiklmlgbifaaGreatDoorPB21
section
namespace Go.Proofs.YtjmhiklmlgbifaaGreatDoor.PMan
open Go.RowKit Go.Proofs.YtjmhiklmlgbifaaGreatDoorW.PrintWords Go.Proofs.YtjmhiklmlgbifaaGreatDoorW.PrintLast Go.Proofs.YtjmhiklmlgbifaaGreatDoorW.PrintMore
set_option linter.unusedVariables false
set_option linter.unusedSimpArgs false
/-- A byte that ends a short number wrongly. -/
def badB (n : Nat) (c : Int) : Prop := n > 9 ∨ (n = 9 ∧ c % 128 > 1) ∨ (n > 0 ∧ c = 0)
instance (n : Nat) (c : Int) : Decidable (badB n c) := by unfold badB; infer_instance
/-- A short number read, n bytes behind its begin, v so far: its value, how many bytes, an error's number. -/
def shortL : Nat → Int → List Int → Int × Int × Int
  | _, _, [] => (0, 0, 2)
  | n, v, c :: l => if badB n c then (0, 0, 4) else if c < 128 then (v + c % 128 * 128 ^ n, (n : Int) + 1, 0) else shortL (n + 1) (v + c % 128 * 128 ^ n) l
def shortP (l : List Int) : Int × Int × Int := shortL 0 0 l
def ByteL (l : List Int) : Prop := ∀ x ∈ l, 0 ≤ x ∧ x < 256
theorem ByteL.getD {l : List Int} (h : ByteL l) (i : Nat) (hi : i < l.length) : 0 ≤ l.getD i 0 ∧ l.getD i 0 < 256 := by
  rw [List.getD_eq_getElem?_getD, List.getElem?_eq_getElem hi]
  exact h _ (List.getElem_mem hi)
theorem p128 (n : Nat) : (128 : Int) ^ n = ((2 ^ (7 * n) : Nat) : Int) := by
  rw [Nat.pow_mul]
  simp
theorem low_le (c : Int) : 0 ≤ c % 128 ∧ c % 128 ≤ 127 := by omega
theorem term_bound (n : Nat) (c : Int) (hn : n ≤ 9) (h9 : n = 9 → c % 128 ≤ 1) : 0 ≤ c % 128 * 128 ^ n ∧ c % 128 * 128 ^ n + 128 ^ n ≤ 128 ^ (n + 1) ∧ c % 128 * 128 ^ n < 18446744073709551616 ∧ (n = 9 → c % 128 * 128 ^ n + 128 ^ n ≤ 18446744073709551616) := by
  have hl := low_le c
  have hp : (0 : Int) < 128 ^ n := by rw [p128]; exact Int.natCast_pos.2 (Nat.pow_pos (by decide))
  have e : (128 : Int) ^ (n + 1) = 128 ^ n * 128 := Int.pow_succ 128 n
  have hm : c % 128 * 128 ^ n ≤ 127 * 128 ^ n := Int.mul_le_mul_of_nonneg_right hl.2 (Int.le_of_lt hp)
  have hm0 : 0 ≤ c % 128 * 128 ^ n := Int.mul_nonneg hl.1 (Int.le_of_lt hp)
  have h9v : n = 9 → (128 : Int) ^ n = 9223372036854775808 := fun h => by rw [h]; decide
  have h9m : n = 9 → c % 128 * 128 ^ n ≤ 1 * 128 ^ n := fun h => Int.mul_le_mul_of_nonneg_right (h9 h) (Int.le_of_lt hp)
  refine ⟨hm0, by omega, ?_, fun h => by have := h9v h; have := h9m h; omega⟩
  by_cases h : n = 9
  · have := h9v h; have := h9m h; omega
  · have h8 : (128 : Int) ^ n ≤ 128 ^ 8 := by
      rw [p128, p128]
      exact Int.ofNat_le.2 (Nat.pow_le_pow_right (by decide) (by omega))
    have : (128 : Int) ^ 8 = 72057594037927936 := by decide
    omega
theorem look_l1 (l : List Int) (v low : Int) (i : Nat) (hi : i < l.length) (hb : l.length < 1000000000) : ∀ (d j e : Nat) (t : Int), j + d = i → i ≤ 9 → t = 128 ^ j →
    estreatref01_look.l1 (d + 1 + e) l v (i : Int) low t (j : Int) = if l.getD i 0 < 128 then some (IntKind.u64.wrap (v + IntKind.u64.wrap (low * 128 ^ i)), ((i + 1 : Nat) : Int), 0) else estreatref01_look.l0 e l (IntKind.u64.wrap (v + IntKind.u64.wrap (low * 128 ^ i))) ((i + 1 : Nat) : Int)
  | 0, j, e, t, hj, h9, ht => by
    obtain rfl : j = i := by omega
    have hw : wrap64 ((j : Int) + 1) = ((j + 1 : Nat) : Int) := by unfold wrap64; omega
    have e1 : rd l (j : Int) = l.getD j 0 := rfl
    rw [show 0 + 1 + e = e + 1 by omega, estreatref01_look.l1, if_neg (by omega), if_pos (by omega), if_pos (by omega), e1, ht, hw]
  | d + 1, j, e, t, hj, h9, ht => by
    have hw : wrap64 ((j : Int) + 1) = ((j + 1 : Nat) : Int) := by unfold wrap64; omega
    have h8 : (128 : Int) ^ (j + 1) ≤ 128 ^ 9 := by
      rw [p128, p128]
      exact Int.ofNat_le.2 (Nat.pow_le_pow_right (by decide) (by omega))
    have h9v : (128 : Int) ^ 9 = 9223372036854775808 := by decide
    have h0 : (0 : Int) ≤ 128 ^ (j + 1) := by rw [p128]; exact Int.natCast_nonneg _
    rw [show d + 1 + 1 + e = (d + 1 + e) + 1 by omega, estreatref01_look.l1, if_pos (by omega), hw, ht, ← Int.pow_succ, u64_small _ h0 (by omega), look_l1 l v low i hi hb d (j + 1) e _ (by omega) h9 rfl]
theorem look_l0 (l : List Int) (hB : ByteL l) (hb : l.length < 1000000000) : ∀ (m i e : Nat) (v : Int), i + m = l.length → 0 ≤ v → v < 128 ^ i → (i ≤ 9 ∨ v = v) →
    i ≤ 10 → (i = 10 → v < 18446744073709551616) → estreatref01_look.l0 (20 * m + 1 + e) l v (i : Int) = some (shortL i v (l.drop i))
  | 0, i, e, v, hm, h0, h1, _, h10, hv => by
    rw [show 20 * 0 + 1 + e = e + 1 by omega, estreatref01_look.l0, if_neg (by omega), List.drop_eq_nil_of_le (by omega), shortL]
  | m + 1, i, e, v, hm, h0, h1, _, h10, hv => by
    have hi : i < l.length := by omega
    have e1 : rd l (i : Int) = l.getD i 0 := rfl
    have hc := hB.getD i hi
    have hd : l.drop i = l.getD i 0 :: l.drop (i + 1) := drop_cons l i 0 hi
    rw [show 20 * (m + 1) + 1 + e = (20 * m + 1 + e + 18 + 1) + 1 by omega, estreatref01_look.l0, if_pos (by omega), if_pos (by omega), e1, hd, shortL]
    generalize l.getD i 0 = c at *
    have e2 : Int.tmod c 128 = c % 128 := Int.tmod_eq_emod_of_nonneg hc.1
    have hl := low_le c
    rw [e2, u64_small (c % 128) hl.1 (by omega)]
    have bad : badB i c → some ((0 : Int), (0 : Int), (4 : Int)) = some (if badB i c then (0, 0, 4) else if c < 128 then (v + c % 128 * 128 ^ i, (i : Int) + 1, 0) else shortL (i + 1) (v + c % 128 * 128 ^ i) (l.drop (i + 1))) := fun h => by rw [if_pos h]
    have good : ¬ badB i c → i ≤ 9 → estreatref01_look.j1 (20 * m + 1 + e + 18 + 1) l v (i : Int) (c % 128) false = some (if badB i c then (0, 0, 4) else if c < 128 then (v + c % 128 * 128 ^ i, (i : Int) + 1, 0) else shortL (i + 1) (v + c % 128 * 128 ^ i) (l.drop (i + 1))) := fun h h9 => by
      have h9' : i = 9 → c % 128 ≤ 1 := fun q => by
        by_cases g : c % 128 ≤ 1
        · exact g
        · exact absurd (.inr (.inl ⟨q, by omega⟩)) h
      obtain ⟨t0, t1, t2, t3⟩ := term_bound i c h9 h9'
      have hv2 : v + c % 128 * 128 ^ i < 18446744073709551616 := by
        by_cases q : i = 9
        · have := t3 q; omega
        · have h8 : (128 : Int) ^ (i + 1) ≤ 128 ^ 9 := by
            rw [p128, p128]
            exact Int.ofNat_le.2 (Nat.pow_le_pow_right (by decide) (by omega))
          have h9v : (128 : Int) ^ 9 = 9223372036854775808 := by decide
          omega
      have hcd : l.getD i 0 = c := by
        have := congrArg (List.head? ·) hd
        rw [List.head?_drop, List.head?_cons] at this
        rw [List.getD_eq_getElem?_getD, this]
        rfl
      have hl1 := look_l1 l v (c % 128) i hi hb i 0 (20 * m + 1 + (e + 17 - i)) 1 (by omega) h9 rfl
      rw [show ((0 : Nat) : Int) = 0 from rfl] at hl1
      rw [if_neg h, estreatref01_look.j1, if_neg (by decide), show 20 * m + 1 + e + 18 = i + 1 + (20 * m + 1 + (e + 17 - i)) by omega, hl1, hcd, u64_small _ t0 t2, u64_small _ (by omega) hv2]
      by_cases q : c < 128
      · rw [if_pos q, if_pos q]
        rfl
      · rw [if_neg q, if_neg q, look_l0 l hB hb m (i + 1) _ _ (by omega) (by omega) (by omega) (.inr rfl) (by omega) (fun _ => hv2)]
    by_cases k1 : i = 10
    · rw [if_pos (by omega), estreatref01_look.j1, if_pos rfl]
      exact bad (.inl (by omega))
    rw [if_neg (by omega)]
    by_cases k2 : (i : Int) = 9
    · rw [if_pos k2]
      by_cases k3 : c % 128 > 1
      · rw [if_pos k3, estreatref01_look.j1, if_pos rfl]
        exact bad (.inr (.inl ⟨by omega, k3⟩))
      · rw [if_neg k3, if_pos (by omega)]
        by_cases k4 : c = 0
        · rw [show (c == 0) = true by simpa using k4, estreatref01_look.j1, if_pos rfl]
          exact bad (.inr (.inr ⟨by omega, k4⟩))
        · rw [show (c == 0) = false by simpa using k4]
          exact good (fun h => by rcases h with h | h | h <;> omega) (by omega)
    · rw [if_neg k2]
      by_cases k5 : (i : Int) > 0
      · rw [if_pos k5]
        by_cases k4 : c = 0
        · rw [show (c == 0) = true by simpa using k4, estreatref01_look.j1, if_pos rfl]
          exact bad (.inr (.inr ⟨by omega, k4⟩))
        · rw [show (c == 0) = false by simpa using k4]
          exact good (fun h => by rcases h with h | h | h <;> omega) (by omega)
      · rw [if_neg k5]
        exact good (fun h => by rcases h with h | h | h <;> omega) (by omega)
theorem look_p (l : List Int) (hB : ByteL l) (hb : l.length < 1000000000) : estreatref01_look.f (20 * l.length + 1) l = some (shortP l) := by
  have := look_l0 l hB hb l.length 0 0 0 (by omega) (by decide) (by decide) (.inl (by decide)) (by decide) (fun h => by omega)
  rw [List.drop_zero] at this
  exact this
theorem and127 (c : Int) (h0 : 0 ≤ c) (h1 : c < 256) : Go.bits .and .u8 c 127 = c % 128 := by
  obtain ⟨n, rfl⟩ : ∃ n : Nat, c = (n : Int) := ⟨c.toNat, by omega⟩
  have : ∀ a : Fin 256, Go.bits .and .u8 ((a.val : Nat) : Int) 127 = ((a.val : Nat) : Int) % 128 := by decide +kernel
  exact this ⟨n, by omega⟩
theorem and128 (c : Int) (h0 : 0 ≤ c) (h1 : c < 256) : Go.bits .and .u8 c 128 = 0 ↔ c < 128 := by
  obtain ⟨n, rfl⟩ : ∃ n : Nat, c = (n : Int) := ⟨c.toNat, by omega⟩
  have : ∀ a : Fin 256, Go.bits .and .u8 ((a.val : Nat) : Int) 128 = 0 ↔ ((a.val : Nat) : Int) < 128 := by decide +kernel
  exact this ⟨n, by omega⟩
theorem or_term (v t : Int) (i : Nat) (hv0 : 0 ≤ v) (hv : v < 128 ^ i) (c : Int) (ht : t = c % 128 * 128 ^ i) (hb : v + t < 18446744073709551616) : Go.bits .or .u64 v t = v + t := by
  have hl := low_le c
  obtain ⟨a, rfl⟩ : ∃ a : Nat, v = (a : Int) := ⟨v.toNat, by omega⟩
  obtain ⟨q, hq⟩ : ∃ q : Nat, c % 128 = (q : Int) := ⟨(c % 128).toNat, by omega⟩
  rw [p128] at hv ht
  have e : t = ((q * 2 ^ (7 * i) : Nat) : Int) := by rw [ht, hq, Int.natCast_mul]
  have ha : a < 2 ^ (7 * i) := Int.ofNat_lt.1 hv
  rw [e] at hb ⊢
  rw [bits_or_u64_nat a _ (by omega) (by omega), Nat.or_comm, Nat.mul_comm, ← Nat.two_pow_add_eq_or_of_lt ha, Int.natCast_add]
  omega
theorem short_l0 (l : List Int) (hB : ByteL l) (hb : l.length < 1000000000) : ∀ (m i e : Nat) (v : Int), i + m = l.length → 0 ≤ v → v < 128 ^ i → i ≤ 10 →
    num_short.l0 (3 * m + 1 + e) l v (i : Int) ((7 * i : Nat) : Int) = some (shortL i v (l.drop i))
  | 0, i, e, v, hm, h0, h1, h10 => by
    rw [show 3 * 0 + 1 + e = e + 1 by omega, num_short.l0, if_pos (by omega), List.drop_eq_nil_of_le (by omega), shortL]
  | m + 1, i, e, v, hm, h0, h1, h10 => by
    have hi : i < l.length := by omega
    have e1 : rd l (i : Int) = l.getD i 0 := rfl
    have hc := hB.getD i hi
    have hd : l.drop i = l.getD i 0 :: l.drop (i + 1) := drop_cons l i 0 hi
    have hw : wrap64 ((i : Int) + 1) = ((i + 1 : Nat) : Int) := by unfold wrap64; omega
    have hw7 : wrap64 (((7 * i : Nat) : Int) + 7) = ((7 * (i + 1) : Nat) : Int) := by unfold wrap64; omega
    rw [show 3 * (m + 1) + 1 + e = (3 * m + 1 + e + 1 + 1) + 1 by omega, num_short.l0, if_neg (by omega), if_pos (by omega), if_pos (by omega), e1, hd, shortL, hw]
    generalize l.getD i 0 = c at *
    have hl := low_le c
    rw [and127 c hc.1 hc.2, u64_small (c % 128) hl.1 (by omega)]
    have bad : badB i c → some ((0 : Int), (0 : Int), (4 : Int)) = some (if badB i c then (0, 0, 4) else if c < 128 then (v + c % 128 * 128 ^ i, (i : Int) + 1, 0) else shortL (i + 1) (v + c % 128 * 128 ^ i) (l.drop (i + 1))) := fun h => by rw [if_pos h]
    have good : (i = 9 → c % 128 ≤ 1) → i ≤ 9 → num_short.j1 (3 * m + 1 + e + 1 + 1) l v ((i + 1 : Nat) : Int) ((7 * i : Nat) : Int) c (c % 128) false = some (if badB i c then (0, 0, 4) else if c < 128 then (v + c % 128 * 128 ^ i, (i : Int) + 1, 0) else shortL (i + 1) (v + c % 128 * 128 ^ i) (l.drop (i + 1))) := fun h9' h9 => by
      obtain ⟨t0, t1, t2, t3⟩ := term_bound i c h9 h9'
      have hv2 : v + c % 128 * 128 ^ i < 18446744073709551616 := by
        by_cases q : i = 9
        · have := t3 q; omega
        · have h8 : (128 : Int) ^ (i + 1) ≤ 128 ^ 9 := by
            rw [p128, p128]
            exact Int.ofNat_le.2 (Nat.pow_le_pow_right (by decide) (by omega))
          have h9v : (128 : Int) ^ 9 = 9223372036854775808 := by decide
          omega
      have hsh : shl .u64 (c % 128) (IntKind.u64.wrap ((7 * i : Nat) : Int)) = c % 128 * 128 ^ i := by
        unfold shl
        rw [u64_small ((7 * i : Nat) : Int) (by omega) (by omega), Int.toNat_natCast, Nat.min_eq_left (show 7 * i ≤ IntKind.u64.bits from Nat.le_trans (show 7 * i ≤ 63 by omega) (by decide)), show (2 : Int) ^ (7 * i) = 128 ^ i by rw [p128, Int.natCast_pow]; rfl, u64_small _ t0 t2]
      have fin : ¬ badB i c → num_short.j2 (3 * m + 1 + e + 1) l v ((i + 1 : Nat) : Int) ((7 * i : Nat) : Int) c (c % 128) false = some (if badB i c then (0, 0, 4) else if c < 128 then (v + c % 128 * 128 ^ i, (i : Int) + 1, 0) else shortL (i + 1) (v + c % 128 * 128 ^ i) (l.drop (i + 1))) := fun hg => by
        rw [num_short.j2, if_neg (by decide), if_pos (by rw [u64_small _ (by omega) (by omega)]; omega), hsh, or_term v _ i h0 h1 c rfl hv2, hw7, if_neg hg]
        by_cases q : c < 128
        · rw [if_pos ((and128 c hc.1 hc.2).2 q), if_pos q]
          rfl
        · rw [if_neg (fun h => q ((and128 c hc.1 hc.2).1 h)), if_neg q, short_l0 l hB hb m (i + 1) e _ (by omega) (by omega) (by omega) (by omega)]
      rw [num_short.j1, if_neg (by decide)]
      by_cases k4 : c = 0
      · rw [if_pos k4]
        by_cases k5 : i = 0
        · rw [decide_eq_false (by omega)]
          exact fin (fun h => by rcases h with h | h | h <;> omega)
        · rw [decide_eq_true (by omega), num_short.j2, if_pos rfl]
          exact bad (.inr (.inr ⟨by omega, k4⟩))
      · rw [if_neg k4]
        exact fin (fun h => by rcases h with h | ⟨h, g⟩ | h <;> first | omega | (have := h9' h; omega))
    by_cases k1 : i = 10
    · rw [if_pos (by omega), decide_eq_true (by omega), num_short.j1, if_pos rfl]
      exact bad (.inl (by omega))
    rw [if_neg (by omega), hw7]
    by_cases k2 : i = 9
    · have e64 : IntKind.u64.wrap (wrap64 (64 - ((7 * i : Nat) : Int))) = 1 := by rw [k2, show wrap64 (64 - ((7 * 9 : Nat) : Int)) = 1 from by unfold wrap64; omega, u64_small 1 (by decide) (by decide)]
      have esh : shr .u64 (c % 128) 1 = c % 128 / 2 := rfl
      rw [if_pos (by omega), e64, if_pos (by decide), esh]
      by_cases k3 : c % 128 > 1
      · rw [show (c % 128 / 2 != 0) = true by simp; omega, num_short.j1, if_pos rfl]
        exact bad (.inr (.inl ⟨k2, k3⟩))
      · rw [show (c % 128 / 2 != 0) = false by simp; omega]
        exact good (fun _ => by omega) (by omega)
    · rw [if_neg (by omega)]
      exact good (fun h => absurd h k2) (by omega)
theorem short_p (l : List Int) (hB : ByteL l) (hb : l.length < 1000000000) : num_short.f (3 * l.length + 1) l = some (shortP l) := by
  have := short_l0 l hB hb l.length 0 0 0 (by omega) (by decide) (by decide) (by decide)
  rw [List.drop_zero] at this
  exact this
theorem shortL_facts : ∀ (l : List Int) (n : Nat) (v : Int), 0 ≤ v → v < 128 ^ n → n ≤ 10 → ByteL l → let r := shortL n v l
    (r.2.2 = 0 ∨ r.2.2 = 2 ∨ r.2.2 = 4) ∧ (r.2.2 ≠ 0 → r.1 = 0 ∧ r.2.1 = 0) ∧ (r.2.2 = 0 → 0 ≤ r.1 ∧ r.1 < 18446744073709551616 ∧ (n : Int) < r.2.1 ∧ r.2.1 ≤ n + l.length)
  | [], n, v, h0, h1, hn, hB => by simp [shortL]
  | c :: l, n, v, h0, h1, hn, hB => by
    have hc := hB c List.mem_cons_self
    dsimp only
    rw [shortL]
    by_cases hg : badB n c
    · rw [if_pos hg]; simp
    · rw [if_neg hg]
      have h9 : n ≤ 9 := by
        by_cases q : n ≤ 9
        · exact q
        · exact absurd (.inl (by omega)) hg
      have h9' : n = 9 → c % 128 ≤ 1 := fun q => by
        by_cases g : c % 128 ≤ 1
        · exact g
        · exact absurd (.inr (.inl ⟨q, by omega⟩)) hg
      obtain ⟨t0, t1, t2, t3⟩ := term_bound n c h9 h9'
      have hv2 : v + c % 128 * 128 ^ n < 18446744073709551616 := by
        by_cases q : n = 9
        · have := t3 q; omega
        · have h8 : (128 : Int) ^ (n + 1) ≤ 128 ^ 9 := by
            rw [p128, p128]
            exact Int.ofNat_le.2 (Nat.pow_le_pow_right (by decide) (by omega))
          have h9v : (128 : Int) ^ 9 = 9223372036854775808 := by decide
          omega
      by_cases q : c < 128
      · rw [if_pos q]
        refine ⟨.inl rfl, fun h => absurd rfl h, fun _ => ⟨by omega, hv2, by dsimp only; omega, by dsimp only; rw [List.length_cons]; omega⟩⟩
      · rw [if_neg q]
        obtain ⟨a1, a2, a3⟩ := shortL_facts l (n + 1) (v + c % 128 * 128 ^ n) (by omega) (by omega) (by omega) (fun x hx => hB x (List.mem_cons_of_mem _ hx))
        refine ⟨a1, a2, fun h => ?_⟩
        obtain ⟨b1, b2, b3, b4⟩ := a3 h
        refine ⟨b1, b2, by omega, by rw [List.length_cons]; omega⟩
theorem shortP_facts (l : List Int) (hB : ByteL l) : ((shortP l).2.2 = 0 ∨ (shortP l).2.2 = 2 ∨ (shortP l).2.2 = 4) ∧ ((shortP l).2.2 ≠ 0 → (shortP l).1 = 0 ∧ (shortP l).2.1 = 0) ∧ ((shortP l).2.2 = 0 → 0 ≤ (shortP l).1 ∧ (shortP l).1 < 18446744073709551616 ∧ 0 < (shortP l).2.1 ∧ (shortP l).2.1 ≤ l.length) := by
  obtain ⟨a1, a2, a3⟩ := shortL_facts l 0 0 (by decide) (by decide) (by decide) hB
  refine ⟨a1, a2, fun h => ?_⟩
  obtain ⟨b1, b2, b3, b4⟩ := a3 h
  exact ⟨b1, b2, b3, by have : shortL 0 0 l = shortP l := rfl; rw [this] at b4; omega⟩
end Go.Proofs.YtjmhiklmlgbifaaGreatDoor.PMan
end
section
namespace Go.Proofs.YtjmhiklmlgbifaaGreatDoor.PMan
open Go.RowKit Go.Proofs.YtjmhiklmlgbifaaGreatDoorW.PrintWords Go.Proofs.YtjmhiklmlgbifaaGreatDoorW.PrintLast Go.Proofs.YtjmhiklmlgbifaaGreatDoorW.PrintMore
set_option linter.unusedVariables false
set_option linter.unusedSimpArgs false
theorem RD.zero {w0 W : World} {g : Nat} {f0 : List Int} {f1 f3 : Int} (h : RD w0 W g f0 f1 0 f3) : f3 = 0 := by
  obtain ⟨A, c, ev, _, _, _, _, h5⟩ := h
  rcases h5 with ⟨_, h, _⟩ | ⟨h, _⟩
  · exact h
  · exact absurd rfl h
theorem ByteL.drop {l : List Int} (h : ByteL l) (n : Nat) : ByteL (l.drop n) := fun x hx => h x (List.mem_of_mem_drop hx)
/-- A short number taken: its value, the reader's place, error and that one's place. -/
def varS (s0 : List Int) (s1 s2 s3 : Int) : Int × Int × Int × Int :=
  if s2 = 0 then (if (shortP (s0.drop s1.toNat)).2.2 = 0 then ((shortP (s0.drop s1.toNat)).1, s1 + (shortP (s0.drop s1.toNat)).2.1, 0, s3) else (0, s1, (shortP (s0.drop s1.toNat)).2.2, s1)) else (0, s1, s2, s3)
set_option maxHeartbeats 1600000 in
set_option maxRecDepth 100000 in
theorem rdVar_calls (g : Nat) (s0 : List Int) (s1 s2 s3 : Int) (w0 w : World) (hI : RD w0 w g s0 s1 s2 s3) (hB : Below w0.heap.size w0 w) (h0 : 0 ≤ s1) (h1 : s1 ≤ s0.length) (hb : s0.length < 1000000000) (hby : ByteL s0) :
    Calls Tryz.prog 118 #[.pointer (some ⟨g, 0, none⟩)] w fun e w' => e = .returned (.int .u64 (varS s0 s1 s2 s3).1) ∧ RD w0 w' g s0 (varS s0 s1 s2 s3).2.1 (varS s0 s1 s2 s3).2.2.1 (varS s0 s1 s2 s3).2.2.2 ∧ Below w0.heap.size w0 w' ∧ KeepBut w w' g none := by
  obtain ⟨r, hr⟩ : ∃ r, r = varS s0 s1 s2 s3 := ⟨_, rfl⟩
  rw [← hr]
  have HI := Aside0.mk hI
  have HB := Aside0.mk hB
  by_cases hs2 : s2 = 0
  · subst hs2
    obtain rfl := hI.zero
    have hsp := short_p (s0.drop s1.toNat) (hby.drop _) (by rw [List.length_drop]; omega)
    have hsf := shortP_facts (s0.drop s1.toNat) (hby.drop _)
    have hlen : (s0.drop s1.toNat).length = s0.length - s1.toNat := List.length_drop
    unfold varS at hr
    rw [if_pos rfl] at hr
    obtain ⟨A, c, ev, k1, k2, k3, k4, k5⟩ := hI
    obtain ⟨i0, hi0, hz0⟩ := Option.map_eq_some_iff.1 clone_info
    simp only [Prod.mk.injEq] at hz0
    obtain ⟨A', hcut, hcr, hcl⟩ := print_cut_int (P := Tryz.prog) (k := .u8) 30 5 Tryz.underlying30 hi0 hz0.2.1 A c s0 s1 h0 h1 k4
    have hc0 := blk_cell k1 0
    have hc1 := blk_cell k1 1
    simp only [List.getElem?_toArray] at hc0 hc1
    have K1 := Aside0.mk k1
    have K2 := Aside0.mk k2
    have KR := Aside0.mk (show Kd.C (Kd.int .u8) w0 A' (s0.drop s1.toNat).length (s0.drop s1.toNat) from Kd.C_of_reads (d := (0 : Int)) (h1 := fun _ => rfl) (hcr w0 (Kd.reads_of_C k3)))
    have KR2 : Aside0 (Kd.C (Kd.int .u8) w.drew A' (s0.drop s1.toNat).length (s0.drop s1.toNat)) := Aside0.mk (Kd.C_below KR.out (below_drew hB))
    have KC := Aside0.mk hcl
    have HL := Aside0.mk hlen
    clear hB k1 k2 k3 k4 k5 hcr hcl hz0 hi0 hby hlen
    generalize s0.drop s1.toNat = out at *
    obtain ⟨v, n, ec, hq⟩ : ∃ v n ec, shortP out = (v, n, ec) := ⟨_, _, _, rfl⟩
    rw [hq] at hr hsp hsf
    have KS := Aside0.mk hsp
    have HR := Aside0.mk hr
    have HF := Aside0.mk hsf
    clear hsp hr hsf
    go_enter Tryz.func118, Tryz.ntmps118
    go_wp2_with fail
    refine (rd_ok g s0 _ _ _ w0 _ HI.out).mono ?_
    rintro e w' ⟨rfl, rfl⟩
    go_wp2_with fail
    have hc0 : w.drew.cell? ⟨g, 0, none⟩ = some (.slice A s0.length c) := hc0
    have hc1 : w.drew.cell? ⟨g, 1, none⟩ = some (.int .i64 s1) := hc1
    have HID := Aside0.mk (HI.out.below (below_drew (Below.refl _ _)))
    have HBD := Aside0.mk (HB.out.trans ((below_drew (Below.refl w.heap.size w)).mono HB.out.size))
    have HKD := Aside0.mk (KeepBut.of_below (below_drew (Below.refl w.heap.size w)) g none)
    refine start_ (n := 17) (S := fun w' => w'.cell? ⟨g, 0, none⟩ = some (.slice A s0.length c) ∧ w'.cell? ⟨g, 1, none⟩ = some (.int .i64 s1)) (ds := []) #[false, false, false, false, false, false, false, false, false, false, false, false, false, false, false, false, false] (by kernel_rfl) rfl rfl ⟨hc0, hc1⟩ (fun hHeld => ?_)
    generalize w.drew = W2 at *
    refine pure_ (i := 0) (N := some 10) (v := ?_) (a' := ?_) #[true, false, false, false, false, false, false, false, false, false, false, false, false, false, false, false, false] rfl rfl (by kernel_rfl) (fun _ _ _ h => h) (Or.inl ⟨by rfl, ?_⟩) ?_ ?_
    rotate_left
    · intro w'
      go_simp
      with_reducible rfl
    rotate_left
    · simp only [Act.put, List.setIfInBounds_toArray, List.set_cons_zero, List.set_cons_succ, i64_w, i32_w]
      rfl
    refine pure_ (i := 1) (N := some 11) (v := ?_) (a' := ?_) #[true, true, false, false, false, false, false, false, false, false, false, false, false, false, false, false, false] rfl rfl (by kernel_rfl) (fun _ _ _ h => h) (Or.inl ⟨by rfl, ?_⟩) ?_ ?_
    rotate_left
    · intro w'
      go_simp
      with_reducible rfl
    rotate_left
    · simp only [Act.put, List.setIfInBounds_toArray, List.set_cons_zero, List.set_cons_succ, i64_w, i32_w]
      rfl
    refine pure_ (i := 2) (N := some 12) (v := ?_) (a' := ?_) #[true, true, true, false, false, false, false, false, false, false, false, false, false, false, false, false, false] rfl rfl (by kernel_rfl) (fun _ _ _ h => h) (Or.inl ⟨by rfl, ?_⟩) ?_ ?_
    rotate_left
    · intro w'
      go_simp
      with_reducible rfl
    rotate_left
    · simp only [Act.put, List.setIfInBounds_toArray, List.set_cons_zero, List.set_cons_succ, i64_w, i32_w]
      rfl
    refine pure_ (i := 4) (N := some 14) (v := ?_) (a' := ?_) #[true, true, true, false, true, false, false, false, false, false, false, false, false, false, false, false, false] rfl rfl (by kernel_rfl) (fun _ _ _ h => h) (Or.inl ⟨by rfl, ?_⟩) ?_ ?_
    rotate_left
    · intro w'
      go_simp
      with_reducible rfl
    rotate_left
    · simp only [Act.put, List.setIfInBounds_toArray, List.set_cons_zero, List.set_cons_succ, i64_w, i32_w]
      rfl
    refine pure_ (i := 5) (N := some 15) (v := ?_) (a' := ?_) #[true, true, true, false, true, true, false, false, false, false, false, false, false, false, false, false, false] rfl rfl (by kernel_rfl) (fun _ _ _ h => h) (Or.inl ⟨by rfl, ?_⟩) ?_ ?_
    rotate_left
    · intro w'
      go_simp
      with_reducible rfl
    rotate_left
    · simp only [Act.put, List.setIfInBounds_toArray, List.set_cons_zero, List.set_cons_succ, i64_w, i32_w]
      rfl
    refine pure_ (i := 6) (N := some 16) (v := ?_) (a' := ?_) #[true, true, true, false, true, true, true, false, false, false, false, false, false, false, false, false, false] rfl rfl (by kernel_rfl) (fun _ _ _ h => h) (Or.inl ⟨by rfl, ?_⟩) ?_ ?_
    rotate_left
    · intro w'
      go_simp
      with_reducible rfl
    rotate_left
    · simp only [Act.put, List.setIfInBounds_toArray, List.set_cons_zero, List.set_cons_succ, i64_w, i32_w]
      rfl
    refine take_ (i := 3) (N := some 13) (v := ?_) (a' := ?_) #[true, true, true, true, true, true, true, false, false, false, false, false, false, false, false, false, false] rfl rfl (by kernel_rfl) (fun _ _ _ h => h) (Or.inl ⟨by rfl, ?_⟩) hHeld ?_ ?_
    rotate_left
    · rintro w' ⟨s0, s1⟩
      go_simp
      with_reducible rfl
    rotate_left
    · simp only [Act.put, List.setIfInBounds_toArray, List.set_cons_zero, List.set_cons_succ, i64_w, i32_w]
      rfl
    refine take_ (i := 7) (N := some 17) (v := ?_) (a' := ?_) #[true, true, true, true, true, true, true, true, false, false, false, false, false, false, false, false, false] rfl rfl (by kernel_rfl) (fun _ _ _ h => h) (Or.inl ⟨by rfl, ?_⟩) hHeld ?_ ?_
    rotate_left
    · rintro w' ⟨s0, s1⟩
      go_simp
      with_reducible rfl
    rotate_left
    · simp only [Act.put, List.setIfInBounds_toArray, List.set_cons_zero, List.set_cons_succ, i64_w, i32_w]
      rfl
    refine pure_ (i := 8) (N := some 18) (v := ?_) (a' := ?_) #[true, true, true, true, true, true, true, true, true, false, false, false, false, false, false, false, false] rfl rfl (by kernel_rfl) (fun _ _ _ h => h) (Or.inl ⟨by rfl, ?_⟩) ?_ ?_
    rotate_left
    · intro w'
      go_simp
      with_reducible rfl
    rotate_left
    · simp only [Act.put, List.setIfInBounds_toArray, List.set_cons_zero, List.set_cons_succ, i64_w, i32_w]
      rfl
    refine one_ (i := 9) (N := some 19) #[true, true, true, true, true, true, true, true, true, true, false, false, false, false, false, false, false] rfl rfl (by kernel_rfl) (by decide) (fun K hK => ?_)
    refine goes_ Tryz.func125 (by kernel_rfl) rfl #[.slice A' out.length (c - s1.toNat)] (by rfl) rfl rfl (by simp only [List.map_toArray, List.map_cons, List.map_nil]; rfl) ?_
    with_reducible refine (num_short.calls _ A' _ out _ _ _ W2 KR2.out KC.out KS.out).mono ?_
    rintro e w3 ⟨rfl, ⟨nd, rfl⟩⟩
    refine ⟨_, rfl, ?_⟩
    have HB3 := Aside0.mk (pw_below_drewN (Below.refl W2.heap.size W2) nd)
    generalize W2.drewN nd = W3 at *
    refine hK.out _ _ ⟨pw_cell_below HB3.out hc0, pw_cell_below HB3.out hc1⟩ (fun hHeld => ?_)
    clear hK K
    refine norm_ (a' := ?_) ?_ ?_
    rotate_left
    · show Act.put _ (some 19) _ = _
      simp only [Act.put, List.setIfInBounds_toArray, List.set_cons_zero, List.set_cons_succ, i64_w, i32_w]
      rfl
    refine pure_ (i := 10) (N := some 9) (v := ?_) (a' := ?_) #[true, true, true, true, true, true, true, true, true, true, true, false, false, false, false, false, false] rfl rfl (by kernel_rfl) (fun _ _ _ h => h) (Or.inl ⟨by rfl, ?_⟩) ?_ ?_
    rotate_left
    · intro w'
      go_simp
      with_reducible rfl
    rotate_left
    · simp only [Act.put, List.setIfInBounds_toArray, List.set_cons_zero, List.set_cons_succ, i64_w, i32_w]
      rfl
    refine pure_ (i := 11) (N := some 20) (v := ?_) (a' := ?_) #[true, true, true, true, true, true, true, true, true, true, true, true, false, false, false, false, false] rfl rfl (by kernel_rfl) (fun _ _ _ h => h) (Or.inl ⟨by rfl, ?_⟩) ?_ ?_
    rotate_left
    · intro w'
      go_simp
      with_reducible rfl
    rotate_left
    · simp only [Act.put, List.setIfInBounds_toArray, List.set_cons_zero, List.set_cons_succ, i64_w, i32_w]
      rfl
    refine pure_ (i := 12) (N := some 21) (v := ?_) (a' := ?_) #[true, true, true, true, true, true, true, true, true, true, true, true, true, false, false, false, false] rfl rfl (by kernel_rfl) (fun _ _ _ h => h) (Or.inl ⟨by rfl, ?_⟩) ?_ ?_
    rotate_left
    · intro w'
      go_simp
      with_reducible rfl
    rotate_left
    · simp only [Act.put, List.setIfInBounds_toArray, List.set_cons_zero, List.set_cons_succ, i64_w, i32_w]
      rfl
    refine pure_ (i := 13) (N := some 22) (v := ?_) (a' := ?_) #[true, true, true, true, true, true, true, true, true, true, true, true, true, true, false, false, false] rfl rfl (by kernel_rfl) (fun _ _ _ h => h) (Or.inl ⟨by rfl, ?_⟩) ?_ ?_
    rotate_left
    · intro w'
      go_simp
      with_reducible rfl
    rotate_left
    · simp only [Act.put, List.setIfInBounds_toArray, List.set_cons_zero, List.set_cons_succ, i64_w, i32_w]
      rfl
    refine pure_ (i := 14) (N := some 3) (v := ?_) (a' := ?_) #[true, true, true, true, true, true, true, true, true, true, true, true, true, true, true, false, false] rfl rfl (by kernel_rfl) (fun _ _ _ h => h) (Or.inl ⟨by rfl, ?_⟩) ?_ ?_
    rotate_left
    · intro w'
      go_simp
      with_reducible rfl
    rotate_left
    · simp only [Act.put, List.setIfInBounds_toArray, List.set_cons_zero, List.set_cons_succ, i64_w, i32_w]
      rfl
    refine pure_ (i := 15) (N := some 4) (v := ?_) (a' := ?_) #[true, true, true, true, true, true, true, true, true, true, true, true, true, true, true, true, false] rfl rfl (by kernel_rfl) (fun _ _ _ h => h) (Or.inl ⟨by rfl, ?_⟩) ?_ ?_
    rotate_left
    · intro w'
      go_simp
      with_reducible rfl
    rotate_left
    · simp only [Act.put, List.setIfInBounds_toArray, List.set_cons_zero, List.set_cons_succ, i64_w, i32_w]
      rfl
    refine pure_ (i := 16) (N := some 5) (v := ?_) (a' := ?_) #[true, true, true, true, true, true, true, true, true, true, true, true, true, true, true, true, true] rfl rfl (by kernel_rfl) (fun _ _ _ h => h) (Or.inl ⟨by rfl, ?_⟩) ?_ ?_
    rotate_left
    · intro w'
      go_simp
      with_reducible rfl
    rotate_left
    · simp only [Act.put, List.setIfInBounds_toArray, List.set_cons_zero, List.set_cons_succ, i64_w, i32_w]
      rfl
    refine done_ (by kernel_rfl) ?_
    have HI3 := Aside0.mk (HID.out.below HB3.out)
    have HB3' := Aside0.mk (HBD.out.trans (HB3.out.mono HBD.out.size))
    have HK3 := Aside0.mk (KeepBut.below_ HKD.out HB3.out)
    clear hc0 hc1
    by_cases he : ec = 0
    · subst he
      obtain ⟨f1, f2, f3, f4⟩ := HF.out.2.2 rfl
      have f4 : n ≤ (out.length : Int) := f4
      have f3 : 0 < n := f3
      have hL := HL.out
      have hw : wrap64 (s1 + n) = s1 + n := by unfold wrap64; omega
      have HW := Aside0.mk hw
      have hR := HR.out
      rw [if_pos rfl] at hR
      have HR2 := Aside0.mk hR
      obtain ⟨A3, c3, ev3, k3, g3, _⟩ := HI3.out
      have hd1 : W3.cell? ⟨g, 1, none⟩ = some (.int .i64 s1) := blk_cell k3 1
      have hf1 := blk_frozen k3 1
      have G3 := Aside0.mk g3
      clear hR k3 g3 f1 f2 hw hL
      go_wp2_with fail
      refine (rd_fail_no g s0 _ _ _ 0 w0 _ HI3.out (.inr rfl)).mono ?_
      rintro e w' ⟨rfl, rfl⟩
      go_wp2
      go_ret
      rw [HW.out]
      have hrd := HI3.out.set_at (s1 + n)
      rw [HR2.out]
      exact ⟨rfl, hrd, HB3'.out.setCell G3.out _, HK3.out.set_ 1 _⟩
    · have hnv := HF.out.2.1 he
      obtain ⟨rfl, rfl⟩ : v = 0 ∧ n = 0 := hnv
      have hR := HR.out
      rw [if_neg he] at hR
      have HR2 := Aside0.mk hR
      have HE := Aside0.mk he
      clear hR he
      go_wp2_with fail
      refine (rd_fail_yes g s0 s1 _ ec w0 _ HI3.out HE.out).mono ?_
      rintro e w5 ⟨rfl, k5, kk5, kb5⟩
      have HI5 := Aside0.mk k5
      have HB5 := Aside0.mk (HB3'.out.trans kb5)
      have HK5 := Aside0.mk (keep_then HK3.out kk5)
      obtain ⟨A5, c5, ev5, k5b, g5, _⟩ := k5
      have hd1 : w5.cell? ⟨g, 1, none⟩ = some (.int .i64 s1) := blk_cell k5b 1
      have hf1 := blk_frozen k5b 1
      have G5 := Aside0.mk g5
      clear k5b g5 kk5 kb5
      go_wp2
      go_ret
      have hrd := HI5.out.set_at s1
      rw [HR2.out]
      exact ⟨rfl, hrd, HB5.out.setCell G5.out _, HK5.out.set_ 1 _⟩
  · have hf := beq_eq_false_iff_ne.2 hs2
    unfold varS at hr
    rw [if_neg hs2] at hr
    have HR := Aside0.mk hr
    clear hr hs2 hI hB
    go_enter Tryz.func118, Tryz.ntmps118
    go_wp2_with fail
    refine (rd_ok g s0 _ _ _ w0 _ HI.out).mono ?_
    rintro e w' ⟨rfl, rfl⟩
    go_wp2
    go_ret
    rw [HR.out]
    exact ⟨rfl, HI.out, HB.out, KeepBut.refl _ _ _⟩
end Go.Proofs.YtjmhiklmlgbifaaGreatDoor.PMan
end
