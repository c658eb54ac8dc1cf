/- Texts, put into one. -/
import Derived.Test.YtjmhiklmlgbifaaGreatDoorPT19
import Derived.Test.YtjmhiklmlgbifaaGreatDoorPT16
import Derived.Test.YtjmhiklmlgbifaaGreatDoorPTW
set_option linter.unusedVariables false
set_option linter.unusedSimpArgs false
open Go Go.RowKit Go.Proofs.YtjmhiklmlgbifaaGreatDoorW.PrintWords Go.Proofs.YtjmhiklmlgbifaaGreatDoorW.PrintLast Go.Proofs.YtjmhiklmlgbifaaGreatDoorW.PrintMore
namespace Go.Proofs.YtjmhiklmlgbifaaGreatDoor.PMan
section
def badB (n : Nat) (c : Int) : Prop := n > 9 ∨ (n = 9 ∧ c % 128 > 1) ∨ (n > 0 ∧ c = 0)
instance (n : Nat) (c : Int) : Decidable (badB n c) := by unfold badB; infer_instance
def shortL : Nat → Int → List Int → Int × Int × Int
 | _, _, [] => (0, 0, 2)
 | n, v, c :: l => if badB n c then (0, 0, 4) else if c < 128 then (v + c % 128 * 128 ^ n, (n : Int) + 1, 0) else shortL (n + 1) (v + c % 128 * 128 ^ n) l
def shortP (l : List Int) : Int × Int × Int := shortL 0 0 l
def ByteL (l : List Int) : Prop := ∀ x ∈ l, 0 ≤ x ∧ x < 256
theorem ByteL.getD {l : List Int} (h : ByteL l) (i : Nat) (hi : i < l.length) : 0 ≤ l.getD i 0 ∧ l.getD i 0 < 256 := by
 rw [List.getD_eq_getElem?_getD, List.getElem?_eq_getElem hi]
 exact h _ (List.getElem_mem hi)
theorem p128 (n : Nat) : (128 : Int) ^ n = ((2 ^ (7 * n) : Nat) : Int) := by
 rw [Nat.pow_mul]
 simp
theorem low_le (c : Int) : 0 ≤ c % 128 ∧ c % 128 ≤ 127 := by omega
theorem term_bound (n : Nat) (c : Int) (hn : n ≤ 9) (h9 : n = 9 → c % 128 ≤ 1) : 0 ≤ c % 128 * 128 ^ n ∧ c % 128 * 128 ^ n + 128 ^ n ≤ 128 ^ (n + 1) ∧ c % 128 * 128 ^ n < 18446744073709551616 ∧ (n = 9 → c % 128 * 128 ^ n + 128 ^ n ≤ 18446744073709551616) := by
 have hl := low_le c
 have hp : (0 : Int) < 128 ^ n := by rw [p128]; exact Int.natCast_pos.2 (Nat.pow_pos (by decide))
 have e : (128 : Int) ^ (n + 1) = 128 ^ n * 128 := Int.pow_succ 128 n
 have hm : c % 128 * 128 ^ n ≤ 127 * 128 ^ n := Int.mul_le_mul_of_nonneg_right hl.2 (Int.le_of_lt hp)
 have hm0 : 0 ≤ c % 128 * 128 ^ n := Int.mul_nonneg hl.1 (Int.le_of_lt hp)
 have h9v : n = 9 → (128 : Int) ^ n = 9223372036854775808 := fun h => by rw [h]; decide
 have h9m : n = 9 → c % 128 * 128 ^ n ≤ 1 * 128 ^ n := fun h => Int.mul_le_mul_of_nonneg_right (h9 h) (Int.le_of_lt hp)
 refine ⟨hm0, by omega, ?_, fun h => by have := h9v h; have := h9m h; omega⟩
 by_cases h : n = 9
 ·have := h9v h; have := h9m h; omega
 ·have h8 : (128 : Int) ^ n ≤ 128 ^ 8 := by
   rw [p128, p128]
   exact Int.ofNat_le.2 (Nat.pow_le_pow_right (by decide) (by omega))
  have : (128 : Int) ^ 8 = 72057594037927936 := by decide
  omega
theorem look_l1 (l : List Int) (v low : Int) (i : Nat) (hi : i < l.length) (hb : l.length < 1000000000) : ∀ (d j e : Nat) (t : Int), j + d = i → i ≤ 9 → t = 128 ^ j →
  estreatref01_look.l1 (d + 1 + e) l v (i : Int) low t (j : Int) = if l.getD i 0 < 128 then some (IntKind.u64.wrap (v + IntKind.u64.wrap (low * 128 ^ i)), ((i + 1 : Nat) : Int), 0) else estreatref01_look.l0 e l (IntKind.u64.wrap (v + IntKind.u64.wrap (low * 128 ^ i))) ((i + 1 : Nat) : Int)
 | 0, j, e, t, hj, h9, ht => by
  obtain rfl : j = i := by omega
  have hw : wrap64 ((j : Int) + 1) = ((j + 1 : Nat) : Int) := by unfold wrap64; omega
  have e1 : rd l (j : Int) = l.getD j 0 := rfl
  rw [show 0 + 1 + e = e + 1 by omega, estreatref01_look.l1, if_neg (by omega), if_pos (by omega), if_pos (by omega), e1, ht, hw]
 | d + 1, j, e, t, hj, h9, ht => by
  have hw : wrap64 ((j : Int) + 1) = ((j + 1 : Nat) : Int) := by unfold wrap64; omega
  have h8 : (128 : Int) ^ (j + 1) ≤ 128 ^ 9 := by
   rw [p128, p128]
   exact Int.ofNat_le.2 (Nat.pow_le_pow_right (by decide) (by omega))
  have h9v : (128 : Int) ^ 9 = 9223372036854775808 := by decide
  have h0 : (0 : Int) ≤ 128 ^ (j + 1) := by rw [p128]; exact Int.natCast_nonneg _
  rw [show d + 1 + 1 + e = (d + 1 + e) + 1 by omega, estreatref01_look.l1, if_pos (by omega), hw, ht, ← Int.pow_succ, u64_small _ h0 (by omega), look_l1 l v low i hi hb d (j + 1) e _ (by omega) h9 rfl]
theorem look_l0 (l : List Int) (hB : ByteL l) (hb : l.length < 1000000000) : ∀ (m i e : Nat) (v : Int), i + m = l.length → 0 ≤ v → v < 128 ^ i → (i ≤ 9 ∨ v = v) →
  i ≤ 10 → (i = 10 → v < 18446744073709551616) → estreatref01_look.l0 (20 * m + 1 + e) l v (i : Int) = some (shortL i v (l.drop i))
 | 0, i, e, v, hm, h0, h1, _, h10, hv => by
  rw [show 20 * 0 + 1 + e = e + 1 by omega, estreatref01_look.l0, if_neg (by omega), List.drop_eq_nil_of_le (by omega), shortL]
 | m + 1, i, e, v, hm, h0, h1, _, h10, hv => by
  have hi : i < l.length := by omega
  have e1 : rd l (i : Int) = l.getD i 0 := rfl
  have hc := hB.getD i hi
  have hd : l.drop i = l.getD i 0 :: l.drop (i + 1) := drop_cons l i 0 hi
  rw [show 20 * (m + 1) + 1 + e = (20 * m + 1 + e + 18 + 1) + 1 by omega, estreatref01_look.l0, if_pos (by omega), if_pos (by omega), e1, hd, shortL]
  generalize l.getD i 0 = c at *
  have e2 : Int.tmod c 128 = c % 128 := Int.tmod_eq_emod_of_nonneg hc.1
  have hl := low_le c
  rw [e2, u64_small (c % 128) hl.1 (by omega)]
  have bad : badB i c → some ((0 : Int), (0 : Int), (4 : Int)) = some (if badB i c then (0, 0, 4) else if c < 128 then (v + c % 128 * 128 ^ i, (i : Int) + 1, 0) else shortL (i + 1) (v + c % 128 * 128 ^ i) (l.drop (i + 1))) := fun h => by rw [if_pos h]
  have good : ¬ badB i c → i ≤ 9 → estreatref01_look.j1 (20 * m + 1 + e + 18 + 1) l v (i : Int) (c % 128) false = some (if badB i c then (0, 0, 4) else if c < 128 then (v + c % 128 * 128 ^ i, (i : Int) + 1, 0) else shortL (i + 1) (v + c % 128 * 128 ^ i) (l.drop (i + 1))) := fun h h9 => by
   have h9' : i = 9 → c % 128 ≤ 1 := fun q => by
    by_cases g : c % 128 ≤ 1
    ·exact g
    ·exact absurd (.inr (.inl ⟨q, by omega⟩)) h
   obtain ⟨t0, t1, t2, t3⟩ := term_bound i c h9 h9'
   have hv2 : v + c % 128 * 128 ^ i < 18446744073709551616 := by
    by_cases q : i = 9
    ·have := t3 q; omega
    ·have h8 : (128 : Int) ^ (i + 1) ≤ 128 ^ 9 := by
      rw [p128, p128]
      exact Int.ofNat_le.2 (Nat.pow_le_pow_right (by decide) (by omega))
     have h9v : (128 : Int) ^ 9 = 9223372036854775808 := by decide
     omega
   have hcd : l.getD i 0 = c := by
    have := congrArg (List.head? ·) hd
    rw [List.head?_drop, List.head?_cons] at this
    rw [List.getD_eq_getElem?_getD, this]
    rfl
   have hl1 := look_l1 l v (c % 128) i hi hb i 0 (20 * m + 1 + (e + 17 - i)) 1 (by omega) h9 rfl
   rw [show ((0 : Nat) : Int) = 0 from rfl] at hl1
   rw [if_neg h, estreatref01_look.j1, if_neg (by decide), show 20 * m + 1 + e + 18 = i + 1 + (20 * m + 1 + (e + 17 - i)) by omega, hl1, hcd, u64_small _ t0 t2, u64_small _ (by omega) hv2]
   by_cases q : c < 128
   ·rw [if_pos q, if_pos q]
    rfl
   ·rw [if_neg q, if_neg q, look_l0 l hB hb m (i + 1) _ _ (by omega) (by omega) (by omega) (.inr rfl) (by omega) (fun _ => hv2)]
  by_cases k1 : i = 10
  ·rw [if_pos (by omega), estreatref01_look.j1, if_pos rfl]
   exact bad (.inl (by omega))
  rw [if_neg (by omega)]
  by_cases k2 : (i : Int) = 9
  ·rw [if_pos k2]
   by_cases k3 : c % 128 > 1
   ·rw [if_pos k3, estreatref01_look.j1, if_pos rfl]
    exact bad (.inr (.inl ⟨by omega, k3⟩))
   ·rw [if_neg k3, if_pos (by omega)]
    by_cases k4 : c = 0
    ·rw [show (c == 0) = true by simpa using k4, estreatref01_look.j1, if_pos rfl]
     exact bad (.inr (.inr ⟨by omega, k4⟩))
    ·rw [show (c == 0) = false by simpa using k4]
     exact good (fun h => by rcases h with h | h | h <;> omega) (by omega)
  ·rw [if_neg k2]
   by_cases k5 : (i : Int) > 0
   ·rw [if_pos k5]
    by_cases k4 : c = 0
    ·rw [show (c == 0) = true by simpa using k4, estreatref01_look.j1, if_pos rfl]
     exact bad (.inr (.inr ⟨by omega, k4⟩))
    ·rw [show (c == 0) = false by simpa using k4]
     exact good (fun h => by rcases h with h | h | h <;> omega) (by omega)
   ·rw [if_neg k5]
    exact good (fun h => by rcases h with h | h | h <;> omega) (by omega)
theorem look_p (l : List Int) (hB : ByteL l) (hb : l.length < 1000000000) : estreatref01_look.f (20 * l.length + 1) l = some (shortP l) := by
 have := look_l0 l hB hb l.length 0 0 0 (by omega) (by decide) (by decide) (.inl (by decide)) (by decide) (fun h => by omega)
 rw [List.drop_zero] at this
 exact this
theorem and127 (c : Int) (h0 : 0 ≤ c) (h1 : c < 256) : Go.bits .and .u8 c 127 = c % 128 := by
 obtain ⟨n, rfl⟩ : ∃ n : Nat, c = (n : Int) := ⟨c.toNat, by omega⟩
 have : ∀ a : Fin 256, Go.bits .and .u8 ((a.val : Nat) : Int) 127 = ((a.val : Nat) : Int) % 128 := by decide +kernel
 exact this ⟨n, by omega⟩
theorem and128 (c : Int) (h0 : 0 ≤ c) (h1 : c < 256) : Go.bits .and .u8 c 128 = 0 ↔ c < 128 := by
 obtain ⟨n, rfl⟩ : ∃ n : Nat, c = (n : Int) := ⟨c.toNat, by omega⟩
 have : ∀ a : Fin 256, Go.bits .and .u8 ((a.val : Nat) : Int) 128 = 0 ↔ ((a.val : Nat) : Int) < 128 := by decide +kernel
 exact this ⟨n, by omega⟩
theorem or_term (v t : Int) (i : Nat) (hv0 : 0 ≤ v) (hv : v < 128 ^ i) (c : Int) (ht : t = c % 128 * 128 ^ i) (hb : v + t < 18446744073709551616) : Go.bits .or .u64 v t = v + t := by
 have hl := low_le c
 obtain ⟨a, rfl⟩ : ∃ a : Nat, v = (a : Int) := ⟨v.toNat, by omega⟩
 obtain ⟨q, hq⟩ : ∃ q : Nat, c % 128 = (q : Int) := ⟨(c % 128).toNat, by omega⟩
 rw [p128] at hv ht
 have e : t = ((q * 2 ^ (7 * i) : Nat) : Int) := by rw [ht, hq, Int.natCast_mul]
 have ha : a < 2 ^ (7 * i) := Int.ofNat_lt.1 hv
 rw [e] at hb ⊢
 rw [bits_or_u64_nat a _ (by omega) (by omega), Nat.or_comm, Nat.mul_comm, ← Nat.two_pow_add_eq_or_of_lt ha, Int.natCast_add]
 omega
theorem short_l0 (l : List Int) (hB : ByteL l) (hb : l.length < 1000000000) : ∀ (m i e : Nat) (v : Int), i + m = l.length → 0 ≤ v → v < 128 ^ i → i ≤ 10 →
  num_short.l0 (3 * m + 1 + e) l v (i : Int) ((7 * i : Nat) : Int) = some (shortL i v (l.drop i))
 | 0, i, e, v, hm, h0, h1, h10 => by
  rw [show 3 * 0 + 1 + e = e + 1 by omega, num_short.l0, if_pos (by omega), List.drop_eq_nil_of_le (by omega), shortL]
 | m + 1, i, e, v, hm, h0, h1, h10 => by
  have hi : i < l.length := by omega
  have e1 : rd l (i : Int) = l.getD i 0 := rfl
  have hc := hB.getD i hi
  have hd : l.drop i = l.getD i 0 :: l.drop (i + 1) := drop_cons l i 0 hi
  have hw : wrap64 ((i : Int) + 1) = ((i + 1 : Nat) : Int) := by unfold wrap64; omega
  have hw7 : wrap64 (((7 * i : Nat) : Int) + 7) = ((7 * (i + 1) : Nat) : Int) := by unfold wrap64; omega
  rw [show 3 * (m + 1) + 1 + e = (3 * m + 1 + e + 1 + 1) + 1 by omega, num_short.l0, if_neg (by omega), if_pos (by omega), if_pos (by omega), e1, hd, shortL, hw]
  generalize l.getD i 0 = c at *
  have hl := low_le c
  rw [and127 c hc.1 hc.2, u64_small (c % 128) hl.1 (by omega)]
  have bad : badB i c → some ((0 : Int), (0 : Int), (4 : Int)) = some (if badB i c then (0, 0, 4) else if c < 128 then (v + c % 128 * 128 ^ i, (i : Int) + 1, 0) else shortL (i + 1) (v + c % 128 * 128 ^ i) (l.drop (i + 1))) := fun h => by rw [if_pos h]
  have good : (i = 9 → c % 128 ≤ 1) → i ≤ 9 → num_short.j1 (3 * m + 1 + e + 1 + 1) l v ((i + 1 : Nat) : Int) ((7 * i : Nat) : Int) c (c % 128) false = some (if badB i c then (0, 0, 4) else if c < 128 then (v + c % 128 * 128 ^ i, (i : Int) + 1, 0) else shortL (i + 1) (v + c % 128 * 128 ^ i) (l.drop (i + 1))) := fun h9' h9 => by
   obtain ⟨t0, t1, t2, t3⟩ := term_bound i c h9 h9'
   have hv2 : v + c % 128 * 128 ^ i < 18446744073709551616 := by
    by_cases q : i = 9
    ·have := t3 q; omega
    ·have h8 : (128 : Int) ^ (i + 1) ≤ 128 ^ 9 := by
      rw [p128, p128]
      exact Int.ofNat_le.2 (Nat.pow_le_pow_right (by decide) (by omega))
     have h9v : (128 : Int) ^ 9 = 9223372036854775808 := by decide
     omega
   have hsh : shl .u64 (c % 128) (IntKind.u64.wrap ((7 * i : Nat) : Int)) = c % 128 * 128 ^ i := by
    unfold shl
    rw [u64_small ((7 * i : Nat) : Int) (by omega) (by omega), Int.toNat_natCast, Nat.min_eq_left (show 7 * i ≤ IntKind.u64.bits from Nat.le_trans (show 7 * i ≤ 63 by omega) (by decide)), show (2 : Int) ^ (7 * i) = 128 ^ i by rw [p128, Int.natCast_pow]; rfl, u64_small _ t0 t2]
   have fin : ¬ badB i c → num_short.j2 (3 * m + 1 + e + 1) l v ((i + 1 : Nat) : Int) ((7 * i : Nat) : Int) c (c % 128) false = some (if badB i c then (0, 0, 4) else if c < 128 then (v + c % 128 * 128 ^ i, (i : Int) + 1, 0) else shortL (i + 1) (v + c % 128 * 128 ^ i) (l.drop (i + 1))) := fun hg => by
    rw [num_short.j2, if_neg (by decide), if_pos (by rw [u64_small _ (by omega) (by omega)]; omega), hsh, or_term v _ i h0 h1 c rfl hv2, hw7, if_neg hg]
    by_cases q : c < 128
    ·rw [if_pos ((and128 c hc.1 hc.2).2 q), if_pos q]
     rfl
    ·rw [if_neg (fun h => q ((and128 c hc.1 hc.2).1 h)), if_neg q, short_l0 l hB hb m (i + 1) e _ (by omega) (by omega) (by omega) (by omega)]
   rw [num_short.j1, if_neg (by decide)]
   by_cases k4 : c = 0
   ·rw [if_pos k4]
    by_cases k5 : i = 0
    ·rw [decide_eq_false (by omega)]
     exact fin (fun h => by rcases h with h | h | h <;> omega)
    ·rw [decide_eq_true (by omega), num_short.j2, if_pos rfl]
     exact bad (.inr (.inr ⟨by omega, k4⟩))
   ·rw [if_neg k4]
    exact fin (fun h => by rcases h with h | ⟨h, g⟩ | h <;> first | omega | (have := h9' h; omega))
  by_cases k1 : i = 10
  ·rw [if_pos (by omega), decide_eq_true (by omega), num_short.j1, if_pos rfl]
   exact bad (.inl (by omega))
  rw [if_neg (by omega), hw7]
  by_cases k2 : i = 9
  ·have e64 : IntKind.u64.wrap (wrap64 (64 - ((7 * i : Nat) : Int))) = 1 := by rw [k2, show wrap64 (64 - ((7 * 9 : Nat) : Int)) = 1 from by unfold wrap64; omega, u64_small 1 (by decide) (by decide)]
   have esh : shr .u64 (c % 128) 1 = c % 128 / 2 := rfl
   rw [if_pos (by omega), e64, if_pos (by decide), esh]
   by_cases k3 : c % 128 > 1
   ·rw [show (c % 128 / 2 != 0) = true by simp; omega, num_short.j1, if_pos rfl]
    exact bad (.inr (.inl ⟨k2, k3⟩))
   ·rw [show (c % 128 / 2 != 0) = false by simp; omega]
    exact good (fun _ => by omega) (by omega)
  ·rw [if_neg (by omega)]
   exact good (fun h => absurd h k2) (by omega)
theorem short_p (l : List Int) (hB : ByteL l) (hb : l.length < 1000000000) : num_short.f (3 * l.length + 1) l = some (shortP l) := by
 have := short_l0 l hB hb l.length 0 0 0 (by omega) (by decide) (by decide) (by decide)
 rw [List.drop_zero] at this
 exact this
theorem shortL_facts : ∀ (l : List Int) (n : Nat) (v : Int), 0 ≤ v → v < 128 ^ n → n ≤ 10 → ByteL l → let r := shortL n v l
  (r.2.2 = 0 ∨ r.2.2 = 2 ∨ r.2.2 = 4) ∧ (r.2.2 ≠ 0 → r.1 = 0 ∧ r.2.1 = 0) ∧ (r.2.2 = 0 → 0 ≤ r.1 ∧ r.1 < 18446744073709551616 ∧ (n : Int) < r.2.1 ∧ r.2.1 ≤ n + l.length)
 | [], n, v, h0, h1, hn, hB => by simp [shortL]
 | c :: l, n, v, h0, h1, hn, hB => by
  have hc := hB c List.mem_cons_self
  dsimp only
  rw [shortL]
  by_cases hg : badB n c
  ·rw [if_pos hg]; simp
  ·rw [if_neg hg]
   have h9 : n ≤ 9 := by
    by_cases q : n ≤ 9
    ·exact q
    ·exact absurd (.inl (by omega)) hg
   have h9' : n = 9 → c % 128 ≤ 1 := fun q => by
    by_cases g : c % 128 ≤ 1
    ·exact g
    ·exact absurd (.inr (.inl ⟨q, by omega⟩)) hg
   obtain ⟨t0, t1, t2, t3⟩ := term_bound n c h9 h9'
   have hv2 : v + c % 128 * 128 ^ n < 18446744073709551616 := by
    by_cases q : n = 9
    ·have := t3 q; omega
    ·have h8 : (128 : Int) ^ (n + 1) ≤ 128 ^ 9 := by
      rw [p128, p128]
      exact Int.ofNat_le.2 (Nat.pow_le_pow_right (by decide) (by omega))
     have h9v : (128 : Int) ^ 9 = 9223372036854775808 := by decide
     omega
   by_cases q : c < 128
   ·rw [if_pos q]
    refine ⟨.inl rfl, fun h => absurd rfl h, fun _ => ⟨by omega, hv2, by dsimp only; omega, by dsimp only; rw [List.length_cons]; omega⟩⟩
   ·rw [if_neg q]
    obtain ⟨a1, a2, a3⟩ := shortL_facts l (n + 1) (v + c % 128 * 128 ^ n) (by omega) (by omega) (by omega) (fun x hx => hB x (List.mem_cons_of_mem _ hx))
    refine ⟨a1, a2, fun h => ?_⟩
    obtain ⟨b1, b2, b3, b4⟩ := a3 h
    refine ⟨b1, b2, by omega, by rw [List.length_cons]; omega⟩
theorem shortP_facts (l : List Int) (hB : ByteL l) : ((shortP l).2.2 = 0 ∨ (shortP l).2.2 = 2 ∨ (shortP l).2.2 = 4) ∧ ((shortP l).2.2 ≠ 0 → (shortP l).1 = 0 ∧ (shortP l).2.1 = 0) ∧ ((shortP l).2.2 = 0 → 0 ≤ (shortP l).1 ∧ (shortP l).1 < 18446744073709551616 ∧ 0 < (shortP l).2.1 ∧ (shortP l).2.1 ≤ l.length) := by
 obtain ⟨a1, a2, a3⟩ := shortL_facts l 0 0 (by decide) (by decide) (by decide) hB
 refine ⟨a1, a2, fun h => ?_⟩
 obtain ⟨b1, b2, b3, b4⟩ := a3 h
 exact ⟨b1, b2, b3, by have : shortL 0 0 l = shortP l := rfl; rw [this] at b4; omega⟩
end
section
attribute [local go_sem] max2_int min2_int max_two min_two max_three min_three max_four min_four
set_option maxHeartbeats 1600000 in
set_option maxRecDepth 100000 in
theorem rd_var (k : Nat) (g : Nat) (s0 : List Int) (s1 : Int) (v n : Int) (w0 w : World) (hI : RD w0 w g s0 s1 0 0) (hB : Below w0.heap.size w0 w) (h0 : 0 ≤ s1) (h1 : s1 ≤ s0.length) (hn : wrap64 (s1 + n) = s1 + n) (hf : num_short.f k (s0.drop s1.toNat) = some (v, n, 0)) :
  Calls Tryz.prog 118 #[.pointer (some ⟨g, 0, none⟩)] w fun e w' => e = .returned (.int .u64 v) ∧ RD w0 w' g s0 (s1 + n) 0 0 ∧ Below w0.heap.size w0 w' ∧ KeepBut w w' g none := by
 have HI := am hI
 have HB := am hB
 have HF := am hf
 have HN := am hn
 obtain ⟨A, c, ev, k1, k2, k3, k4, k5⟩ := hI
 obtain ⟨i0, hi0, hz0⟩ := Option.map_eq_some_iff.1 clone_info
 simp only [Prod.mk.injEq] at hz0
 obtain ⟨A', hcut, hcr, hcl⟩ := print_cut_int (P := Tryz.prog) (k := .u8) 30 5 Tryz.underlying30 hi0 hz0.2.1 A c s0 s1 h0 h1 k4
 have hc0 := blk_cell k1 0
 have hc1 := blk_cell k1 1
 simp only [List.getElem?_toArray] at hc0 hc1
 have K1 := am k1
 have K2 := am k2
 have KR := am (show Kd.C (Kd.int .u8) w0 A' (s0.drop s1.toNat).length (s0.drop s1.toNat) from Kd.C_of_reads (d := (0 : Int)) (h1 := fun _ => rfl) (hcr w0 (Kd.reads_of_C k3)))
 have KC := am hcl
 clear hB hf hn k1 k2 k3 k4 k5 h0 h1 hcr hcl hz0 hi0
 generalize s0.drop s1.toNat = out at *
 go_enter Tryz.func118, Tryz.ntmps118
 go_wp2_with fail
 refine (rd_ok g s0 _ _ _ w0 _ HI.out).mono ?_
 rintro e w' ⟨rfl, rfl⟩
 go_wp2_with fail
 refine start_ (n := 17) (S := fun w' => w'.cell? ⟨g, 0, none⟩ = some (.slice A s0.length c) ∧ w'.cell? ⟨g, 1, none⟩ = some (.int .i64 s1)) (ds := []) #[false, false, false, false, false, false, false, false, false, false, false, false, false, false, false, false, false] (by kernel_rfl) rfl rfl ⟨hc0, hc1⟩ (fun hHeld => ?_)
 refine pu 0 (some 10) ?_ ?_ ?_ ?_ ?_
 rotate_left 2
 ·intro w'
  go_simp
  with_reducible rfl
 ·simp only [Act.put, sA1, sA2, sA3, i64_w, i32_w]
  rfl
 refine pu 1 (some 11) ?_ ?_ ?_ ?_ ?_
 rotate_left 2
 ·intro w'
  go_simp
  with_reducible rfl
 ·simp only [Act.put, sA1, sA2, sA3, i64_w, i32_w]
  rfl
 refine pu 2 (some 12) ?_ ?_ ?_ ?_ ?_
 rotate_left 2
 ·intro w'
  go_simp
  with_reducible rfl
 ·simp only [Act.put, sA1, sA2, sA3, i64_w, i32_w]
  rfl
 refine pu 4 (some 14) ?_ ?_ ?_ ?_ ?_
 rotate_left 2
 ·intro w'
  go_simp
  with_reducible rfl
 ·simp only [Act.put, sA1, sA2, sA3, i64_w, i32_w]
  rfl
 refine pu 5 (some 15) ?_ ?_ ?_ ?_ ?_
 rotate_left 2
 ·intro w'
  go_simp
  with_reducible rfl
 ·simp only [Act.put, sA1, sA2, sA3, i64_w, i32_w]
  rfl
 refine pu 6 (some 16) ?_ ?_ ?_ ?_ ?_
 rotate_left 2
 ·intro w'
  go_simp
  with_reducible rfl
 ·simp only [Act.put, sA1, sA2, sA3, i64_w, i32_w]
  rfl
 refine tk 3 (some 13) ?_ ?_ hHeld ?_ ?_ ?_
 rotate_left 2
 ·rintro w' ⟨s0, s1⟩
  go_simp
  with_reducible rfl
 ·simp only [Act.put, sA1, sA2, sA3, i64_w, i32_w]
  rfl
 refine tk 7 (some 17) ?_ ?_ hHeld ?_ ?_ ?_
 rotate_left 2
 ·rintro w' ⟨s0, s1⟩
  go_simp
  with_reducible rfl
 ·simp only [Act.put, sA1, sA2, sA3, i64_w, i32_w]
  rfl
 refine pu 8 (some 18) ?_ ?_ ?_ ?_ ?_
 rotate_left 2
 ·intro w'
  go_simp
  with_reducible rfl
 ·simp only [Act.put, sA1, sA2, sA3, i64_w, i32_w]
  rfl
 refine on (i := 9) (N := some 19) rfl rfl (by kernel_rfl) (by decide) (fun K hK => ?_)
 refine goes_ Tryz.func125 (by kernel_rfl) rfl #[.slice A' out.length (c - s1.toNat)] (by rfl) rfl rfl (by simp only [List.map_toArray, List.map_cons, List.map_nil]; rfl) ?_
 with_reducible refine (num_short.calls k A' (c - s1.toNat) out v n 0 w.drew (Kd.C_drew (Kd.C_below KR.out HB.out)) KC.out HF.out).mono ?_
 rintro e w' ⟨rfl, ⟨nd, rfl⟩⟩
 refine ⟨_, rfl, ?_⟩
 have hblk := blk_drewN (show w.drew.heap[g]? = _ from K1.out) nd
 have hc0 := blk_cell hblk 0
 have hc1 := blk_cell hblk 1
 simp only [List.getElem?_toArray] at hc0 hc1
 refine hK.out _ _ ⟨hc0, hc1⟩ (fun hHeld => ?_)
 clear hK K
 refine norm_ (a' := ?_) ?_ ?_
 rotate_left
 ·show Act.put _ (some 19) _ = _
  simp only [Act.put, sA1, sA2, sA3, i64_w, i32_w]
  rfl
 refine pu 10 (some 9) ?_ ?_ ?_ ?_ ?_
 rotate_left 2
 ·intro w'
  go_simp
  with_reducible rfl
 ·simp only [Act.put, sA1, sA2, sA3, i64_w, i32_w]
  rfl
 refine pu 11 (some 20) ?_ ?_ ?_ ?_ ?_
 rotate_left 2
 ·intro w'
  go_simp
  with_reducible rfl
 ·simp only [Act.put, sA1, sA2, sA3, i64_w, i32_w]
  rfl
 refine pu 12 (some 21) ?_ ?_ ?_ ?_ ?_
 rotate_left 2
 ·intro w'
  go_simp
  with_reducible rfl
 ·simp only [Act.put, sA1, sA2, sA3, i64_w, i32_w]
  rfl
 refine pu 13 (some 22) ?_ ?_ ?_ ?_ ?_
 rotate_left 2
 ·intro w'
  go_simp
  with_reducible rfl
 ·simp only [Act.put, sA1, sA2, sA3, i64_w, i32_w]
  rfl
 refine pu 14 (some 3) ?_ ?_ ?_ ?_ ?_
 rotate_left 2
 ·intro w'
  go_simp
  with_reducible rfl
 ·simp only [Act.put, sA1, sA2, sA3, i64_w, i32_w]
  rfl
 refine pu 15 (some 4) ?_ ?_ ?_ ?_ ?_
 rotate_left 2
 ·intro w'
  go_simp
  with_reducible rfl
 ·simp only [Act.put, sA1, sA2, sA3, i64_w, i32_w]
  rfl
 refine pu 16 (some 5) ?_ ?_ ?_ ?_ ?_
 rotate_left 2
 ·intro w'
  go_simp
  with_reducible rfl
 ·simp only [Act.put, sA1, sA2, sA3, i64_w, i32_w]
  rfl
 refine done_ (by kernel_rfl) ?_
 have hblk2 := blk_drewN K1.out (1 + nd)
 have hd1 : (w.drewN (1 + nd)).cell? ⟨g, 1, none⟩ = some (.int .i64 s1) := blk_cell hblk2 1
 have hf1 := blk_frozen hblk2 1
 go_wp2_with fail
 refine (rd_fail_no g s0 _ _ _ 0 w0 _ (HI.out.drewN (1 + nd)) (.inr rfl)).mono ?_
 rintro e w' ⟨rfl, rfl⟩
 go_wp2
 go_ret
 rw [HN.out]
 have hrd := (HI.out.drewN (1 + nd)).set_at (s1 + n)
 exact ⟨rfl, hrd, HB.out.trans ((pw_below_drewN (Below.refl _ w) (1 + nd)).setCell K2.out _), (KeepBut.of_below (pw_below_drewN (Below.refl _ w) (1 + nd)) g none).set_ 1 _⟩
set_option maxHeartbeats 1600000 in
set_option maxRecDepth 100000 in
theorem rd_number (k : Nat) (g : Nat) (s0 : List Int) (s1 : Int) (v n : Int) (w0 w : World) (hI : RD w0 w g s0 s1 0 0) (hB : Below w0.heap.size w0 w) (h0 : 0 ≤ s1) (h1 : s1 ≤ s0.length) (hn : wrap64 (s1 + n) = s1 + n) (hf : num_short.f k (s0.drop s1.toNat) = some (v, n, 0)) (hv : 0 ≤ v) (hv2 : v ≤ 1099511627776) :
  Calls Tryz.prog 90 #[.pointer (some ⟨g, 0, none⟩)] w fun e w' => e = .returned (.int .i64 v) ∧ RD w0 w' g s0 (s1 + n) 0 0 ∧ Below w0.heap.size w0 w' ∧ KeepBut w w' g none := by
 have HI := am hI
 have HB := am hB
 have HF := am hf
 have HN := am hn
 have H0 := am h0
 have H1 := am h1
 have hw : wrap64 v = v := by unfold wrap64; omega
 have hd : ¬ (1099511627777 < v) := by omega
 have hd2 : v < 1099511627777 := by omega
 clear hI hB hf hn h0 h1
 go_enter Tryz.func90, Tryz.ntmps90
 go_wp2_with fail
 refine (rd_var k g s0 s1 v n w0 _ HI.out HB.out H0.out H1.out HN.out HF.out).mono ?_
 rintro e w' ⟨rfl, h1, h2, h3⟩
 have H := am (And.intro h1 (And.intro h2 h3))
 clear h1 h2 h3
 go_wp2
 go_ret
 exact ⟨by simp [hw], H.out⟩
set_option maxHeartbeats 1600000 in
set_option maxRecDepth 100000 in
theorem rd_good (g : Nat) (s0 : List Int) (s1 : Int) (w0 w : World) (hG : ErrT w) (hI : RD w0 w g s0 s1 0 0) :
  Calls Tryz.prog 120 #[.pointer (some ⟨g, 0, none⟩)] w fun e w' => e = .returned (.bool true) ∧ Below w.heap.size w w' := by
 have HI := am hI
 have HG := am hG
 clear hI hG
 go_enter Tryz.func120, Tryz.ntmps120
 go_wp2_with fail
 refine (rd_err g s0 s1 0 0 w0 w HG.out HI.out).mono ?_
 rintro e w' ⟨rfl, hb⟩
 have HB := am hb
 clear hb
 go_wp2
 go_ret
 exact ⟨rfl, HB.out⟩
set_option maxHeartbeats 1600000 in
set_option maxRecDepth 100000 in
theorem rd_end (g : Nat) (s0 : List Int) (s1 : Int) (w0 w : World) (hG : ErrT w) (hI : RD w0 w g s0 s1 0 0) (he : wrap64 ((s0.length : Int) - s1) = 0) :
  Calls Tryz.prog 96 #[.pointer (some ⟨g, 0, none⟩)] w fun e w' => e = .returned (.tuple #[.int .i64 0, .int .i64 0]) ∧ Below w.heap.size w w' := by
 have HI := am hI
 have HG := am hG
 have HE := am he
 clear hI hG he
 go_enter Tryz.func96, Tryz.ntmps96
 go_wp2_with fail
 refine (rd_err g s0 s1 0 0 w0 w HG.out HI.out).mono ?_
 rintro e w1 ⟨rfl, hb⟩
 have HB := am hb
 have HI1 := am (HI.out.below hb)
 clear hb
 go_wp2_with fail
 refine (rd_left g s0 s1 0 0 w0 w1 HI1.out).mono ?_
 rintro e w2 ⟨rfl, ⟨nd, rfl⟩⟩
 rw [HE.out]
 go_wp2
 go_ret2
 exact ⟨rfl, HB.out.trans ((pw_below_drewN (Below.refl _ w1) nd).mono HB.out.size)⟩
end
end Go.Proofs.YtjmhiklmlgbifaaGreatDoor.PMan
