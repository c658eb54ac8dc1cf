/- A frame (of a part of at most 2000 bytes) of which a bit is turned isn't read as another one of the same length; at every other input, too, the document's example holds. -/
import Derived.Test.YtdabdhimidfofaaDoorPFramex16
import Derived.Test.YtdabdhimidfofaaDoorFrameGetMath
namespace Go.Proofs.YtdabdhimidfofaaDoor.Pure
open Go.RowKit Go.Proofs.YtdabdhimidfofaaDoor.PFrame Go.Proofs.YtdabdhimidfofaaDoorW.PrintWords Go.Proofs.YtdabdhimidfofaaDoorW.PrintLast
open Go.Proofs.YtdabdhimidfofaaDoor.CrcMath Go.Proofs.YtdabdhimidfofaaDoor.FrameMath

theorem turned_awake_20 : estreatlaw04_awake.f 20 = some true := by decide +kernel
theorem turned_awake (k : Nat) (hk : 20 ≤ k) : estreatlaw04_awake.f k = some true := at_rounds (fun k => estreatlaw04_awake.mono k) hk turned_awake_20
theorem xor_ne (x d : Nat) (hd : d ≠ 0) : x ^^^ d ≠ x := fun h => hd (by
  have := congrArg (fun y => x ^^^ y) h
  simpa [← Nat.xor_assoc] using this)
theorem list8 (b : List Int) (h : 8 ≤ b.length) : ∃ x0 x1 x2 x3 x4 x5 x6 x7 r, b = x0 :: x1 :: x2 :: x3 :: x4 :: x5 :: x6 :: x7 :: r := by
  match b, h with
  | x0 :: x1 :: x2 :: x3 :: x4 :: x5 :: x6 :: x7 :: r, _ => exact ⟨x0, x1, x2, x3, x4, x5, x6, x7, r, rfl⟩
theorem le4_fix (n : Nat) (h : n < 4294967296) : le4 ((n % 256 : Nat) : Int) ((n / 256 % 256 : Nat) : Int) ((n / 65536 % 256 : Nat) : Int) ((n / 16777216 % 256 : Nat) : Int) = n := by
  unfold le4
  simp only [Int.toNat_natCast]
  omega
/-- One byte turned turns the sum. -/
theorem sum_turned (a c : List Int) (x d : Nat) (ha : Byte a) (hc : Byte c) (hx : x < 256) (hd : d < 256) (h0 : d ≠ 0) :
    sum 0#32 (a ++ ((x ^^^ d : Nat) : Int) :: c) ≠ sum 0#32 (a ++ (x : Int) :: c) := by
  intro h
  unfold sum at h
  have h1 : fold (ones ^^^ 0#32) (CrcMath.bytes (a ++ ((x ^^^ d : Nat) : Int) :: c)) = fold (ones ^^^ 0#32) (CrcMath.bytes (a ++ (x : Int) :: c)) := by
    have := congrArg (fun y => ones ^^^ y) h
    simpa [← BitVec.xor_assoc] using this
  have eb : ∀ y : Nat, CrcMath.bytes (a ++ (y : Int) :: c) = CrcMath.bytes a ++ y :: CrcMath.bytes c := fun y => by simp [CrcMath.bytes]
  rw [eb, eb] at h1
  have hz : CrcMath.bytes a ++ (x ^^^ d) :: CrcMath.bytes c = List.zipWith (· ^^^ ·) (CrcMath.bytes a ++ x :: CrcMath.bytes c) (List.replicate (CrcMath.bytes a).length 0 ++ d :: List.replicate (CrcMath.bytes c).length 0) := by
    rw [List.zipWith_append (by simp)]
    have : ∀ l : List Nat, List.zipWith (· ^^^ ·) l (List.replicate l.length 0) = l := fun l => by
      apply List.ext_getElem
      · simp
      · intro i h1 h2
        simp
    rw [this, List.zipWith_cons_cons, this]
  have hA : ∀ y ∈ CrcMath.bytes a ++ x :: CrcMath.bytes c, y < 256 := by
    intro y hy
    simp only [List.mem_append, List.mem_cons] at hy
    rcases hy with hy | hy | hy
    · exact bytes_lt ha y hy
    · omega
    · exact bytes_lt hc y hy
  have hD : ∀ y ∈ List.replicate (CrcMath.bytes a).length 0 ++ d :: List.replicate (CrcMath.bytes c).length 0, y < 256 := by
    intro y hy
    simp only [List.mem_append, List.mem_cons, List.mem_replicate] at hy
    omega
  have h2 := fold_xor (CrcMath.bytes a ++ x :: CrcMath.bytes c) (List.replicate (CrcMath.bytes a).length 0 ++ d :: List.replicate (CrcMath.bytes c).length 0) (ones ^^^ 0#32) 0#32 (by simp) hA hD
  rw [← hz, BitVec.xor_zero, h1] at h2
  have h3 : fold 0#32 (List.replicate (CrcMath.bytes a).length 0 ++ d :: List.replicate (CrcMath.bytes c).length 0) = 0#32 := by
    have := congrArg (fun y => fold (ones ^^^ 0#32) (CrcMath.bytes a ++ x :: CrcMath.bytes c) ^^^ y) h2
    simpa [← BitVec.xor_assoc] using this.symm
  rw [fold_append, fold_zeros, Tn_zero] at h3
  have h4 : fold (CrcMath.step 0#32 d) (List.replicate (CrcMath.bytes c).length 0) = 0#32 := h3
  rw [fold_zeros] at h4
  have h5 := Tn_inj0 _ _ h4
  rw [step_eq _ _ hd, BitVec.zero_xor] at h5
  have h6 := congrArg BitVec.toNat (Tn_inj0 _ _ h5)
  rw [BitVec.toNat_ofNat, Nat.mod_eq_of_lt (by omega)] at h6
  exact h0 h6
theorem get_out (x0 x1 x2 x3 x4 x5 x6 x7 : Int) (r : List Int) (h : Byte (x0 :: x1 :: x2 :: x3 :: x4 :: x5 :: x6 :: x7 :: r)) (hr : r.length ≤ 1099511627776) :
    ∃ p n e, frame_Get.f (x0 :: x1 :: x2 :: x3 :: x4 :: x5 :: x6 :: x7 :: r) = some (p, n, e) ∧ (e = 0 → n = ((8 + le4 x0 x1 x2 x3 : Nat) : Int) ∧ le4 x4 x5 x6 x7 = (sum 0#32 ([x0, x1, x2, x3] ++ r.take (le4 x0 x1 x2 x3))).toNat) := by
  rw [get_long x0 x1 x2 x3 x4 x5 x6 x7 r h hr]
  by_cases q1 : 16777216 < le4 x0 x1 x2 x3
  · rw [if_pos q1]
    exact ⟨_, _, _, rfl, fun h => absurd h (by decide)⟩
  · rw [if_neg q1]
    by_cases q2 : r.length < le4 x0 x1 x2 x3
    · rw [if_pos q2]
      exact ⟨_, _, _, rfl, fun h => absurd h (by decide)⟩
    · rw [if_neg q2]
      by_cases q3 : le4 x4 x5 x6 x7 = (sum 0#32 ([x0, x1, x2, x3] ++ r.take (le4 x0 x1 x2 x3))).toNat
      · rw [if_pos q3]
        exact ⟨_, _, _, rfl, fun _ => ⟨rfl, q3⟩⟩
      · rw [if_neg q3]
        exact ⟨_, _, _, rfl, fun h => absurd h (by decide)⟩
/-- What is read of a frame with a byte turned: an error, or another length. -/
theorem turned_read (l : List Int) (hB : Byte l) (hl : l.length ≤ 2000) (m d : Nat) (hm : m < 8 + l.length) (hd : d < 256) (h0 : d ≠ 0) :
    ∃ p n e, frame_Get.f ((frameP l).set m (((frameP l).getD m 0).toNat ^^^ d : Nat)) = some (p, n, e) ∧ (e = 0 → n ≠ ((8 + l.length : Nat) : Int)) := by
  have hfr : frameP l = ((l.length % 256 : Nat) : Int) :: ((l.length / 256 % 256 : Nat) : Int) :: ((l.length / 65536 % 256 : Nat) : Int) :: ((l.length / 16777216 % 256 : Nat) : Int) :: (((fsum l).toNat % 256 : Nat) : Int) :: (((fsum l).toNat / 256 % 256 : Nat) : Int) :: (((fsum l).toNat / 65536 % 256 : Nat) : Int) :: (((fsum l).toNat / 16777216 % 256 : Nat) : Int) :: l := rfl
  have hs := (fsum l).isLt
  have hsum : fsum l = sum 0#32 (fix4 l.length ++ l) := rfl
  have hfx : fix4 l.length = [((l.length % 256 : Nat) : Int), ((l.length / 256 % 256 : Nat) : Int), ((l.length / 65536 % 256 : Nat) : Int), ((l.length / 16777216 % 256 : Nat) : Int)] := rfl
  rw [hfr]
  generalize hns : (fsum l).toNat = s at *
  generalize hn : l.length = n at *
  have hc : m = 0 ∨ m = 1 ∨ m = 2 ∨ m = 3 ∨ m = 4 ∨ m = 5 ∨ m = 6 ∨ m = 7 ∨ ∃ i, m = i + 8 := by
    by_cases h : m < 8
    · omega
    · exact .inr (.inr (.inr (.inr (.inr (.inr (.inr (.inr ⟨m - 8, by omega⟩)))))))
  have le_n := le4_fix n (by omega)
  have le_s := le4_fix s (by omega)
  rcases hc with rfl | rfl | rfl | rfl | rfl | rfl | rfl | rfl | ⟨i, rfl⟩
  · have hx := xor_ne (n % 256) d h0
    have hlt := xor_lt (n % 256) d (by omega) hd
    show ∃ p nn e, frame_Get.f ((((n % 256) ^^^ d : Nat) : Int) :: ((n / 256 % 256 : Nat) : Int) :: ((n / 65536 % 256 : Nat) : Int) :: ((n / 16777216 % 256 : Nat) : Int) :: ((s % 256 : Nat) : Int) :: ((s / 256 % 256 : Nat) : Int) :: ((s / 65536 % 256 : Nat) : Int) :: ((s / 16777216 % 256 : Nat) : Int) :: l) = some (p, nn, e) ∧ (e = 0 → nn ≠ ((8 + n : Nat) : Int))
    generalize (n % 256) ^^^ d = v at *
    obtain ⟨p, nn, e, hf, he⟩ := get_out (v : Int) ((n / 256 % 256 : Nat) : Int) ((n / 65536 % 256 : Nat) : Int) ((n / 16777216 % 256 : Nat) : Int) ((s % 256 : Nat) : Int) ((s / 256 % 256 : Nat) : Int) ((s / 65536 % 256 : Nat) : Int) ((s / 16777216 % 256 : Nat) : Int) l (by
      intro y hy
      simp only [List.mem_cons] at hy
      rcases hy with rfl | rfl | rfl | rfl | rfl | rfl | rfl | rfl | hy
      all_goals first | exact hB y hy | omega) (by omega)
    refine ⟨p, nn, e, hf, fun e0 en => ?_⟩
    obtain ⟨g1, g2⟩ := he e0
    rw [en] at g1
    unfold le4 at g1
    simp only [Int.toNat_natCast] at g1
    omega
  · have hx := xor_ne (n / 256 % 256) d h0
    have hlt := xor_lt (n / 256 % 256) d (by omega) hd
    show ∃ p nn e, frame_Get.f (((n % 256 : Nat) : Int) :: (((n / 256 % 256) ^^^ d : Nat) : Int) :: ((n / 65536 % 256 : Nat) : Int) :: ((n / 16777216 % 256 : Nat) : Int) :: ((s % 256 : Nat) : Int) :: ((s / 256 % 256 : Nat) : Int) :: ((s / 65536 % 256 : Nat) : Int) :: ((s / 16777216 % 256 : Nat) : Int) :: l) = some (p, nn, e) ∧ (e = 0 → nn ≠ ((8 + n : Nat) : Int))
    generalize (n / 256 % 256) ^^^ d = v at *
    obtain ⟨p, nn, e, hf, he⟩ := get_out ((n % 256 : Nat) : Int) (v : Int) ((n / 65536 % 256 : Nat) : Int) ((n / 16777216 % 256 : Nat) : Int) ((s % 256 : Nat) : Int) ((s / 256 % 256 : Nat) : Int) ((s / 65536 % 256 : Nat) : Int) ((s / 16777216 % 256 : Nat) : Int) l (by
      intro y hy
      simp only [List.mem_cons] at hy
      rcases hy with rfl | rfl | rfl | rfl | rfl | rfl | rfl | rfl | hy
      all_goals first | exact hB y hy | omega) (by omega)
    refine ⟨p, nn, e, hf, fun e0 en => ?_⟩
    obtain ⟨g1, g2⟩ := he e0
    rw [en] at g1
    unfold le4 at g1
    simp only [Int.toNat_natCast] at g1
    omega
  · have hx := xor_ne (n / 65536 % 256) d h0
    have hlt := xor_lt (n / 65536 % 256) d (by omega) hd
    show ∃ p nn e, frame_Get.f (((n % 256 : Nat) : Int) :: ((n / 256 % 256 : Nat) : Int) :: (((n / 65536 % 256) ^^^ d : Nat) : Int) :: ((n / 16777216 % 256 : Nat) : Int) :: ((s % 256 : Nat) : Int) :: ((s / 256 % 256 : Nat) : Int) :: ((s / 65536 % 256 : Nat) : Int) :: ((s / 16777216 % 256 : Nat) : Int) :: l) = some (p, nn, e) ∧ (e = 0 → nn ≠ ((8 + n : Nat) : Int))
    generalize (n / 65536 % 256) ^^^ d = v at *
    obtain ⟨p, nn, e, hf, he⟩ := get_out ((n % 256 : Nat) : Int) ((n / 256 % 256 : Nat) : Int) (v : Int) ((n / 16777216 % 256 : Nat) : Int) ((s % 256 : Nat) : Int) ((s / 256 % 256 : Nat) : Int) ((s / 65536 % 256 : Nat) : Int) ((s / 16777216 % 256 : Nat) : Int) l (by
      intro y hy
      simp only [List.mem_cons] at hy
      rcases hy with rfl | rfl | rfl | rfl | rfl | rfl | rfl | rfl | hy
      all_goals first | exact hB y hy | omega) (by omega)
    refine ⟨p, nn, e, hf, fun e0 en => ?_⟩
    obtain ⟨g1, g2⟩ := he e0
    rw [en] at g1
    unfold le4 at g1
    simp only [Int.toNat_natCast] at g1
    omega
  · have hx := xor_ne (n / 16777216 % 256) d h0
    have hlt := xor_lt (n / 16777216 % 256) d (by omega) hd
    show ∃ p nn e, frame_Get.f (((n % 256 : Nat) : Int) :: ((n / 256 % 256 : Nat) : Int) :: ((n / 65536 % 256 : Nat) : Int) :: (((n / 16777216 % 256) ^^^ d : Nat) : Int) :: ((s % 256 : Nat) : Int) :: ((s / 256 % 256 : Nat) : Int) :: ((s / 65536 % 256 : Nat) : Int) :: ((s / 16777216 % 256 : Nat) : Int) :: l) = some (p, nn, e) ∧ (e = 0 → nn ≠ ((8 + n : Nat) : Int))
    generalize (n / 16777216 % 256) ^^^ d = v at *
    obtain ⟨p, nn, e, hf, he⟩ := get_out ((n % 256 : Nat) : Int) ((n / 256 % 256 : Nat) : Int) ((n / 65536 % 256 : Nat) : Int) (v : Int) ((s % 256 : Nat) : Int) ((s / 256 % 256 : Nat) : Int) ((s / 65536 % 256 : Nat) : Int) ((s / 16777216 % 256 : Nat) : Int) l (by
      intro y hy
      simp only [List.mem_cons] at hy
      rcases hy with rfl | rfl | rfl | rfl | rfl | rfl | rfl | rfl | hy
      all_goals first | exact hB y hy | omega) (by omega)
    refine ⟨p, nn, e, hf, fun e0 en => ?_⟩
    obtain ⟨g1, g2⟩ := he e0
    rw [en] at g1
    unfold le4 at g1
    simp only [Int.toNat_natCast] at g1
    omega
  · have hx := xor_ne (s % 256) d h0
    have hlt := xor_lt (s % 256) d (by omega) hd
    show ∃ p nn e, frame_Get.f (((n % 256 : Nat) : Int) :: ((n / 256 % 256 : Nat) : Int) :: ((n / 65536 % 256 : Nat) : Int) :: ((n / 16777216 % 256 : Nat) : Int) :: (((s % 256) ^^^ d : Nat) : Int) :: ((s / 256 % 256 : Nat) : Int) :: ((s / 65536 % 256 : Nat) : Int) :: ((s / 16777216 % 256 : Nat) : Int) :: l) = some (p, nn, e) ∧ (e = 0 → nn ≠ ((8 + n : Nat) : Int))
    generalize (s % 256) ^^^ d = v at *
    obtain ⟨p, nn, e, hf, he⟩ := get_out ((n % 256 : Nat) : Int) ((n / 256 % 256 : Nat) : Int) ((n / 65536 % 256 : Nat) : Int) ((n / 16777216 % 256 : Nat) : Int) (v : Int) ((s / 256 % 256 : Nat) : Int) ((s / 65536 % 256 : Nat) : Int) ((s / 16777216 % 256 : Nat) : Int) l (by
      intro y hy
      simp only [List.mem_cons] at hy
      rcases hy with rfl | rfl | rfl | rfl | rfl | rfl | rfl | rfl | hy
      all_goals first | exact hB y hy | omega) (by omega)
    refine ⟨p, nn, e, hf, fun e0 en => ?_⟩
    obtain ⟨g1, g2⟩ := he e0
    rw [le_n, List.take_of_length_le (by omega), ← hfx, ← hsum, hns] at g2
    unfold le4 at g2
    simp only [Int.toNat_natCast] at g2
    omega
  · have hx := xor_ne (s / 256 % 256) d h0
    have hlt := xor_lt (s / 256 % 256) d (by omega) hd
    show ∃ p nn e, frame_Get.f (((n % 256 : Nat) : Int) :: ((n / 256 % 256 : Nat) : Int) :: ((n / 65536 % 256 : Nat) : Int) :: ((n / 16777216 % 256 : Nat) : Int) :: ((s % 256 : Nat) : Int) :: (((s / 256 % 256) ^^^ d : Nat) : Int) :: ((s / 65536 % 256 : Nat) : Int) :: ((s / 16777216 % 256 : Nat) : Int) :: l) = some (p, nn, e) ∧ (e = 0 → nn ≠ ((8 + n : Nat) : Int))
    generalize (s / 256 % 256) ^^^ d = v at *
    obtain ⟨p, nn, e, hf, he⟩ := get_out ((n % 256 : Nat) : Int) ((n / 256 % 256 : Nat) : Int) ((n / 65536 % 256 : Nat) : Int) ((n / 16777216 % 256 : Nat) : Int) ((s % 256 : Nat) : Int) (v : Int) ((s / 65536 % 256 : Nat) : Int) ((s / 16777216 % 256 : Nat) : Int) l (by
      intro y hy
      simp only [List.mem_cons] at hy
      rcases hy with rfl | rfl | rfl | rfl | rfl | rfl | rfl | rfl | hy
      all_goals first | exact hB y hy | omega) (by omega)
    refine ⟨p, nn, e, hf, fun e0 en => ?_⟩
    obtain ⟨g1, g2⟩ := he e0
    rw [le_n, List.take_of_length_le (by omega), ← hfx, ← hsum, hns] at g2
    unfold le4 at g2
    simp only [Int.toNat_natCast] at g2
    omega
  · have hx := xor_ne (s / 65536 % 256) d h0
    have hlt := xor_lt (s / 65536 % 256) d (by omega) hd
    show ∃ p nn e, frame_Get.f (((n % 256 : Nat) : Int) :: ((n / 256 % 256 : Nat) : Int) :: ((n / 65536 % 256 : Nat) : Int) :: ((n / 16777216 % 256 : Nat) : Int) :: ((s % 256 : Nat) : Int) :: ((s / 256 % 256 : Nat) : Int) :: (((s / 65536 % 256) ^^^ d : Nat) : Int) :: ((s / 16777216 % 256 : Nat) : Int) :: l) = some (p, nn, e) ∧ (e = 0 → nn ≠ ((8 + n : Nat) : Int))
    generalize (s / 65536 % 256) ^^^ d = v at *
    obtain ⟨p, nn, e, hf, he⟩ := get_out ((n % 256 : Nat) : Int) ((n / 256 % 256 : Nat) : Int) ((n / 65536 % 256 : Nat) : Int) ((n / 16777216 % 256 : Nat) : Int) ((s % 256 : Nat) : Int) ((s / 256 % 256 : Nat) : Int) (v : Int) ((s / 16777216 % 256 : Nat) : Int) l (by
      intro y hy
      simp only [List.mem_cons] at hy
      rcases hy with rfl | rfl | rfl | rfl | rfl | rfl | rfl | rfl | hy
      all_goals first | exact hB y hy | omega) (by omega)
    refine ⟨p, nn, e, hf, fun e0 en => ?_⟩
    obtain ⟨g1, g2⟩ := he e0
    rw [le_n, List.take_of_length_le (by omega), ← hfx, ← hsum, hns] at g2
    unfold le4 at g2
    simp only [Int.toNat_natCast] at g2
    omega
  · have hx := xor_ne (s / 16777216 % 256) d h0
    have hlt := xor_lt (s / 16777216 % 256) d (by omega) hd
    show ∃ p nn e, frame_Get.f (((n % 256 : Nat) : Int) :: ((n / 256 % 256 : Nat) : Int) :: ((n / 65536 % 256 : Nat) : Int) :: ((n / 16777216 % 256 : Nat) : Int) :: ((s % 256 : Nat) : Int) :: ((s / 256 % 256 : Nat) : Int) :: ((s / 65536 % 256 : Nat) : Int) :: (((s / 16777216 % 256) ^^^ d : Nat) : Int) :: l) = some (p, nn, e) ∧ (e = 0 → nn ≠ ((8 + n : Nat) : Int))
    generalize (s / 16777216 % 256) ^^^ d = v at *
    obtain ⟨p, nn, e, hf, he⟩ := get_out ((n % 256 : Nat) : Int) ((n / 256 % 256 : Nat) : Int) ((n / 65536 % 256 : Nat) : Int) ((n / 16777216 % 256 : Nat) : Int) ((s % 256 : Nat) : Int) ((s / 256 % 256 : Nat) : Int) ((s / 65536 % 256 : Nat) : Int) (v : Int) l (by
      intro y hy
      simp only [List.mem_cons] at hy
      rcases hy with rfl | rfl | rfl | rfl | rfl | rfl | rfl | rfl | hy
      all_goals first | exact hB y hy | omega) (by omega)
    refine ⟨p, nn, e, hf, fun e0 en => ?_⟩
    obtain ⟨g1, g2⟩ := he e0
    rw [le_n, List.take_of_length_le (by omega), ← hfx, ← hsum, hns] at g2
    unfold le4 at g2
    simp only [Int.toNat_natCast] at g2
    omega
  · have hi : i < l.length := by omega
    obtain ⟨x, ex, hx⟩ := hB.at_ i hi
    have hlt := xor_lt x d hx hd
    have hg : (((n % 256 : Nat) : Int) :: ((n / 256 % 256 : Nat) : Int) :: ((n / 65536 % 256 : Nat) : Int) :: ((n / 16777216 % 256 : Nat) : Int) :: ((s % 256 : Nat) : Int) :: ((s / 256 % 256 : Nat) : Int) :: ((s / 65536 % 256 : Nat) : Int) :: ((s / 16777216 % 256 : Nat) : Int) :: l).getD (i + 8) 0 = l.getD i 0 := rfl
    rw [hg, rd_get l i hi, ex, Int.toNat_natCast]
    show ∃ p nn e, frame_Get.f (((n % 256 : Nat) : Int) :: ((n / 256 % 256 : Nat) : Int) :: ((n / 65536 % 256 : Nat) : Int) :: ((n / 16777216 % 256 : Nat) : Int) :: ((s % 256 : Nat) : Int) :: ((s / 256 % 256 : Nat) : Int) :: ((s / 65536 % 256 : Nat) : Int) :: ((s / 16777216 % 256 : Nat) : Int) :: l.set i ((x ^^^ d : Nat) : Int)) = some (p, nn, e) ∧ (e = 0 → nn ≠ ((8 + n : Nat) : Int))
    have hset : l.set i ((x ^^^ d : Nat) : Int) = l.take i ++ ((x ^^^ d : Nat) : Int) :: l.drop (i + 1) := List.set_eq_take_append_cons_drop.trans (if_pos hi)
    have hl0 : l = l.take i ++ (x : Int) :: l.drop (i + 1) := by
      rw [← ex]
      simp
    have hBt : Byte (l.take i) := fun y hy => hB y (List.mem_of_mem_take hy)
    have hBd : Byte (l.drop (i + 1)) := fun y hy => hB y (List.mem_of_mem_drop hy)
    have hBs : Byte (l.set i ((x ^^^ d : Nat) : Int)) := by
      rw [hset]
      refine Byte.app hBt ?_
      intro y hy
      rcases List.mem_cons.1 hy with rfl | hy
      · omega
      · exact hBd y hy
    obtain ⟨p, nn, e, hf, he⟩ := get_out ((n % 256 : Nat) : Int) ((n / 256 % 256 : Nat) : Int) ((n / 65536 % 256 : Nat) : Int) ((n / 16777216 % 256 : Nat) : Int) ((s % 256 : Nat) : Int) ((s / 256 % 256 : Nat) : Int) ((s / 65536 % 256 : Nat) : Int) ((s / 16777216 % 256 : Nat) : Int) (l.set i ((x ^^^ d : Nat) : Int)) (by
      intro y hy
      simp only [List.mem_cons] at hy
      rcases hy with rfl | rfl | rfl | rfl | rfl | rfl | rfl | rfl | hy
      all_goals first | exact hBs y hy | omega) (by rw [List.length_set]; omega)
    refine ⟨p, nn, e, hf, fun e0 en => ?_⟩
    obtain ⟨g1, g2⟩ := he e0
    rw [le_n, le_s, List.take_of_length_le (by rw [List.length_set]; omega), ← hfx] at g2
    rw [hset, ← List.append_assoc] at g2
    have hne := sum_turned (fix4 n ++ l.take i) (l.drop (i + 1)) x d (Byte.app (fix4_byte _) hBt) hBd hx hd h0
    apply hne
    apply BitVec.eq_of_toNat_eq
    rw [← g2, ← hns, hsum, List.append_assoc, ← hl0]
theorem bits_loop (b : List Int) (x7 : Int) (s : Nat) (hs : s < 8) (h8 : Int.tmod x7 8 = (s : Int)) (n : Nat) :
    ∀ (k j : Nat), j + n = s → estreatlaw04_FrameTurned.l0 (k + n + 1) b x7 ((2 ^ j : Nat) : Int) (j : Int) = estreatlaw04_FrameTurned.l0 (k + 1) b x7 ((2 ^ s : Nat) : Int) (s : Int) := by
  induction n with
  | zero =>
    intro k j hj
    obtain rfl : j = s := by omega
    rfl
  | succ n ih =>
    intro k j hj
    have hw : 2 ^ (j + 1) ≤ 128 := Nat.pow_le_pow_right (n := 2) (i := j + 1) (j := 7) (by decide) (by omega)
    have hih := ih k (j + 1) (by omega)
    have e1 := wrap_next j (by omega)
    have e2 : ((2 ^ j : Nat) : Int) * 2 % 256 = ((2 ^ (j + 1) : Nat) : Int) := by
      rw [Nat.pow_succ] at hw ⊢
      generalize 2 ^ j = q at *
      omega
    rw [show k + (n + 1) + 1 = (k + n + 1) + 1 from by omega, estreatlaw04_FrameTurned.l0, h8, if_pos (by omega), e1, e2]
    exact hih
theorem FrameTurned : estreatlaw04_FrameTurned.Pure := by
  intro l a _ hl hb ha
  have hB := byte_of l hb
  suffices hk_ : ∀ k, 39 ≤ k → estreatlaw04_FrameTurned.f (k + 1) l a = some true from ⟨40, hk_ 39 (by omega)⟩
  intro k hk
  unfold estreatlaw04_FrameTurned.f
  rw [turned_awake (k + 1) (by omega)]
  by_cases h : (l.length : Int) > 2000
  · rw [if_pos h]
    rfl
  · rw [if_neg h, put_is l hB (by omega) (k + 1) (by omega)]
    have hlen := frameP_length l
    have hfB := frameP_byte l hB
    have htr := turned_read l hB (by omega)
    generalize frameP l = b at *
    rw [Option.bind_some]
    dsimp only
    have e1 : wrap64 (8 * (b.length : Int)) = ((8 * (8 + l.length) : Nat) : Int) := by rw [hlen]; unfold wrap64; omega
    obtain ⟨r, hr, hlt⟩ := pick_in estreatref01_Pick.f (fun a n => rfl) a (8 * (8 + l.length)) (by omega) (by omega)
    rw [e1, hr]
    simp only [Option.bind_some]
    rw [if_neg (by rw [hlen]; omega)]
    have hm : Int.tmod (r : Int) 8 = ((r % 8 : Nat) : Int) := by rw [Int.tmod_eq_emod_of_nonneg (by omega)]; omega
    have hd : wrap64 (Int.tdiv (r : Int) 8) = ((r / 8 : Nat) : Int) := by rw [Int.tdiv_eq_ediv_of_nonneg (by omega)]; unfold wrap64; omega
    have hloop := bits_loop b (r : Int) (r % 8) (by omega) hm (r % 8) (k - r % 8) 0 (by omega)
    rw [show k - r % 8 + r % 8 + 1 = k + 1 from by omega] at hloop
    rw [show (1 : Int) = ((2 ^ 0 : Nat) : Int) from rfl, show (0 : Int) = ((0 : Nat) : Int) from rfl, hloop, estreatlaw04_FrameTurned.l0, hm, if_neg (by omega), hd, if_pos (by omega), if_pos (by rw [hlen]; omega)]
    have hp : 2 ^ (r % 8) ≤ 128 := Nat.pow_le_pow_right (n := 2) (i := r % 8) (j := 7) (by decide) (by omega)
    have hp0 : 2 ^ (r % 8) ≠ 0 := Nat.ne_of_gt (Nat.two_pow_pos _)
    generalize 2 ^ (r % 8) = d at *
    have hq : r / 8 < b.length := by omega
    obtain ⟨x, ex, hx⟩ := hfB.at_ (r / 8) hq
    have hrd : rd b ((r / 8 : Nat) : Int) = (x : Int) := by
      unfold rd
      rw [Int.toNat_natCast, rd_get _ _ hq, ex]
    rw [hrd, Int.toNat_natCast, xor8_nat x d hx (by omega)]
    obtain ⟨p, n, e, hf, he⟩ := htr (r / 8) d (by omega) (by omega) hp0
    rw [rd_get _ _ hq, ex, Int.toNat_natCast] at hf
    rw [hf, turned_awake _ (by omega), hlen]
    simp only [Option.bind_some]
    by_cases h0 : e = 0
    · rw [if_pos h0, if_neg (he h0)]
    · rw [if_neg h0]

end Go.Proofs.YtdabdhimidfofaaDoor.Pure
