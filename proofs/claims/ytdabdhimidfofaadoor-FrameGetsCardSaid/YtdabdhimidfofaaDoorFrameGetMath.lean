/- What frame.Get tells of eight bytes or more. -/
import Derived.Test.YtdabdhimidfofaaDoorPFramex5
import Derived.Test.YtdabdhimidfofaaDoorPFramex6
import Derived.Test.YtdabdhimidfofaaDoorPFramex9
import Derived.Test.YtdabdhimidfofaaDoorPFramex11
import Derived.Test.YtdabdhimidfofaaDoorFrameMath
namespace Go.Proofs.YtdabdhimidfofaaDoor.FrameMath
open Go.RowKit Go.Proofs.YtdabdhimidfofaaDoor.PFrame Go.Proofs.YtdabdhimidfofaaDoorW.PrintWords Go.Proofs.YtdabdhimidfofaaDoorW.PrintLast
open Go.Proofs.YtdabdhimidfofaaDoor.CrcMath

/-- Four bytes as a number, the lowest first. -/
def le4 (a b c d : Int) : Nat := a.toNat + 256 * b.toNat + 65536 * c.toNat + 16777216 * d.toNat
def B1 (x : Int) : Prop := 0 ≤ x ∧ x < 256
theorem u64_or (i : Nat) (hi : i ≤ 40) (x y : Int) (h0 : 0 ≤ x) (hx : x % 2 ^ i = 0) (h1 : x < 2 ^ 40) (k0 : 0 ≤ y) (k1 : y < 2 ^ i) : Go.bits .or .u64 x y = x + y := by
  have : (2 : Int) ^ i ≤ 2 ^ 40 := by exact_mod_cast Nat.pow_le_pow_right (n := 2) (by decide) hi
  exact bits_join .u64 40 (by decide) (fun n h0 h1 => wrap_u64 n h0 (by have : (2 : Int) ^ 40 = 1099511627776 := by decide
                                                                        omega)) i x y h0 hx h1 k0 k1 (by omega)
theorem fixv_is (a b c d : Int) (ha : B1 a) (hb : B1 b) (hc : B1 c) (hd : B1 d) : fixv [a, b, c, d] = some ((le4 a b c d : Nat) : Int) := by
  obtain ⟨a0, a1⟩ := ha
  obtain ⟨b0, b1⟩ := hb
  obtain ⟨c0, c1⟩ := hc
  obtain ⟨d0, d1⟩ := hd
  show some _ = some _
  unfold le4
  rw [wrap_u64 a (by omega) (by omega), wrap_u64 b (by omega) (by omega), wrap_u64 c (by omega) (by omega), wrap_u64 d (by omega) (by omega)]
  rw [wrap_u64 (d * 16777216) (by omega) (by omega), wrap_u64 (c * 65536) (by omega) (by omega), wrap_u64 (b * 256) (by omega) (by omega)]
  have e40 : (2 : Int) ^ 40 = 1099511627776 := by decide
  have e24 : (2 : Int) ^ 24 = 16777216 := by decide
  have e16 : (2 : Int) ^ 16 = 65536 := by decide
  have e8 : (2 : Int) ^ 8 = 256 := by decide
  rw [u64_or 40 (by omega) 0 (d * 16777216) (by omega) (by omega) (by omega) (by omega) (by omega)]
  rw [u64_or 24 (by omega) (0 + d * 16777216) (c * 65536) (by omega) (by omega) (by omega) (by omega) (by omega)]
  rw [u64_or 16 (by omega) (0 + d * 16777216 + c * 65536) (b * 256) (by omega) (by omega) (by omega) (by omega) (by omega)]
  rw [u64_or 8 (by omega) (0 + d * 16777216 + c * 65536 + b * 256) a (by omega) (by omega) (by omega) (by omega) (by omega)]
  congr 1
  omega
theorem fix_a (x0 x1 x2 x3 x4 x5 x6 x7 : Int) (h0 : B1 x0) (h1 : B1 x1) (h2 : B1 x2) (h3 : B1 x3) :
    num_Reader_Fix.f [x0, x1, x2, x3, x4, x5, x6, x7] 0 0 0 4 = some (((le4 x0 x1 x2 x3 : Nat) : Int), 4, 0, 0) := by
  unfold num_Reader_Fix.f num_Reader_Take.f
  simp only [List.length_cons, List.length_nil]
  rw [if_pos (by decide), if_pos (by decide), if_neg (by decide), if_pos (by decide), if_pos (by decide), if_neg (by decide), if_pos (by decide)]
  simp only [Option.bind_some]
  rw [show (List.take (Int.toNat (0 + 4)) [x0, x1, x2, x3, x4, x5, x6, x7]).drop (Int.toNat 0) = [x0, x1, x2, x3] from rfl, fixv_is x0 x1 x2 x3 h0 h1 h2 h3]
  rfl
theorem fix_b (x0 x1 x2 x3 x4 x5 x6 x7 : Int) (h4 : B1 x4) (h5 : B1 x5) (h6 : B1 x6) (h7 : B1 x7) :
    num_Reader_Fix.f [x0, x1, x2, x3, x4, x5, x6, x7] 4 0 0 4 = some (((le4 x4 x5 x6 x7 : Nat) : Int), 8, 0, 0) := by
  unfold num_Reader_Fix.f num_Reader_Take.f
  simp only [List.length_cons, List.length_nil]
  rw [if_pos (by decide), if_pos (by decide), if_neg (by decide), if_pos (by decide), if_pos (by decide), if_neg (by decide), if_pos (by decide)]
  simp only [Option.bind_some]
  rw [show (List.take (Int.toNat (4 + 4)) [x0, x1, x2, x3, x4, x5, x6, x7]).drop (Int.toNat 4) = [x4, x5, x6, x7] from rfl, fixv_is x4 x5 x6 x7 h4 h5 h6 h7]
  rfl
/-- Of eight bytes and more. -/
theorem get_long (x0 x1 x2 x3 x4 x5 x6 x7 : Int) (r : List Int) (h : Byte (x0 :: x1 :: x2 :: x3 :: x4 :: x5 :: x6 :: x7 :: r)) (hr : r.length ≤ 1099511627776) :
    frame_Get.f (x0 :: x1 :: x2 :: x3 :: x4 :: x5 :: x6 :: x7 :: r) = some (
      if 16777216 < le4 x0 x1 x2 x3 then ([], 0, 12) else if r.length < le4 x0 x1 x2 x3 then ([], 0, 2)
      else if le4 x4 x5 x6 x7 = (sum 0#32 ([x0, x1, x2, x3] ++ r.take (le4 x0 x1 x2 x3))).toNat then (r.take (le4 x0 x1 x2 x3), ((8 + le4 x0 x1 x2 x3 : Nat) : Int), 0) else ([], 0, 6)) := by
  have hb : ∀ x ∈ (x0 :: x1 :: x2 :: x3 :: x4 :: x5 :: x6 :: x7 :: r), B1 x := h
  have h0 := hb x0 (by simp)
  have h1 := hb x1 (by simp)
  have h2 := hb x2 (by simp)
  have h3 := hb x3 (by simp)
  have h4 := hb x4 (by simp)
  have h5 := hb x5 (by simp)
  have h6 := hb x6 (by simp)
  have h7 := hb x7 (by simp)
  have hR : Byte r := fun x hx => h x (by simp [hx])
  have hs : le4 x4 x5 x6 x7 < 4294967296 := by obtain ⟨_, _⟩ := h4; obtain ⟨_, _⟩ := h5; obtain ⟨_, _⟩ := h6; obtain ⟨_, _⟩ := h7; unfold le4; omega
  have hF : Byte [x0, x1, x2, x3] := fun x hx => hb x (by simp only [List.mem_cons, List.not_mem_nil, or_false] at hx ⊢; rcases hx with h | h | h | h <;> simp [h])
  unfold frame_Get.f frame_read.f
  rw [show List.take 8 (x0 :: x1 :: x2 :: x3 :: x4 :: x5 :: x6 :: x7 :: r) = [x0, x1, x2, x3, x4, x5, x6, x7] from rfl, fix_a x0 x1 x2 x3 x4 x5 x6 x7 h0 h1 h2 h3]
  simp only [Option.bind_some]
  rw [fix_b x0 x1 x2 x3 x4 x5 x6 x7 h4 h5 h6 h7]
  simp only [Option.bind_some, List.length_cons]
  generalize hn : le4 x0 x1 x2 x3 = n
  by_cases q1 : 16777216 < n
  · rw [if_pos (by omega), if_pos q1]
    rfl
  · rw [if_neg (by omega), if_pos trivial, if_pos (by omega), if_neg q1]
    by_cases q2 : r.length < n
    · rw [if_pos (by omega), if_pos q2]
      rfl
    · rw [if_neg (by omega), if_neg q2]
      rw [show (8 + (n : Int)).toNat = 8 + n from by omega]
      rw [show (List.take (8 + n) (x0 :: x1 :: x2 :: x3 :: x4 :: x5 :: x6 :: x7 :: r)).drop 8 = r.take n from by rw [show 8 + n = n + 1 + 1 + 1 + 1 + 1 + 1 + 1 + 1 from by omega]; rfl]
      rw [show List.take 4 (x0 :: x1 :: x2 :: x3 :: x4 :: x5 :: x6 :: x7 :: r) = [x0, x1, x2, x3] from rfl, sum_is _ hF]
      simp only [Option.bind_some]
      rw [more_is _ _ (fun x hx => hR x (List.mem_of_mem_take hx)), sum_append]
      simp only [Option.bind_some]
      have hlen : (r.take n).length = n := by rw [List.length_take]; omega
      have e1 : ((le4 x4 x5 x6 x7 : Nat) : Int) % 4294967296 = ((le4 x4 x5 x6 x7 : Nat) : Int) := by omega
      rw [e1]
      by_cases q3 : le4 x4 x5 x6 x7 = (sum 0#32 ([x0, x1, x2, x3] ++ r.take n)).toNat
      · rw [if_pos (by unfold I; exact_mod_cast q3), if_pos q3]
        simp only [Option.bind_some]
        rw [if_pos trivial, hlen]
        have : wrap64 (8 + (n : Int)) = ((8 + n : Nat) : Int) := by unfold wrap64; omega
        rw [this]
      · rw [if_neg (by unfold I; exact_mod_cast q3), if_neg q3]
        rfl
end Go.Proofs.YtdabdhimidfofaaDoor.FrameMath
