/- The document's frames are the program's. -/
import Derived.Test.YtdabdhimidfofaaDoorGetsC
import Derived.Test.YtdabdhimidfofaaDoorFrameAllMath
namespace Go.Proofs.YtdabdhimidfofaaDoor.FrameMath
open Go.RowKit Go.Proofs.YtdabdhimidfofaaDoor.PFrame Go.Proofs.YtdabdhimidfofaaDoorW.PrintWords Go.Proofs.YtdabdhimidfofaaDoorW.PrintLast
open Go.Proofs.YtdabdhimidfofaaDoor.CrcMath

theorem rfixv_is (a b c d : Int) (ha : B1 a) (hb : B1 b) (hc : B1 c) (hd : B1 d) : rfixv [a, b, c, d] = some ((le4 a b c d : Nat) : Int) := by
  obtain ⟨a0, a1⟩ := ha
  obtain ⟨b0, b1⟩ := hb
  obtain ⟨c0, c1⟩ := hc
  obtain ⟨d0, d1⟩ := hd
  show some _ = some _
  unfold le4
  rw [wrap_u64 d (by omega) (by omega), wrap_u64 d (by omega) (by omega), wrap_u64 (256 * d) (by omega) (by omega)]
  rw [wrap_u64 c (by omega) (by omega), wrap_u64 (256 * d + c) (by omega) (by omega), wrap_u64 (256 * (256 * d + c)) (by omega) (by omega)]
  rw [wrap_u64 b (by omega) (by omega), wrap_u64 (256 * (256 * d + c) + b) (by omega) (by omega), wrap_u64 (256 * (256 * (256 * d + c) + b)) (by omega) (by omega)]
  rw [wrap_u64 a (by omega) (by omega), wrap_u64 (256 * (256 * (256 * d + c) + b) + a) (by omega) (by omega)]
  congr 1
  omega
theorem rfix_tiny (l : List Int) (hl : l.length < 4) : estreatref01_Reader_Fix.f l 0 0 0 = some (0, 0, 2, 0) := by
  unfold estreatref01_Reader_Fix.f estreatref01_Reader_Take.f
  rw [if_pos rfl, if_neg (by decide), if_pos (by decide), if_pos (by omega), if_pos (by omega), Option.bind_some]
  rfl
theorem rfix_err (l : List Int) (s1 s3 : Int) : estreatref01_Reader_Fix.f l s1 2 s3 = some (0, s1, 2, s3) := by
  unfold estreatref01_Reader_Fix.f estreatref01_Reader_Take.f
  rw [if_neg (by decide), Option.bind_some]
  rfl
theorem rtake_err (l : List Int) (s1 s3 n : Int) : estreatref01_Reader_Take.f l s1 2 s3 n = some ([], s1, 2, s3) := by
  unfold estreatref01_Reader_Take.f
  rw [if_neg (by decide)]
theorem rfix_a (x0 x1 x2 x3 : Int) (t : List Int) (ht : t.length ≤ 100000000) (h0 : B1 x0) (h1 : B1 x1) (h2 : B1 x2) (h3 : B1 x3) :
    estreatref01_Reader_Fix.f (x0 :: x1 :: x2 :: x3 :: t) 0 0 0 = some (((le4 x0 x1 x2 x3 : Nat) : Int), 4, 0, 0) := by
  unfold estreatref01_Reader_Fix.f estreatref01_Reader_Take.f
  simp only [List.length_cons]
  rw [if_pos trivial, if_neg (by decide), if_pos (by decide), if_pos (by omega), if_neg (by omega), if_pos (by omega), Option.bind_some]
  dsimp only
  rw [show (List.take (Int.toNat (0 + 4)) (x0 :: x1 :: x2 :: x3 :: t)).drop (Int.toNat 0) = [x0, x1, x2, x3] from rfl, rfixv_is x0 x1 x2 x3 h0 h1 h2 h3]
  rfl
theorem rfix_mid (x0 x1 x2 x3 : Int) (t : List Int) (ht : t.length < 4) :
    estreatref01_Reader_Fix.f (x0 :: x1 :: x2 :: x3 :: t) 4 0 0 = some (0, 4, 2, 4) := by
  unfold estreatref01_Reader_Fix.f estreatref01_Reader_Take.f
  simp only [List.length_cons]
  rw [if_pos trivial, if_neg (by decide), if_pos (by decide), if_pos (by omega), if_pos (by omega), Option.bind_some]
  rfl
theorem rfix_b (x0 x1 x2 x3 x4 x5 x6 x7 : Int) (r : List Int) (hr : r.length ≤ 100000000) (h4 : B1 x4) (h5 : B1 x5) (h6 : B1 x6) (h7 : B1 x7) :
    estreatref01_Reader_Fix.f (x0 :: x1 :: x2 :: x3 :: x4 :: x5 :: x6 :: x7 :: r) 4 0 0 = some (((le4 x4 x5 x6 x7 : Nat) : Int), 8, 0, 0) := by
  unfold estreatref01_Reader_Fix.f estreatref01_Reader_Take.f
  simp only [List.length_cons]
  rw [if_pos trivial, if_neg (by decide), if_pos (by decide), if_pos (by omega), if_neg (by omega), if_pos (by omega), Option.bind_some]
  dsimp only
  rw [show (List.take (Int.toNat (4 + 4)) (x0 :: x1 :: x2 :: x3 :: x4 :: x5 :: x6 :: x7 :: r)).drop (Int.toNat 4) = [x4, x5, x6, x7] from rfl, rfixv_is x4 x5 x6 x7 h4 h5 h6 h7]
  rfl
theorem refget_tiny (k : Nat) (l : List Int) (hl : l.length < 4) : estreatref04_Get.f k l = some ([], 0, 2) := by
  unfold estreatref04_Get.f
  rw [rfix_tiny l hl, Option.bind_some]
  dsimp only
  rw [if_neg (by decide), rfix_err, Option.bind_some]
  dsimp only
  rw [rtake_err, Option.bind_some]
  dsimp only
  rw [if_neg (by decide)]
theorem refget_mid (k : Nat) (x0 x1 x2 x3 : Int) (t : List Int) (ht : t.length < 4) (h0 : B1 x0) (h1 : B1 x1) (h2 : B1 x2) (h3 : B1 x3) :
    estreatref04_Get.f k (x0 :: x1 :: x2 :: x3 :: t) = some ([], 0, if 16777216 < le4 x0 x1 x2 x3 then 12 else 2) := by
  unfold estreatref04_Get.f
  rw [rfix_a x0 x1 x2 x3 t (by omega) h0 h1 h2 h3, Option.bind_some]
  dsimp only
  by_cases q : 16777216 < le4 x0 x1 x2 x3
  · rw [if_pos ⟨rfl, by omega⟩, if_pos q]
  · rw [if_neg (fun h => q (by have := h.2; omega)), if_neg q, rfix_mid x0 x1 x2 x3 t ht, Option.bind_some]
    dsimp only
    rw [rtake_err, Option.bind_some]
    dsimp only
    rw [if_neg (by decide)]
theorem fix4_le4 (x0 x1 x2 x3 : Int) (h0 : B1 x0) (h1 : B1 x1) (h2 : B1 x2) (h3 : B1 x3) : fix4 (le4 x0 x1 x2 x3) = [x0, x1, x2, x3] := by
  obtain ⟨_, _⟩ := h0
  obtain ⟨_, _⟩ := h1
  obtain ⟨_, _⟩ := h2
  obtain ⟨_, _⟩ := h3
  unfold le4 fix4
  refine List.cons_eq_cons.2 ⟨by omega, List.cons_eq_cons.2 ⟨by omega, List.cons_eq_cons.2 ⟨by omega, List.cons_eq_cons.2 ⟨by omega, rfl⟩⟩⟩⟩
theorem refget_long (k : Nat) (x0 x1 x2 x3 x4 x5 x6 x7 : Int) (r : List Int) (h : Byte (x0 :: x1 :: x2 :: x3 :: x4 :: x5 :: x6 :: x7 :: r)) (hr : r.length ≤ 10000000) (hk : 10 * r.length + 100 < k) :
    estreatref04_Get.f k (x0 :: x1 :: x2 :: x3 :: x4 :: x5 :: x6 :: x7 :: r) = some (
      if 16777216 < le4 x0 x1 x2 x3 then ([], 0, 12) else if r.length < le4 x0 x1 x2 x3 then ([], 0, 2)
      else if le4 x4 x5 x6 x7 = (sum 0#32 ([x0, x1, x2, x3] ++ r.take (le4 x0 x1 x2 x3))).toNat then (r.take (le4 x0 x1 x2 x3), ((8 + le4 x0 x1 x2 x3 : Nat) : Int), 0) else ([], 0, 6)) := by
  have hb : ∀ x ∈ (x0 :: x1 :: x2 :: x3 :: x4 :: x5 :: x6 :: x7 :: r), B1 x := h
  have h0 := hb x0 (by simp)
  have h1 := hb x1 (by simp)
  have h2 := hb x2 (by simp)
  have h3 := hb x3 (by simp)
  have h4 := hb x4 (by simp)
  have h5 := hb x5 (by simp)
  have h6 := hb x6 (by simp)
  have h7 := hb x7 (by simp)
  have hR : Byte r := fun x hx => h x (by simp [hx])
  have hs : le4 x4 x5 x6 x7 < 4294967296 := by obtain ⟨_, _⟩ := h4; obtain ⟨_, _⟩ := h5; obtain ⟨_, _⟩ := h6; obtain ⟨_, _⟩ := h7; unfold le4; omega
  have hF : Byte [x0, x1, x2, x3] := fun x hx => hb x (by simp only [List.mem_cons, List.not_mem_nil, or_false] at hx ⊢; rcases hx with h | h | h | h <;> simp [h])
  have hfx := fix4_le4 x0 x1 x2 x3 h0 h1 h2 h3
  unfold estreatref04_Get.f
  rw [rfix_a x0 x1 x2 x3 (x4 :: x5 :: x6 :: x7 :: r) (by simp only [List.length_cons]; omega) h0 h1 h2 h3, Option.bind_some]
  dsimp only
  generalize hn : le4 x0 x1 x2 x3 = n at *
  by_cases q1 : 16777216 < n
  · rw [if_pos ⟨rfl, by omega⟩, if_pos q1]
  · rw [if_neg (fun h => q1 (by have := h.2; omega)), if_neg q1, rfix_b x0 x1 x2 x3 x4 x5 x6 x7 r (by omega) h4 h5 h6 h7, Option.bind_some]
    dsimp only
    have hw : wrap64 (n : Int) = (n : Int) := by unfold wrap64; omega
    rw [hw]
    by_cases q2 : r.length < n
    · have ht : estreatref01_Reader_Take.f (x0 :: x1 :: x2 :: x3 :: x4 :: x5 :: x6 :: x7 :: r) 8 0 0 (n : Int) = some ([], 8, 2, 8) := by
        unfold estreatref01_Reader_Take.f
        simp only [List.length_cons]
        rw [if_pos trivial, if_neg (by omega), if_pos (by decide), if_pos (by omega), if_pos (by omega)]
      rw [ht, Option.bind_some, if_pos q2]
      dsimp only
      rw [if_neg (by decide)]
    · have ht : estreatref01_Reader_Take.f (x0 :: x1 :: x2 :: x3 :: x4 :: x5 :: x6 :: x7 :: r) 8 0 0 (n : Int) = some (r.take n, ((8 + n : Nat) : Int), 0, 0) := by
        unfold estreatref01_Reader_Take.f
        simp only [List.length_cons]
        rw [if_pos trivial, if_neg (by omega), if_pos (by decide), if_pos (by omega), if_neg (by omega), if_pos (by omega)]
        rw [show ((8 : Int) + (n : Int)).toNat = 8 + n from by omega]
        rw [show (List.take (8 + n) (x0 :: x1 :: x2 :: x3 :: x4 :: x5 :: x6 :: x7 :: r)).drop (Int.toNat 8) = r.take n from by rw [show 8 + n = n + 1 + 1 + 1 + 1 + 1 + 1 + 1 + 1 from by omega]; rfl]
        rw [show (8 : Int) + (n : Int) = ((8 + n : Nat) : Int) from by omega]
      have hlen : (r.take n).length = n := by rw [List.length_take]; omega
      rw [ht, Option.bind_some, if_neg q2]
      dsimp only
      rw [if_pos rfl, reffix_is n (by omega) k (by omega), Option.bind_some, hfx]
      rw [if_pos (by rw [hlen]; simp only [List.length_cons, List.length_nil]; omega)]
      rw [show (0 : Int) = I 0#32 from rfl, refmore_is 0#32 _ (Byte.app hF (fun x hx => hR x (List.mem_of_mem_take hx))) (by rw [List.length_append, hlen]; simp only [List.length_cons, List.length_nil]; omega) k (by rw [List.length_append, hlen]; simp only [List.length_cons, List.length_nil]; omega), Option.bind_some]
      have e1 : ((le4 x4 x5 x6 x7 : Nat) : Int) % 4294967296 = ((le4 x4 x5 x6 x7 : Nat) : Int) := by omega
      rw [e1]
      by_cases q3 : le4 x4 x5 x6 x7 = (sum 0#32 ([x0, x1, x2, x3] ++ r.take n)).toNat
      · rw [if_pos (by unfold I; exact_mod_cast q3.symm), if_pos q3]
      · rw [if_neg (by unfold I; exact fun h => q3 (by exact_mod_cast h.symm)), if_neg q3]
theorem refget_is (k : Nat) (l : List Int) (h : Byte l) (hl : l.length ≤ 1000000) (hk : 10 * l.length + 100 < k) : estreatref04_Get.f k l = frame_Get.f l := by
  by_cases h8 : l.length < 8
  · match l, h, h8 with
    | [], _, _ => rw [refget_tiny k _ (by decide), get_tiny _ (by decide)]
    | [_], _, _ => rw [refget_tiny k _ (by simp), get_tiny _ (by simp)]
    | [_, _], _, _ => rw [refget_tiny k _ (by simp), get_tiny _ (by simp)]
    | [_, _, _], _, _ => rw [refget_tiny k _ (by simp), get_tiny _ (by simp)]
    | x0 :: x1 :: x2 :: x3 :: t, h, hl =>
      have ht : t.length < 4 := by simp only [List.length_cons] at hl; omega
      rw [refget_mid k x0 x1 x2 x3 t ht (h _ (by simp)) (h _ (by simp)) (h _ (by simp)) (h _ (by simp)), get_mid x0 x1 x2 x3 t ht (h _ (by simp)) (h _ (by simp)) (h _ (by simp)) (h _ (by simp))]
  · obtain ⟨x0, x1, x2, x3, x4, x5, x6, x7, r, rfl⟩ := cons8 l (by omega)
    simp only [List.length_cons] at hl hk
    rw [get_long x0 x1 x2 x3 x4 x5 x6 x7 r h (by omega), refget_long k x0 x1 x2 x3 x4 x5 x6 x7 r h (by omega) (by omega)]
theorem refall_from {b : List Int} {l : List (List Int)} {w : Nat} (h : Alls b l w) : ∀ (x : List Int) (acc : List (List Int)) (a k : Nat), x.drop a = b → a ≤ x.length → x.length ≤ 1000000 → Byte x → acc.length + l.length < 1000000 → l.length + 10 * x.length + 200 < k →
    estreatref04_All.l0 k x acc (a : Int) = some (acc ++ l, ((a + w : Nat) : Int)) := by
  induction h with
  | stop b e hf he =>
    intro x acc a k hx ha hxl hB hacc hk
    obtain ⟨k, rfl⟩ : ∃ m, k = m + 1 := ⟨k - 1, by omega⟩
    have hg : estreatref04_Get.f k b = frame_Get.f b := refget_is k b (hx ▸ byte_drop hB a) (by rw [← hx, List.length_drop]; omega) (by rw [← hx, List.length_drop]; omega)
    rw [estreatref04_All.l0, if_pos (by omega), if_pos (by omega), Int.toNat_natCast, hx, hg, hf, Option.bind_some]
    dsimp only
    rw [if_neg he, List.append_nil, Nat.add_zero]
  | more b p n l w hn hnb hf hl ih =>
    intro x acc a k hx ha hxl hB hacc hk
    obtain ⟨k, rfl⟩ : ∃ m, k = m + 1 := ⟨k - 1, by omega⟩
    have hbl : b.length = x.length - a := by rw [← hx, List.length_drop]
    have hg : estreatref04_Get.f k b = frame_Get.f b := refget_is k b (hx ▸ byte_drop hB a) (by omega) (by omega)
    have hfb := hf [] byte_nil (by rw [List.length_nil]; omega)
    rw [List.append_nil] at hfb
    simp only [List.length_cons] at hacc hk
    have hw : wrap64 ((a : Int) + (n : Int)) = ((a + n : Nat) : Int) := by unfold wrap64; omega
    rw [estreatref04_All.l0, if_pos (by omega), if_pos (by omega), Int.toNat_natCast, hx, hg, hfb, Option.bind_some]
    dsimp only
    rw [if_pos rfl, if_pos (by omega), hw]
    have hih := ih x (acc ++ [p]) (a + n) k (by rw [← hx, List.drop_drop]) (by omega) hxl hB (by rw [List.length_append, List.length_singleton]; omega) (by omega)
    rw [hih, List.append_assoc, Nat.add_assoc]
    rfl
theorem refall_is {b : List Int} {l : List (List Int)} {w : Nat} (h : Alls b l w) (hb : b.length ≤ 1000000) (hB : Byte b) (k : Nat) (hk : l.length + 10 * b.length + 200 < k) : estreatref04_All.f k b = some (l, (w : Int)) := by
  have hs := h.size
  have := refall_from h b [] 0 k rfl (by omega) hb hB (by simp only [List.length_nil]; omega) hk
  rw [List.nil_append, Nat.zero_add] at this
  exact this
end Go.Proofs.YtdabdhimidfofaaDoor.FrameMath
