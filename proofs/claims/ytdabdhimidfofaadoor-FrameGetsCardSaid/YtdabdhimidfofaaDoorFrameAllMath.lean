/- Frames, one behind another. -/
import Derived.Test.YtdabdhimidfofaaDoorPFramex17
import Derived.Test.YtdabdhimidfofaaDoorPFramex18
import Derived.Test.YtdabdhimidfofaaDoorFrameGetMath
namespace Go.Proofs.YtdabdhimidfofaaDoor.FrameMath
open Go.RowKit Go.Proofs.YtdabdhimidfofaaDoor.PFrame Go.Proofs.YtdabdhimidfofaaDoorW.PrintWords Go.Proofs.YtdabdhimidfofaaDoorW.PrintLast
open Go.Proofs.YtdabdhimidfofaaDoor.CrcMath

/-! ### Less than a frame's head -/
theorem get_tiny (l : List Int) (hl : l.length < 4) : frame_Get.f l = some ([], 0, 2) := by
  have h8 : List.take 8 l = l := List.take_of_length_le (by omega)
  have ha : num_Reader_Fix.f l 0 0 0 4 = some (0, 0, 2, 0) := by
    unfold num_Reader_Fix.f num_Reader_Take.f
    rw [if_pos (by decide), if_pos (by decide), if_neg (by decide), if_pos (by decide), if_pos (by omega), if_pos (by omega)]
    rfl
  have hb : num_Reader_Fix.f l 0 2 0 4 = some (0, 0, 2, 0) := by
    unfold num_Reader_Fix.f num_Reader_Take.f
    rw [if_pos (by decide), if_neg (by decide)]
    rfl
  unfold frame_Get.f frame_read.f
  rw [h8, ha, Option.bind_some]
  dsimp only
  rw [hb, Option.bind_some]
  dsimp only
  rw [if_neg (by omega), if_neg (by decide)]
  rfl
theorem get_mid (x0 x1 x2 x3 : Int) (t : List Int) (ht : t.length < 4) (h0 : B1 x0) (h1 : B1 x1) (h2 : B1 x2) (h3 : B1 x3) :
    frame_Get.f (x0 :: x1 :: x2 :: x3 :: t) = some ([], 0, if 16777216 < le4 x0 x1 x2 x3 then 12 else 2) := by
  have h8 : List.take 8 (x0 :: x1 :: x2 :: x3 :: t) = x0 :: x1 :: x2 :: x3 :: t := List.take_of_length_le (by simp only [List.length_cons]; omega)
  have ha : num_Reader_Fix.f (x0 :: x1 :: x2 :: x3 :: t) 0 0 0 4 = some (((le4 x0 x1 x2 x3 : Nat) : Int), 4, 0, 0) := by
    unfold num_Reader_Fix.f num_Reader_Take.f
    simp only [List.length_cons]
    rw [if_pos (by decide), if_pos (by decide), if_neg (by decide), if_pos (by decide), if_pos (by omega), if_neg (by omega), if_pos (by omega), Option.bind_some]
    dsimp only
    rw [show (List.take (Int.toNat (0 + 4)) (x0 :: x1 :: x2 :: x3 :: t)).drop (Int.toNat 0) = [x0, x1, x2, x3] from rfl, fixv_is x0 x1 x2 x3 h0 h1 h2 h3]
    rfl
  have hb : num_Reader_Fix.f (x0 :: x1 :: x2 :: x3 :: t) 4 0 0 4 = some (0, 4, 2, 4) := by
    unfold num_Reader_Fix.f num_Reader_Take.f
    simp only [List.length_cons]
    rw [if_pos (by decide), if_pos (by decide), if_neg (by decide), if_pos (by decide), if_pos (by omega), if_pos (by omega)]
    rfl
  unfold frame_Get.f frame_read.f
  rw [h8, ha, Option.bind_some]
  dsimp only
  rw [hb, Option.bind_some]
  dsimp only
  simp only [List.length_cons]
  by_cases q : 16777216 < le4 x0 x1 x2 x3
  · rw [if_pos (by omega), if_pos q]
    rfl
  · rw [if_neg (by omega), if_neg (by decide), if_neg q]
    rfl
theorem get_short (l : List Int) (h : Byte l) (hl : l.length < 8) : ∃ e : Int, frame_Get.f l = some ([], 0, e) ∧ e ≠ 0 := by
  match l, h, hl with
  | [], _, _ => exact ⟨2, get_tiny _ (by decide), by decide⟩
  | [_], _, _ => exact ⟨2, get_tiny _ (by simp), by decide⟩
  | [_, _], _, _ => exact ⟨2, get_tiny _ (by simp), by decide⟩
  | [_, _, _], _, _ => exact ⟨2, get_tiny _ (by simp), by decide⟩
  | x0 :: x1 :: x2 :: x3 :: t, h, hl =>
    refine ⟨_, get_mid x0 x1 x2 x3 t (by simp only [List.length_cons] at hl; omega) (h _ (by simp)) (h _ (by simp)) (h _ (by simp)) (h _ (by simp)), ?_⟩
    by_cases q : 16777216 < le4 x0 x1 x2 x3
    · rw [if_pos q]; decide
    · rw [if_neg q]; decide
theorem cons8 (b : List Int) (h : 8 ≤ b.length) : ∃ x0 x1 x2 x3 x4 x5 x6 x7 r, b = x0 :: x1 :: x2 :: x3 :: x4 :: x5 :: x6 :: x7 :: r := by
  match b, h with
  | x0 :: x1 :: x2 :: x3 :: x4 :: x5 :: x6 :: x7 :: r, _ => exact ⟨x0, x1, x2, x3, x4, x5, x6, x7, r, rfl⟩
/-- A frame, or none; and a frame stays what it is whatever stands behind it. -/
theorem get_cases (b : List Int) (h : Byte b) (hl : b.length ≤ 1000000) :
    (∃ e : Int, frame_Get.f b = some ([], 0, e) ∧ e ≠ 0) ∨ ∃ (p : List Int) (n : Nat), n = 8 + p.length ∧ n ≤ b.length ∧
      ∀ c, Byte c → b.length + c.length ≤ 2000000 → frame_Get.f (b ++ c) = some (p, (n : Int), 0) := by
  by_cases h8 : b.length < 8
  · exact .inl (get_short b h h8)
  · obtain ⟨x0, x1, x2, x3, x4, x5, x6, x7, r, rfl⟩ := cons8 b (by omega)
    simp only [List.length_cons] at hl
    have hg := get_long x0 x1 x2 x3 x4 x5 x6 x7 r h (by omega)
    by_cases q1 : 16777216 < le4 x0 x1 x2 x3
    · rw [if_pos q1] at hg
      exact .inl ⟨12, hg, by decide⟩
    · rw [if_neg q1] at hg
      by_cases q2 : r.length < le4 x0 x1 x2 x3
      · rw [if_pos q2] at hg
        exact .inl ⟨2, hg, by decide⟩
      · rw [if_neg q2] at hg
        by_cases q3 : le4 x4 x5 x6 x7 = (sum 0#32 ([x0, x1, x2, x3] ++ r.take (le4 x0 x1 x2 x3))).toNat
        · refine .inr ⟨r.take (le4 x0 x1 x2 x3), 8 + le4 x0 x1 x2 x3, ?_, ?_, fun c hc hcl => ?_⟩
          · rw [List.length_take]; omega
          · simp only [List.length_cons]; omega
          · have hgc := get_long x0 x1 x2 x3 x4 x5 x6 x7 (r ++ c) (Byte.app h hc) (by rw [List.length_append]; simp only [List.length_cons] at hcl; omega)
            have ht : (r ++ c).take (le4 x0 x1 x2 x3) = r.take (le4 x0 x1 x2 x3) := List.take_append_of_le_length (by omega)
            rw [ht, if_neg q1, if_neg (by rw [List.length_append]; omega), if_pos q3] at hgc
            exact hgc
        · rw [if_neg q3] at hg
          exact .inl ⟨6, hg, by decide⟩
/-- What one's own frame is read as. -/
theorem get_own (p c : List Int) (hp : Byte p) (hc : Byte c) (hpl : p.length ≤ 1000000) (hcl : c.length ≤ 2000000) : frame_Get.f (frameP p ++ c) = some (p, ((8 + p.length : Nat) : Int), 0) := by
  have hfr : frameP p ++ c = ((p.length % 256 : Nat) : Int) :: ((p.length / 256 % 256 : Nat) : Int) :: ((p.length / 65536 % 256 : Nat) : Int) :: ((p.length / 16777216 % 256 : Nat) : Int) :: (((fsum p).toNat % 256 : Nat) : Int) :: (((fsum p).toNat / 256 % 256 : Nat) : Int) :: (((fsum p).toNat / 65536 % 256 : Nat) : Int) :: (((fsum p).toNat / 16777216 % 256 : Nat) : Int) :: (p ++ c) := rfl
  have hs := (fsum p).isLt
  have hB : Byte (frameP p ++ c) := Byte.app (frameP_byte p hp) hc
  have e4 : ∀ n : Nat, n < 4294967296 → le4 ((n % 256 : Nat) : Int) ((n / 256 % 256 : Nat) : Int) ((n / 65536 % 256 : Nat) : Int) ((n / 16777216 % 256 : Nat) : Int) = n := by
    intro n hn
    unfold le4
    simp only [Int.toNat_natCast]
    omega
  have ht : (p ++ c).take p.length = p := by rw [List.take_append_of_le_length (by omega), List.take_length]
  rw [hfr] at hB ⊢
  rw [get_long _ _ _ _ _ _ _ _ _ hB (by rw [List.length_append]; omega), e4 p.length (by omega), e4 _ hs, ht, if_neg (by omega), if_neg (by rw [List.length_append]; omega)]
  exact congrArg some (if_pos rfl)

/-! ### All frames -/
inductive Alls : List Int → List (List Int) → Nat → Prop
  | stop (b : List Int) (e : Int) (hf : frame_Get.f b = some ([], 0, e)) (he : e ≠ 0) : Alls b [] 0
  | more (b p : List Int) (n : Nat) (l : List (List Int)) (w : Nat) (hn : n = 8 + p.length) (hnb : n ≤ b.length)
      (hf : ∀ c, Byte c → b.length + c.length ≤ 2000000 → frame_Get.f (b ++ c) = some (p, (n : Int), 0)) (hl : Alls (b.drop n) l w) : Alls b (p :: l) (n + w)
theorem byte_drop {b : List Int} (h : Byte b) (n : Nat) : Byte (b.drop n) := fun x hx => h x (List.mem_of_mem_drop hx)
theorem byte_take {b : List Int} (h : Byte b) (n : Nat) : Byte (b.take n) := fun x hx => h x (List.mem_of_mem_take hx)
theorem byte_nil : Byte [] := fun x hx => by simp at hx
theorem alls_ex (m : Nat) : ∀ b : List Int, b.length ≤ m → Byte b → b.length ≤ 1000000 → ∃ l w, Alls b l w := by
  induction m with
  | zero =>
    intro b hm hb hl
    obtain rfl : b = [] := List.length_eq_zero_iff.1 (by omega)
    exact ⟨[], 0, .stop _ 2 (get_tiny _ (by decide)) (by decide)⟩
  | succ m ih =>
    intro b hm hb hl
    rcases get_cases b hb hl with ⟨e, hf, he⟩ | ⟨p, n, hn, hnb, hf⟩
    · exact ⟨[], 0, .stop _ e hf he⟩
    · obtain ⟨l, w, h⟩ := ih (b.drop n) (by rw [List.length_drop]; omega) (byte_drop hb n) (by rw [List.length_drop]; omega)
      exact ⟨p :: l, n + w, .more b p n l w hn hnb hf h⟩
theorem Alls.size {b : List Int} {l : List (List Int)} {w : Nat} (h : Alls b l w) : w ≤ b.length ∧ 8 * l.length ≤ w ∧ ∀ p ∈ l, p.length ≤ b.length := by
  induction h with
  | stop b e hf he => exact ⟨Nat.zero_le _, by simp, fun p hp => by simp at hp⟩
  | more b p n l w hn hnb hf hl ih =>
    obtain ⟨h1, h2, h3⟩ := ih
    rw [List.length_drop] at h1 h3
    refine ⟨by omega, by simp only [List.length_cons]; omega, fun q hq => ?_⟩
    rcases List.mem_cons.1 hq with rfl | hq
    · omega
    · have := h3 q hq
      omega
theorem all_from {b : List Int} {l : List (List Int)} {w : Nat} (h : Alls b l w) : ∀ (x : List Int) (acc : List (List Int)) (a k : Nat), x.drop a = b → a ≤ x.length → x.length ≤ 1000000 → acc.length + l.length < 1000000 → l.length < k →
    frame_All.l0 k x acc (a : Int) = some (acc ++ l, ((a + w : Nat) : Int)) := by
  induction h with
  | stop b e hf he =>
    intro x acc a k hx ha hxl hacc hk
    obtain ⟨k, rfl⟩ : ∃ m, k = m + 1 := ⟨k - 1, by omega⟩
    rw [frame_All.l0, if_pos (by omega), if_pos (by omega), Int.toNat_natCast, hx, hf, Option.bind_some]
    dsimp only
    rw [if_neg he, List.append_nil, Nat.add_zero]
  | more b p n l w hn hnb hf hl ih =>
    intro x acc a k hx ha hxl hacc hk
    obtain ⟨k, rfl⟩ : ∃ m, k = m + 1 := ⟨k - 1, by omega⟩
    have hbl : b.length = x.length - a := by rw [← hx, List.length_drop]
    have hfb := hf [] byte_nil (by rw [List.length_nil]; omega)
    rw [List.append_nil] at hfb
    simp only [List.length_cons] at hacc hk
    have hw : wrap64 ((a : Int) + (n : Int)) = ((a + n : Nat) : Int) := by unfold wrap64; omega
    rw [frame_All.l0, if_pos (by omega), if_pos (by omega), Int.toNat_natCast, hx, hfb, Option.bind_some]
    dsimp only
    rw [if_pos rfl, if_pos (by omega), hw]
    have hih := ih x (acc ++ [p]) (a + n) k (by rw [← hx, List.drop_drop]) (by omega) hxl (by rw [List.length_append, List.length_singleton]; omega) (by omega)
    rw [hih, List.append_assoc, Nat.add_assoc]
    rfl
theorem all_is {b : List Int} {l : List (List Int)} {w : Nat} (h : Alls b l w) (hb : b.length ≤ 1000000) (k : Nat) (hk : l.length < k) : frame_All.f k b = some (l, (w : Int)) := by
  have hs := h.size
  have := all_from h b [] 0 k rfl (by omega) hb (by simp only [List.length_nil]; omega) hk
  rw [List.nil_append, Nat.zero_add] at this
  exact this
/-- Whole frames, and what follows them. -/
theorem Alls.join {a : List Int} {x : List (List Int)} {w : Nat} (h : Alls a x w) : ∀ (b : List Int) (y : List (List Int)) (m : Nat), w = a.length → Byte b → a.length + b.length ≤ 1000000 → Alls b y m → Alls (a ++ b) (x ++ y) (w + m) := by
  induction h with
  | stop a e hf he =>
    intro b y m hw hb hl hy
    obtain rfl : a = [] := List.length_eq_zero_iff.1 hw.symm
    rw [Nat.zero_add]
    exact hy
  | more a p n l w hn hnb hf hl ih =>
    intro b y m hw hb hlen hy
    have hr := ih b y m (by rw [List.length_drop]; omega) hb (by rw [List.length_drop]; omega) hy
    rw [Nat.add_assoc]
    refine .more (a ++ b) p n (l ++ y) (w + m) hn (by rw [List.length_append]; omega) (fun c hc hcl => ?_) ?_
    · rw [List.append_assoc]
      rw [List.length_append] at hcl
      exact hf (b ++ c) (Byte.app hb hc) (by rw [List.length_append]; omega)
    · rw [List.drop_append_of_le_length hnb]
      exact hr
theorem sameall_from (l : List (List Int)) (K : Nat) (hK : ∀ p ∈ l, p.length ≤ K) (hK' : K ≤ 1000000) (hl : l.length ≤ 1000000) (n : Nat) : ∀ (k i : Nat), i + n = l.length → n + K + 1 < k → estreatref04_SameAll.l0 k l l (i : Int) = some true := by
  induction n with
  | zero =>
    intro k i hi hk
    obtain ⟨k, rfl⟩ : ∃ m, k = m + 1 := ⟨k - 1, by omega⟩
    rw [estreatref04_SameAll.l0, if_neg (by omega)]
  | succ n ih =>
    intro k i hi hk
    obtain ⟨k, rfl⟩ : ∃ m, k = m + 1 := ⟨k - 1, by omega⟩
    have hrd : (rd_L1 l (i : Int)).length ≤ K := by
      unfold rd_L1
      rw [Int.toNat_natCast, List.getD_eq_getElem?_getD, List.getElem?_eq_getElem (by omega), Option.getD_some]
      exact hK _ (List.getElem_mem _)
    rw [estreatref04_SameAll.l0, if_pos (by omega), if_pos (by omega), if_pos (by omega), same_self _ (by omega) k (by omega), Option.bind_some, if_pos rfl, wrap_next i (by omega)]
    exact ih k (i + 1) (by omega) (by omega)
theorem sameall_self (l : List (List Int)) (K : Nat) (hK : ∀ p ∈ l, p.length ≤ K) (hK' : K ≤ 1000000) (hl : l.length ≤ 1000000) (k : Nat) (hk : l.length + K + 1 < k) : estreatref04_SameAll.f k l l = some true := by
  unfold estreatref04_SameAll.f
  rw [if_pos rfl, show (0 : Int) = ((0 : Nat) : Int) from rfl]
  exact sameall_from l K hK hK' hl l.length k 0 (by omega) hk
end Go.Proofs.YtdabdhimidfofaaDoor.FrameMath
