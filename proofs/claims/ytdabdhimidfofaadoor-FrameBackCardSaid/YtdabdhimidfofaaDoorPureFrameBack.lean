/- Frames of any parts are read as those, with less than a frame behind them, too. -/
import Derived.Test.YtdabdhimidfofaaDoorPFramex19
import Derived.Test.YtdabdhimidfofaaDoorFrameAllMath
namespace Go.Proofs.YtdabdhimidfofaaDoor.Pure
open Go.RowKit Go.Proofs.YtdabdhimidfofaaDoor.PFrame Go.Proofs.YtdabdhimidfofaaDoorW.PrintWords Go.Proofs.YtdabdhimidfofaaDoorW.PrintLast
open Go.Proofs.YtdabdhimidfofaaDoor.CrcMath Go.Proofs.YtdabdhimidfofaaDoor.FrameMath

theorem back_awake_20 : estreatlaw04_awake.f 20 = some true := by decide +kernel
theorem back_awake (k : Nat) (hk : 20 ≤ k) : estreatlaw04_awake.f k = some true := at_rounds (fun k => estreatlaw04_awake.mono k) hk back_awake_20
/-- The frames of parts. -/
def cat (l : List (List Int)) : List Int := (l.map frameP).flatten
theorem cat_cons (p : List Int) (l : List (List Int)) : cat (p :: l) = frameP p ++ cat l := rfl
theorem cat_append (a b : List (List Int)) : cat (a ++ b) = cat a ++ cat b := by simp [cat]
theorem cat_one (p : List Int) : cat [p] = frameP p := by simp [cat]
theorem cat_length (l : List (List Int)) (h : ∀ p ∈ l, p.length ≤ 200) : (cat l).length ≤ 208 * l.length := by
  induction l with
  | nil => simp [cat]
  | cons p l ih =>
    have := ih (fun q hq => h q (by simp [hq]))
    have := h p (by simp)
    rw [cat_cons, List.length_append, frameP_length, List.length_cons]
    omega
theorem cat_byte (l : List (List Int)) (h : ∀ p ∈ l, Byte p) : Byte (cat l) := by
  induction l with
  | nil => exact byte_nil
  | cons p l ih => rw [cat_cons]; exact Byte.app (frameP_byte p (h p (by simp))) (ih (fun q hq => h q (by simp [hq])))
theorem alls_cat (t : List Int) (ht : Byte t) (htl : t.length < 8) (l : List (List Int)) (hb : ∀ p ∈ l, Byte p) (h : ∀ p ∈ l, p.length ≤ 200) (hl : l.length ≤ 1000) : Alls (cat l ++ t) l (cat l).length := by
  induction l with
  | nil =>
    obtain ⟨e, he, h0⟩ := get_short t ht htl
    exact .stop _ e he h0
  | cons p l ih =>
    rw [List.length_cons] at hl
    have hp := h p (by simp)
    have hB := hb p (by simp)
    have hih := ih (fun q hq => hb q (by simp [hq])) (fun q hq => h q (by simp [hq])) (by omega)
    have hcl := cat_length l (fun q hq => h q (by simp [hq]))
    have hcb := cat_byte l (fun q hq => hb q (by simp [hq]))
    rw [cat_cons, List.append_assoc, List.length_append, frameP_length]
    refine .more _ p (8 + p.length) l _ rfl (by rw [List.length_append, frameP_length]; omega) (fun c hc hcl' => ?_) ?_
    · rw [List.length_append, frameP_length, List.length_append] at hcl'
      rw [List.append_assoc]
      exact get_own p _ hB (Byte.app (Byte.app hcb ht) hc) (by omega) (by rw [List.length_append, List.length_append]; omega)
    · rw [show List.drop (8 + p.length) (frameP p ++ (cat l ++ t)) = cat l ++ t from by rw [← frameP_length, List.drop_left]]
      exact hih
theorem rd_row (l : List (List Int)) (i : Nat) (hi : i < l.length) : rd_L1 l (i : Int) = l[i] := by
  unfold rd_L1
  rw [Int.toNat_natCast, List.getD_eq_getElem?_getD, List.getElem?_eq_getElem hi, Option.getD_some]
theorem back_from (l : List (List Int)) (t : List Int) (hb : ∀ p ∈ l, Byte p) (ht : Byte t) (hl : l.length ≤ 20) (n : Nat) : ∀ (k i : Nat), i + n = l.length → n + 1000 ≤ k → (∀ p ∈ l.take i, p.length ≤ 200) →
    estreatlaw04_FrameBack.l0 (k + 1) l t (cat (l.take i)) (i : Int) = some true := by
  induction n with
  | zero =>
    intro k i hi hk hs
    have hti : l.take i = l := List.take_of_length_le (by omega)
    rw [hti] at hs ⊢
    have hcl := cat_length l hs
    have hmn : ∃ m : Nat, mn (t.length : Int) 7 = (m : Int) ∧ m ≤ t.length ∧ m ≤ 7 := by
      unfold mn
      by_cases q : (7 : Int) < (t.length : Int)
      · exact ⟨7, by rw [if_pos q]; rfl, by omega, by omega⟩
      · exact ⟨t.length, by rw [if_neg q], by omega, by omega⟩
    obtain ⟨m, hm, hm1, hm2⟩ := hmn
    have hmt : (t.take m).length = m := by rw [List.length_take]; omega
    have hA := alls_cat (t.take m) (byte_take ht m) (by omega) l hb hs (by omega)
    rw [estreatlaw04_FrameBack.l0, if_neg (by omega), Option.bind_some, if_pos (by rw [List.length_nil]; omega), List.nil_append, Option.bind_some, hm, if_pos (by omega), if_pos (by omega), Int.toNat_natCast, if_pos (by rw [hmt]; omega),
      all_is hA (by rw [List.length_append, hmt]; omega) k (by omega), Option.bind_some]
    dsimp only
    rw [sameall_self l 200 hs (by omega) (by omega) k (by omega), Option.bind_some, if_pos rfl, if_pos rfl, back_awake k (by omega), Option.bind_some]
  | succ n ih =>
    intro k i hi hk hs
    have hil : i < l.length := by omega
    have hcl := cat_length (l.take i) hs
    rw [List.length_take] at hcl
    rw [estreatlaw04_FrameBack.l0, if_pos (by omega), if_pos (by omega), rd_row l i hil]
    have hBi := hb l[i] (List.getElem_mem hil)
    by_cases h2 : ((l[i]).length : Int) > 200
    · rw [if_pos h2, back_awake k (by omega), Option.bind_some]
    · rw [if_neg h2, put_is l[i] hBi (by omega) k (by omega), Option.bind_some]
      dsimp only
      rw [if_pos rfl, if_pos (by rw [frameP_length]; omega), wrap_next i (by omega)]
      have hti : l.take (i + 1) = l.take i ++ [l[i]] := by rw [List.take_add_one, List.getElem?_eq_getElem hil]; rfl
      have hc : cat (l.take i) ++ frameP l[i] = cat (l.take (i + 1)) := by rw [hti, cat_append, cat_one]
      rw [hc]
      obtain ⟨k, rfl⟩ : ∃ m, k = m + 1 := ⟨k - 1, by omega⟩
      refine ih k (i + 1) (by omega) (by omega) (fun p hp => ?_)
      rw [hti] at hp
      rcases List.mem_append.1 hp with hp | hp
      · exact hs p hp
      · obtain rfl := List.mem_singleton.1 hp
        omega
/-- True at every input. -/
theorem FrameBack (l : List (List Int)) (t : List Int) (hb : ∀ x ∈ l, ∀ n ∈ x, (Lit.int .u8 n).wf = true) (ht : ∀ n ∈ t, (Lit.int .u8 n).wf = true) : ∃ k, estreatlaw04_FrameBack.f k l t = some true := by
  have hB : ∀ p ∈ l, Byte p := fun p hp => byte_of p (hb p hp)
  have hT := byte_of t ht
  suffices hk_ : ∀ k, 2000 ≤ k → estreatlaw04_FrameBack.f (k + 1) l t = some true from ⟨2001, hk_ 2000 (by omega)⟩
  intro k hk
  unfold estreatlaw04_FrameBack.f
  by_cases h0 : (l.length : Int) > 20
  · rw [if_pos h0, back_awake (k + 1) (by omega), Option.bind_some]
  · rw [if_neg h0]
    exact back_from l t hB hT (by omega) l.length k 0 (by omega) (by omega) (fun p hp => by simp at hp)

end Go.Proofs.YtdabdhimidfofaaDoor.Pure
