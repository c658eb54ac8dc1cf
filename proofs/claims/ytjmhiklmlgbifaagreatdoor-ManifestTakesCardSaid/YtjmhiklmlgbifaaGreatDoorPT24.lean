/- Texts, put into one. -/
import Derived.Test.YtjmhiklmlgbifaaGreatDoorPT23
import Derived.Laws.CopyRow
import Derived.Test.YtjmhiklmlgbifaaGreatDoorPTW
set_option linter.unusedVariables false
set_option linter.unusedSimpArgs false
open Go Go.RowKit Go.Proofs.YtjmhiklmlgbifaaGreatDoorW.PrintWords Go.Proofs.YtjmhiklmlgbifaaGreatDoorW.PrintLast Go.Proofs.YtjmhiklmlgbifaaGreatDoorW.PrintMore
namespace Go.Proofs.YtjmhiklmlgbifaaGreatDoor.PMan
section
attribute [local go_sem] max2_int min2_int max_two min_two
theorem varS_range (s0 : List Int) (s1 s2 s3 : Int) (hby : ByteL s0) : 0 ≤ (varS s0 s1 s2 s3).1 ∧ (varS s0 s1 s2 s3).1 < 18446744073709551616 := by
 unfold varS
 have hf := shortP_facts (s0.drop s1.toNat) (hby.drop _)
 split
 ·split
  ·rename_i h
   have := hf.2.2 h
   exact ⟨this.1, this.2.1⟩
  ·exact ⟨Int.le_refl 0, show (0 : Int) < 18446744073709551616 by decide⟩
 ·exact ⟨Int.le_refl 0, show (0 : Int) < 18446744073709551616 by decide⟩
def upN (lim v : Int) : Int := if v > lim then lim + 1 else v
set_option maxHeartbeats 1600000 in
set_option maxRecDepth 100000 in
theorem rdNumber_calls (g : Nat) (s0 : List Int) (s1 s2 s3 : Int) (w0 w : World) (hI : RD w0 w g s0 s1 s2 s3) (hB : Below w0.heap.size w0 w) (h0 : 0 ≤ s1) (h1 : s1 ≤ s0.length) (hb : s0.length < 1000000000) (hby : ByteL s0) :
  Calls Tryz.prog 90 #[.pointer (some ⟨g, 0, none⟩)] w fun e w' => e = .returned (.int .i64 (upN 1099511627776 (varS s0 s1 s2 s3).1)) ∧ RD w0 w' g s0 (varS s0 s1 s2 s3).2.1 (varS s0 s1 s2 s3).2.2.1 (varS s0 s1 s2 s3).2.2.2 ∧ Below w0.heap.size w0 w' ∧ KeepBut w w' g none := by
 have hv := varS_range s0 s1 s2 s3 hby
 have hc := rdVar_calls g s0 s1 s2 s3 w0 w hI hB h0 h1 hb hby
 generalize varS s0 s1 s2 s3 = r at *
 obtain ⟨v, t1, t2, t3⟩ := r
 dsimp only at hv hc ⊢
 have HC := am hc
 clear hc hI hB hby
 obtain ⟨q, hq⟩ : ∃ q, q = upN 1099511627776 v := ⟨_, rfl⟩
 rw [← hq]
 have HQ := am hq
 clear hq
 obtain ⟨hv0, hv1⟩ := hv
 by_cases h : v > 1099511627776
 ·have e : q = 1099511627777 := by rw [HQ.out, upN, if_pos h]; rfl
  subst e
  go_enter Tryz.func90, Tryz.ntmps90
  go_wp2_with fail
  refine HC.out.mono ?_
  rintro e w1 ⟨rfl, k1, k2, k3⟩
  have K := am (And.intro k1 (And.intro k2 k3))
  clear k1 k2 k3
  go_wp2
  all_goals go_ret
  all_goals first | exact ⟨rfl, K.out⟩ | (refine ⟨?_, K.out⟩; show Ending.returned (Value.int .i64 v) = Ending.returned (Value.int .i64 1099511627777); rw [show v = 1099511627777 by omega])
 ·have e : q = v := by rw [HQ.out, upN, if_neg h]
  subst e
  have hw : wrap64 q = q := by unfold wrap64; omega
  go_enter Tryz.func90, Tryz.ntmps90
  go_wp2_with fail
  refine HC.out.mono ?_
  rintro e w1 ⟨rfl, k1, k2, k3⟩
  have K := am (And.intro k1 (And.intro k2 k3))
  clear k1 k2 k3
  go_wp2
  all_goals go_ret
  all_goals exact ⟨rfl, K.out⟩
end
section
attribute [local go_sem] max2_int min2_int max_two min_two
abbrev St := Int × Int × Int
structure In (s0 : List Int) (q : St) : Prop where
 by_ : ByteL s0
 len : s0.length < 1000000000
 lo : 0 ≤ q.1
 hi : q.1 ≤ s0.length
structure Rs (w0 w : World) (g : Nat) (s0 : List Int) (q : St) : Prop where
 rd : RD w0 w g s0 q.1 q.2.1 q.2.2
 bel : Below w0.heap.size w0 w
 err : ErrT w0
 inn : In s0 q
theorem Rs.below {w0 w w' : World} {g : Nat} {s0 : List Int} {q : St} (h : Rs w0 w g s0 q) (hb : Below w.heap.size w w') : Rs w0 w' g s0 q :=
 ⟨h.rd.below hb, below_then h.bel h.bel.size hb, h.err, h.inn⟩
def failQ (e : Int) (q : St) : St := if q.2.1 = 0 then (if e = 0 then q else (q.1, e, q.1)) else q
def takeQ (s0 : List Int) (n : Int) (q : St) : List Int × St :=
 if q.2.1 = 0 then (if (s0.length : Int) - q.1 < n then ([], q.1, 2, q.1) else ((s0.take (q.1 + n).toNat).drop q.1.toNat, q.1 + n, 0, q.2.2)) else ([], q)
def fixQ (s0 : List Int) (q : St) : Int × St := ((takeQ s0 1 q).1.headD 0, (takeQ s0 1 q).2)
def varQ (s0 : List Int) (q : St) : Int × St := varS s0 q.1 q.2.1 q.2.2
def numQ (lim : Int) (s0 : List Int) (q : St) : Int × St := (upN lim (varQ s0 q).1, (varQ s0 q).2)
def blobQ (s0 : List Int) (most : Int) (q : St) : List Int × St := blobS s0 most q.1 q.2.1 q.2.2
theorem In.same {s0 : List Int} {q q' : St} (h : In s0 q) (e : q'.1 = q.1) : In s0 q' := ⟨h.by_, h.len, by rw [e]; exact h.lo, by rw [e]; exact h.hi⟩
theorem In.to {s0 : List Int} {q q' : St} (h : In s0 q) (h0 : 0 ≤ q'.1) (h1 : q'.1 ≤ s0.length) : In s0 q' := ⟨h.by_, h.len, h0, h1⟩
theorem failQ_in {s0 : List Int} {q : St} (e : Int) (h : In s0 q) : In s0 (failQ e q) := by
 refine h.same ?_
 unfold failQ
 split
 ·split <;> rfl
 ·rfl
theorem takeQ_in {s0 : List Int} {q : St} (n : Int) (hn : 0 ≤ n) (h : In s0 q) : In s0 (takeQ s0 n q).2 := by
 have h0 := h.lo
 have h1 := h.hi
 unfold takeQ
 split
 ·split
  ·exact h.same rfl
  ·exact h.to (show 0 ≤ q.1 + n by omega) (show q.1 + n ≤ _ by omega)
 ·exact h
theorem takeQ_len {s0 : List Int} {q : St} (n : Int) (hn : 0 ≤ n) (h : In s0 q) : ((takeQ s0 n q).1.length = n.toNat ∧ (takeQ s0 n q).2.2.1 = 0) ∨ ((takeQ s0 n q).1 = [] ∧ (takeQ s0 n q).2.2.1 ≠ 0) := by
 have h0 := h.lo
 have h1 := h.hi
 unfold takeQ
 split
 ·split
  ·exact .inr ⟨rfl, show (2 : Int) ≠ 0 by decide⟩
  ·refine .inl ⟨?_, rfl⟩
   show ((s0.take (q.1 + n).toNat).drop q.1.toNat).length = n.toNat
   rw [List.length_drop, List.length_take]
   omega
 ·rename_i h; exact .inr ⟨rfl, h⟩
theorem takeQ_by {s0 : List Int} {q : St} (n : Int) (h : In s0 q) : ByteL (takeQ s0 n q).1 := by
 unfold takeQ
 split
 ·split
  ·exact fun x hx => by simp at hx
  ·exact fun x hx => h.by_ x (List.mem_of_mem_take (List.mem_of_mem_drop hx))
 ·exact fun x hx => by simp at hx
theorem fixQ_range {s0 : List Int} {q : St} (h : In s0 q) : 0 ≤ (fixQ s0 q).1 ∧ (fixQ s0 q).1 < 256 := by
 have hb := takeQ_by 1 h
 unfold fixQ
 generalize (takeQ s0 1 q).1 = l at hb
 match l, hb with
 | [], _ => exact ⟨Int.le_refl 0, show (0 : Int) < 256 by decide⟩
 | x :: r, hb => exact hb x (List.mem_cons_self ..)
theorem fixQ_in {s0 : List Int} {q : St} (h : In s0 q) : In s0 (fixQ s0 q).2 := takeQ_in 1 (by decide) h
theorem varQ_in {s0 : List Int} {q : St} (h : In s0 q) : In s0 (varQ s0 q).2 := by
 have hf := shortP_facts (s0.drop q.1.toNat) (h.by_.drop _)
 have hl : (s0.drop q.1.toNat).length = s0.length - q.1.toNat := List.length_drop
 have h0 := h.lo
 have h1 := h.hi
 unfold varQ varS
 split
 ·split
  ·rename_i e
   obtain ⟨f1, f2, f3, f4⟩ := hf.2.2 e
   exact h.to (show 0 ≤ q.1 + _ by omega) (show q.1 + _ ≤ _ by omega)
  ·exact h.same rfl
 ·exact h.same rfl
theorem varQ_range {s0 : List Int} {q : St} (h : In s0 q) : 0 ≤ (varQ s0 q).1 ∧ (varQ s0 q).1 < 18446744073709551616 := varS_range s0 _ _ _ h.by_
theorem blobQ_in {s0 : List Int} {q : St} (most : Int) (h : In s0 q) : In s0 (blobQ s0 most q).2 := by
 have hf := shortP_facts (s0.drop q.1.toNat) (h.by_.drop _)
 have hl : (s0.drop q.1.toNat).length = s0.length - q.1.toNat := List.length_drop
 have h0 := h.lo
 have h1 := h.hi
 unfold blobQ blobS
 split
 ·split
  ·rename_i e
   unfold blobE at e
   split at e
   ·rename_i e0
    obtain ⟨f1, f2, f3, f4⟩ := hf.2.2 e0
    split at e
    ·exact absurd e (by decide)
    ·split at e
     ·exact absurd e (by decide)
     ·exact h.to (show 0 ≤ q.1 + _ + _ by omega) (show q.1 + _ + _ ≤ _ by omega)
   ·rename_i e0; exact absurd e e0
  ·exact h.same rfl
 ·exact h.same rfl
theorem qVar (w0 w : World) (g : Nat) (s0 : List Int) (q : St) (h : Rs w0 w g s0 q) :
  Calls Tryz.prog 118 #[.pointer (some ⟨g, 0, none⟩)] w fun e w' => e = .returned (.int .u64 (varQ s0 q).1) ∧ Rs w0 w' g s0 (varQ s0 q).2 ∧ KeepBut w w' g none := by
 refine (rdVar_calls g s0 _ _ _ w0 w h.rd h.bel h.inn.lo h.inn.hi h.inn.len h.inn.by_).mono ?_
 rintro e w' ⟨he, h1, h2, h3⟩
 exact ⟨he, ⟨h1, h2, h.err, varQ_in h.inn⟩, h3⟩
theorem qNumber (w0 w : World) (g : Nat) (s0 : List Int) (q : St) (h : Rs w0 w g s0 q) :
  Calls Tryz.prog 90 #[.pointer (some ⟨g, 0, none⟩)] w fun e w' => e = .returned (.int .i64 (numQ 1099511627776 s0 q).1) ∧ Rs w0 w' g s0 (numQ 1099511627776 s0 q).2 ∧ KeepBut w w' g none := by
 refine (rdNumber_calls g s0 _ _ _ w0 w h.rd h.bel h.inn.lo h.inn.hi h.inn.len h.inn.by_).mono ?_
 rintro e w' ⟨he, h1, h2, h3⟩
 exact ⟨he, ⟨h1, h2, h.err, varQ_in h.inn⟩, h3⟩
theorem qBlob (most : Int) (hm0 : 0 ≤ most) (hm1 : most ≤ 1000000) (w0 w : World) (g : Nat) (s0 : List Int) (q : St) (h : Rs w0 w g s0 q) :
  Calls Tryz.prog 93 #[.pointer (some ⟨g, 0, none⟩), .int .i64 most] w fun e w' => ∃ vv, e = .returned vv ∧ Kd.R (Kd.int .u8) 5 w' w.heap.size (fun _ => True) vv (blobQ s0 most q).1 ∧ Rs w0 w' g s0 (blobQ s0 most q).2 ∧ KeepBut w w' g none := by
 refine (rdBlob_calls g s0 most _ _ _ w0 w h.rd h.bel h.inn.lo h.inn.hi h.inn.len h.inn.by_ hm0 hm1).mono ?_
 rintro e w' ⟨vv, he, h0, h1, h2, h3⟩
 exact ⟨vv, he, h0, ⟨h1, h2, h.err, blobQ_in most h.inn⟩, h3⟩
theorem takeQ_p {w0 w : World} {g : Nat} {s0 : List Int} {q : St} (n : Int) (hn : 0 ≤ n) (h : Rs w0 w g s0 q) : num_Reader_Take.f s0 q.1 q.2.1 q.2.2 n = some (takeQ s0 n q) := by
 have h0 := h.inn.lo
 have h1 := h.inn.hi
 have h2 := h.inn.len
 unfold num_Reader_Take.f takeQ
 by_cases e : q.2.1 = 0
 ·rw [if_pos e, if_pos e, if_neg (by omega), if_pos h0, if_pos h1]
  by_cases hl : (s0.length : Int) - q.1 < n
  ·rw [if_pos hl, if_pos hl]
  ·rw [if_neg hl, if_neg hl, if_pos (by omega)]
 ·rw [if_neg e, if_neg e]
theorem qTake (n : Int) (hn : 0 ≤ n) (w0 w : World) (g : Nat) (s0 : List Int) (q : St) (h : Rs w0 w g s0 q) :
  Calls Tryz.prog 127 #[.pointer (some ⟨g, 0, none⟩), .int .i64 n] w fun e w' => ∃ vv, e = .returned vv ∧ Kd.R (Kd.int .u8) 5 w' w.heap.size (fun _ => True) vv (takeQ s0 n q).1 ∧ Rs w0 w' g s0 (takeQ s0 n q).2 ∧ KeepBut w w' g none := by
 refine (num_Reader_Take.calls g s0 _ _ _ n _ _ _ _ w0 w h.rd h.bel (takeQ_p n hn h)).mono ?_
 rintro e w' ⟨vv, he, h0, h1, h2, h3⟩
 exact ⟨vv, he, h0, ⟨h1, h2, h.err, takeQ_in n hn h.inn⟩, h3⟩
theorem fixQ_p {w0 w : World} {g : Nat} {s0 : List Int} {q : St} (h : Rs w0 w g s0 q) : num_Reader_Fix.f s0 q.1 q.2.1 q.2.2 1 = some (fixQ s0 q) := by
 have hl := takeQ_len 1 (by decide) h.inn
 have hb := takeQ_by 1 h.inn
 unfold num_Reader_Fix.f
 rw [if_pos (.inl rfl), takeQ_p 1 (by decide) h, Option.bind_some]
 unfold fixQ
 generalize takeQ s0 1 q = t at *
 obtain ⟨l, t1, t2, t3⟩ := t
 dsimp only at hl hb ⊢
 match l, hl, hb with
 | [], _, _ => rfl
 | [x], _, hb =>
  have hx := hb x (List.mem_cons_self ..)
  have : Go.bits .or .u64 0 (IntKind.u64.wrap x) = x := by
   rw [u64_small x hx.1 (by omega)]
   have hq : ∀ n : Fin 256, Go.bits .or .u64 0 ((n.val : Nat) : Int) = (n.val : Int) := by decide +kernel
   have := hq ⟨x.toNat, by omega⟩
   rwa [show ((x.toNat : Nat) : Int) = x by omega] at this
  show (some (Go.bits .or .u64 0 (IntKind.u64.wrap x))).bind _ = _
  rw [this]
  rfl
 | x :: y :: r, hl, _ => rcases hl with ⟨hl, _⟩ | ⟨hl, _⟩ <;> simp at hl
theorem qFix (w0 w : World) (g : Nat) (s0 : List Int) (q : St) (h : Rs w0 w g s0 q) :
  Calls Tryz.prog 116 #[.pointer (some ⟨g, 0, none⟩), .int .i64 1] w fun e w' => e = .returned (.int .u64 (fixQ s0 q).1) ∧ Rs w0 w' g s0 (fixQ s0 q).2 ∧ KeepBut w w' g none := by
 refine (num_Reader_Fix.calls g s0 _ _ _ 1 _ _ _ _ w0 w h.rd h.bel (fixQ_p h)).mono ?_
 rintro e w' ⟨he, h1, h2, h3⟩
 exact ⟨he, ⟨h1, h2, h.err, fixQ_in h.inn⟩, h3⟩
theorem qFail (a1 : Int) (w0 w : World) (g : Nat) (s0 : List Int) (q : St) (h : Rs w0 w g s0 q) :
  Calls Tryz.prog 119 #[.pointer (some ⟨g, 0, none⟩), .int .i64 a1] w fun e w' => e = .returned (.tuple #[]) ∧ Rs w0 w' g s0 (failQ a1 q) ∧ KeepBut w w' g none := by
 refine (num_Reader_Fail.calls g s0 q.1 q.2.1 q.2.2 a1 (failQ a1 q).1 (failQ a1 q).2.1 (failQ a1 q).2.2 w0 w h.rd h.bel (by unfold num_Reader_Fail.f failQ; split <;> first | rfl | (split <;> rfl))).mono ?_
 rintro e w' ⟨he, h1, h2, h3⟩
 exact ⟨he, ⟨h1, h2, h.err, failQ_in a1 h.inn⟩, h3⟩
theorem qErr (w0 w : World) (g : Nat) (s0 : List Int) (q : St) (h : Rs w0 w g s0 q) :
  Calls Tryz.prog 89 #[.pointer (some ⟨g, 0, none⟩)] w fun e w' => e = .returned (.tuple #[.int .i64 q.2.1, .int .i64 q.2.2]) ∧ Below w.heap.size w w' :=
 rd_err g s0 _ _ _ w0 w (h.err.of_below h.bel) h.rd
set_option maxHeartbeats 1600000 in
set_option maxRecDepth 100000 in
theorem qGood (w0 w : World) (g : Nat) (s0 : List Int) (q : St) (h : Rs w0 w g s0 q) :
  Calls Tryz.prog 120 #[.pointer (some ⟨g, 0, none⟩)] w fun e w' => e = .returned (.bool (q.2.1 == 0)) ∧ Below w.heap.size w w' := by
 have HC := am (qErr w0 w g s0 q h)
 clear h
 generalize q.2.1 = x at *
 generalize q.2.2 = y at *
 go_enter Tryz.func120, Tryz.ntmps120
 go_wp2_with fail
 refine HC.out.mono ?_
 rintro e w' ⟨rfl, hb⟩
 have HB := am hb
 clear hb
 go_wp2
 go_ret
 exact ⟨rfl, HB.out⟩
set_option maxHeartbeats 1600000 in
set_option maxRecDepth 100000 in
theorem qGood2 (w0 w : World) (g : Nat) (s0 : List Int) (q : St) (h : Rs w0 w g s0 q) :
  Calls Tryz.prog 123 #[.pointer (some ⟨g, 0, none⟩)] w fun e w' => e = .returned (.bool (q.2.1 == 0)) ∧ Below w.heap.size w w' := by
 have HC := am (qErr w0 w g s0 q h)
 clear h
 generalize q.2.1 = x at *
 generalize q.2.2 = y at *
 go_enter Tryz.func123, Tryz.ntmps123
 go_wp2_with fail
 refine HC.out.mono ?_
 rintro e w' ⟨rfl, hb⟩
 have HB := am hb
 clear hb
 go_wp2
 go_ret
 exact ⟨rfl, HB.out⟩
end
section
def zagP (v : Int) : Int := if v % 2 = 0 then v / 2 else -(v / 2) - 1
def valQ (s0 : List Int) (q : St) : S68 × St :=
 if (fixQ s0 q).1 = 1 then (if (varQ s0 (fixQ s0 q).2).2.2.1 = 0 then ⟨1, zagP (varQ s0 (fixQ s0 q).2).1, z68.f2⟩ else z68, (varQ s0 (fixQ s0 q).2).2)
 else if (fixQ s0 q).1 = 2 then (if (blobQ s0 65536 (fixQ s0 q).2).2.2.1 = 0 then ⟨2, 0, strOfNums (blobQ s0 65536 (fixQ s0 q).2).1⟩ else z68, (blobQ s0 65536 (fixQ s0 q).2).2)
 else if (fixQ s0 q).1 = 0 then (z68, (fixQ s0 q).2) else (z68, failQ 4 (fixQ s0 q).2)
def colQ (s0 : List Int) (q : St) : S123 × St :=
 (⟨(fixQ s0 q).1, (fixQ s0 (fixQ s0 q).2).1 == 1, (fixQ s0 (fixQ s0 (fixQ s0 q).2).2).1 - 1⟩, if (fixQ s0 (fixQ s0 q).2).1 > 1 then failQ 4 (fixQ s0 (fixQ s0 (fixQ s0 q).2).2).2 else (fixQ s0 (fixQ s0 (fixQ s0 q).2).2).2)
def colsQ (s0 : List Int) : Nat → List S123 → St → List S123 × St
 | 0, l, q => (l, q)
 | n + 1, l, q => if q.2.1 = 0 then colsQ s0 n (l ++ [(colQ s0 q).1]) (colQ s0 q).2 else (l, q)
def okL {α : Type} (e : Int) (r : List α × St) : List α × St := if (failQ e r.2).2.1 = 0 then (r.1, failQ e r.2) else ([], failQ e r.2)
def schQ (s0 : List Int) (q : St) : List S123 × St := okL (schemaP (colsQ s0 (fixQ s0 q).1.toNat [] (fixQ s0 q).2).1) (colsQ s0 (fixQ s0 q).1.toNat [] (fixQ s0 q).2)
def rowQ (s0 : List Int) : Nat → List S68 → St → List S68 × St
 | 0, l, q => (l, q)
 | n + 1, l, q => rowQ s0 n (l ++ [(valQ s0 q).1]) (valQ s0 q).2
def rowsQ (s0 : List Int) (s : List S123) : Nat → List (List S68) → St → List (List S68) × St
 | 0, l, q => (l, q)
 | n + 1, l, q => if q.2.1 = 0 then rowsQ s0 s n (l ++ [(rowQ s0 s.length [] q).1]) (failQ (rowP s (rowQ s0 s.length [] q).1) (rowQ s0 s.length [] q).2) else (l, q)
def rowsN (s0 : List Int) (q : St) : Int × St := ((varQ s0 q).1, if (varQ s0 q).1 > 65536 then failQ 12 (varQ s0 q).2 else (varQ s0 q).2)
def takeRowsQ (s0 : List Int) (s : List S123) (q : St) : List (List S68) × St := okL 0 (rowsQ s0 s (rowsN s0 q).1.toNat [] (rowsN s0 q).2)
def zH : List Int := List.replicate 32 0
def hashQ (s0 : List Int) (q : St) : List Int × St := (if (takeQ s0 32 q).2.2.1 = 0 then (takeQ s0 32 q).1 else zH, (takeQ s0 32 q).2)
def zoneQ (s0 : List Int) (q : St) : S70 × St :=
 if (fixQ s0 (numQ 65536 s0 q).2).1 = 1 then
  (⟨(numQ 65536 s0 q).1, true, (valQ s0 (fixQ s0 (numQ 65536 s0 q).2).2).1, (valQ s0 (valQ s0 (fixQ s0 (numQ 65536 s0 q).2).2).2).1⟩, (valQ s0 (valQ s0 (fixQ s0 (numQ 65536 s0 q).2).2).2).2)
 else (⟨(numQ 65536 s0 q).1, false, z68, z68⟩, if (fixQ s0 (numQ 65536 s0 q).2).1 = 0 then (fixQ s0 (numQ 65536 s0 q).2).2 else failQ 4 (fixQ s0 (numQ 65536 s0 q).2).2)
def chQ (s0 : List Int) (q : St) : CH × St := (⟨(zoneQ s0 q).1, (hashQ s0 (zoneQ s0 q).2).1⟩, (hashQ s0 (zoneQ s0 q).2).2)
def chsQ (s0 : List Int) : Nat → List CH → St → List CH × St
 | 0, l, q => (l, q)
 | n + 1, l, q => if q.2.1 = 0 then chsQ s0 n (l ++ [(chQ s0 q).1]) (chQ s0 q).2 else (l, q)
def zHead : Hd := ⟨0, 0, zH, []⟩
def headR (s0 : List Int) (s : List S123) (q : St) : Hd × St :=
 (⟨(numQ 65536 s0 q).1, (numQ 65536 s0 (numQ 65536 s0 q).2).1, (hashQ s0 (numQ 65536 s0 (numQ 65536 s0 q).2).2).1, (chsQ s0 s.length [] (hashQ s0 (numQ 65536 s0 (numQ 65536 s0 q).2).2).2).1⟩, (chsQ s0 s.length [] (hashQ s0 (numQ 65536 s0 (numQ 65536 s0 q).2).2).2).2)
def headE (s0 : List Int) (s : List S123) (q : St) : Int := if soundP (headR s0 s q).1 s = true then 0 else 4
def headQ (s0 : List Int) (s : List S123) (q : St) : Hd × St :=
 (if (failQ (headE s0 s q) (headR s0 s q).2).2.1 = 0 then (headR s0 s q).1 else zHead, failQ (headE s0 s q) (headR s0 s q).2)
def zEnt : En := ⟨zH, 0, zH⟩
def entR (s0 : List Int) (q : St) : En × St :=
 (⟨(hashQ s0 q).1, (varQ s0 (hashQ s0 q).2).1, (hashQ s0 (varQ s0 (hashQ s0 q).2).2).1⟩, if (varQ s0 (hashQ s0 q).2).1 > 1048576 then failQ 5 (hashQ s0 (varQ s0 (hashQ s0 q).2).2).2 else (hashQ s0 (varQ s0 (hashQ s0 q).2).2).2)
def entQ (s0 : List Int) (q : St) : En × St := (if (entR s0 q).2.2.1 = 0 then (entR s0 q).1 else zEnt, (entR s0 q).2)
def grpQ (s0 : List Int) (s : List S123) (q : St) : Rf × St :=
 (⟨(numQ 1099511627776 s0 q).1, (headQ s0 s (numQ 1099511627776 s0 q).2).1, (blobQ s0 65536 (headQ s0 s (numQ 1099511627776 s0 q).2).2).1⟩, (blobQ s0 65536 (headQ s0 s (numQ 1099511627776 s0 q).2).2).2)
def grpsQ (s0 : List Int) (s : List S123) : Nat → List Rf → St → List Rf × St
 | 0, l, q => (l, q)
 | n + 1, l, q => if q.2.1 = 0 then grpsQ s0 s n (l ++ [(grpQ s0 s q).1]) (grpQ s0 s q).2 else (l, q)
def entsQ (s0 : List Int) : Nat → List En → St → List En × St
 | 0, l, q => (l, q)
 | n + 1, l, q => if q.2.1 = 0 then entsQ s0 n (l ++ [(entQ s0 q).1]) (entQ s0 q).2 else (l, q)
def q0 : St := (0, 0, 0)
def genQ (s0 : List Int) : Int × St := numQ 1099511627776 s0 q0
def nextQ (s0 : List Int) : Int × St := numQ 1099511627776 s0 (genQ s0).2
def mostQ (s0 : List Int) : Int × St := numQ 1099511627776 s0 (nextQ s0).2
def mschQ (s0 : List Int) : List S123 × St := schQ s0 (mostQ s0).2
def ngQ (s0 : List Int) : Int × St := numQ 1099511627776 s0 (mschQ s0).2
def mgrpQ (s0 : List Int) : List Rf × St := grpsQ s0 (mschQ s0).1 (ngQ s0).1.toNat [] (ngQ s0).2
def mrowQ (s0 : List Int) : List (List S68) × St := takeRowsQ s0 (mschQ s0).1 (mgrpQ s0).2
def neQ (s0 : List Int) : Int × St := numQ 1099511627776 s0 (mrowQ s0).2
def mentQ (s0 : List Int) : List En × St := entsQ s0 (neQ s0).1.toNat [] (neQ s0).2
def readM (s0 : List Int) : Mn := ⟨(genQ s0).1, (nextQ s0).1, (mschQ s0).1, (mostQ s0).1, (mgrpQ s0).1, (mrowQ s0).1, (mentQ s0).1⟩
def endQ (s0 : List Int) (q : St) : Int := if q.2.1 = 0 then (if q.1 < s0.length then 3 else 0) else q.2.1
def zMn : Mn := ⟨0, 0, [], 0, [], [], []⟩
def goodM (s0 : List Int) : Prop := endQ s0 (mentQ s0).2 = 0 ∧ checkP (readM s0) = 0
instance (s0 : List Int) : Decidable (goodM s0) := by unfold goodM; infer_instance
theorem failQ_err {e : Int} {q : St} (h : q.2.1 ≠ 0) : failQ e q = q := by unfold failQ; rw [if_neg h]
theorem failQ_ne {e : Int} (q : St) (h : e ≠ 0) : (failQ e q).2.1 ≠ 0 := by
 unfold failQ
 rw [if_neg h]
 split
 ·exact h
 ·assumption
theorem failQ_zero (q : St) : failQ 0 q = q := by
 unfold failQ
 split
 ·rw [if_pos rfl]
 ·rfl
theorem takeQ_err {s0 : List Int} {n : Int} {q : St} (h : q.2.1 ≠ 0) : takeQ s0 n q = ([], q) := by unfold takeQ; rw [if_neg h]
theorem fixQ_err {s0 : List Int} {q : St} (h : q.2.1 ≠ 0) : fixQ s0 q = (0, q) := by unfold fixQ; rw [takeQ_err h]; rfl
theorem varQ_err {s0 : List Int} {q : St} (h : q.2.1 ≠ 0) : varQ s0 q = (0, q) := by unfold varQ varS; rw [if_neg h]
theorem numQ_err {s0 : List Int} {lim : Int} {q : St} (hl : 0 ≤ lim) (h : q.2.1 ≠ 0) : numQ lim s0 q = (0, q) := by unfold numQ; rw [varQ_err h]; unfold upN; rw [if_neg (by dsimp only; omega)]
theorem hashQ_err {s0 : List Int} {q : St} (h : q.2.1 ≠ 0) : hashQ s0 q = (zH, q) := by unfold hashQ; rw [takeQ_err h]; dsimp only; rw [if_neg h]
theorem colsQ_err {s0 : List Int} {n : Nat} {l : List S123} {q : St} (h : q.2.1 ≠ 0) : colsQ s0 n l q = (l, q) := by
 cases n with
 | zero => rfl
 | succ n => rw [colsQ, if_neg h]
theorem zoneQ_err {s0 : List Int} {q : St} (h : q.2.1 ≠ 0) : (zoneQ s0 q).2 = q := by
 unfold zoneQ
 rw [numQ_err (by decide) h]
 dsimp only
 rw [fixQ_err h]
 dsimp only
 rw [if_neg (by decide), if_pos rfl]
theorem chQ_err {s0 : List Int} {q : St} (h : q.2.1 ≠ 0) : (chQ s0 q).2 = q := by
 have hz := zoneQ_err (s0 := s0) h
 unfold chQ
 dsimp only
 rw [hz, hashQ_err h]
theorem chsQ_err {s0 : List Int} {n : Nat} {l : List CH} {q : St} (h : q.2.1 ≠ 0) : chsQ s0 n l q = (l, q) := by
 cases n with
 | zero => rfl
 | succ n => rw [chsQ, if_neg h]
theorem rowsQ_err {s0 : List Int} {s : List S123} {n : Nat} {l : List (List S68)} {q : St} (h : q.2.1 ≠ 0) : rowsQ s0 s n l q = (l, q) := by
 cases n with
 | zero => rfl
 | succ n => rw [rowsQ, if_neg h]
theorem numQ_in {lim : Int} {s0 : List Int} {q : St} (h : In s0 q) : In s0 (numQ lim s0 q).2 := varQ_in h
theorem numQ_range {lim : Int} {s0 : List Int} {q : St} (hl : 0 ≤ lim) (h : In s0 q) : 0 ≤ (numQ lim s0 q).1 ∧ (numQ lim s0 q).1 ≤ lim + 1 := by
 have hv := varQ_range h
 show 0 ≤ upN lim (varQ s0 q).1 ∧ upN lim (varQ s0 q).1 ≤ lim + 1
 unfold upN
 split
 ·omega
 ·omega
theorem valQ_in {s0 : List Int} {q : St} (h : In s0 q) : In s0 (valQ s0 q).2 := by
 unfold valQ
 split
 ·exact varQ_in (fixQ_in h)
 ·split
  ·exact blobQ_in _ (fixQ_in h)
  ·split
   ·exact fixQ_in h
   ·exact failQ_in _ (fixQ_in h)
theorem colQ_in {s0 : List Int} {q : St} (h : In s0 q) : In s0 (colQ s0 q).2 := by
 unfold colQ
 dsimp only
 split
 ·exact failQ_in _ (fixQ_in (fixQ_in (fixQ_in h)))
 ·exact fixQ_in (fixQ_in (fixQ_in h))
theorem colsQ_in {s0 : List Int} : ∀ (n : Nat) (l : List S123) (q : St), In s0 q → In s0 (colsQ s0 n l q).2
 | 0, _, _, h => h
 | n + 1, l, q, h => by
  rw [colsQ]
  split
  ·exact colsQ_in n _ _ (colQ_in h)
  ·exact h
theorem okL_in {α : Type} {s0 : List Int} {e : Int} {r : List α × St} (h : In s0 r.2) : In s0 (okL e r).2 := by
 unfold okL
 split
 ·exact failQ_in _ h
 ·exact failQ_in _ h
theorem schQ_in {s0 : List Int} {q : St} (h : In s0 q) : In s0 (schQ s0 q).2 := okL_in (colsQ_in _ _ _ (fixQ_in h))
theorem rowQ_in {s0 : List Int} : ∀ (n : Nat) (l : List S68) (q : St), In s0 q → In s0 (rowQ s0 n l q).2
 | 0, _, _, h => h
 | n + 1, l, q, h => by rw [rowQ]; exact rowQ_in n _ _ (valQ_in h)
theorem rowsQ_in {s0 : List Int} {s : List S123} : ∀ (n : Nat) (l : List (List S68)) (q : St), In s0 q → In s0 (rowsQ s0 s n l q).2
 | 0, _, _, h => h
 | n + 1, l, q, h => by
  rw [rowsQ]
  split
  ·exact rowsQ_in n _ _ (failQ_in _ (rowQ_in _ _ _ h))
  ·exact h
theorem rowsN_in {s0 : List Int} {q : St} (h : In s0 q) : In s0 (rowsN s0 q).2 := by
 unfold rowsN
 dsimp only
 split
 ·exact failQ_in _ (varQ_in h)
 ·exact varQ_in h
theorem takeRowsQ_in {s0 : List Int} {s : List S123} {q : St} (h : In s0 q) : In s0 (takeRowsQ s0 s q).2 := okL_in (rowsQ_in _ _ _ (rowsN_in h))
theorem hashQ_in {s0 : List Int} {q : St} (h : In s0 q) : In s0 (hashQ s0 q).2 := takeQ_in 32 (by decide) h
theorem hashQ_len {s0 : List Int} {q : St} (h : In s0 q) : (hashQ s0 q).1.length = 32 := by
 have hl := takeQ_len 32 (by decide) h
 unfold hashQ
 dsimp only
 split
 ·rename_i e
  rcases hl with ⟨h1, _⟩ | ⟨_, h2⟩
  ·exact h1
  ·exact absurd e h2
 ·rfl
theorem zoneQ_in {s0 : List Int} {q : St} (h : In s0 q) : In s0 (zoneQ s0 q).2 := by
 unfold zoneQ
 split
 ·exact valQ_in (valQ_in (fixQ_in (numQ_in h)))
 ·dsimp only
  split
  ·exact fixQ_in (numQ_in h)
  ·exact failQ_in _ (fixQ_in (numQ_in h))
theorem chQ_in {s0 : List Int} {q : St} (h : In s0 q) : In s0 (chQ s0 q).2 := hashQ_in (zoneQ_in h)
theorem chsQ_in {s0 : List Int} : ∀ (n : Nat) (l : List CH) (q : St), In s0 q → In s0 (chsQ s0 n l q).2
 | 0, _, _, h => h
 | n + 1, l, q, h => by
  rw [chsQ]
  split
  ·exact chsQ_in n _ _ (chQ_in h)
  ·exact h
theorem headR_in {s0 : List Int} {s : List S123} {q : St} (h : In s0 q) : In s0 (headR s0 s q).2 := chsQ_in _ _ _ (hashQ_in (numQ_in (numQ_in h)))
theorem headQ_in {s0 : List Int} {s : List S123} {q : St} (h : In s0 q) : In s0 (headQ s0 s q).2 := failQ_in _ (headR_in h)
theorem headR_dead {s0 : List Int} {s : List S123} {q : St} (h : In s0 q) : (headR s0 s q).1.dead.length = 32 := hashQ_len (numQ_in (numQ_in h))
theorem headQ_dead {s0 : List Int} {s : List S123} {q : St} (h : In s0 q) : (headQ s0 s q).1.dead.length = 32 := by
 unfold headQ
 dsimp only
 split
 ·exact headR_dead h
 ·rfl
theorem entR_in {s0 : List Int} {q : St} (h : In s0 q) : In s0 (entR s0 q).2 := by
 unfold entR
 dsimp only
 split
 ·exact failQ_in _ (hashQ_in (varQ_in (hashQ_in h)))
 ·exact hashQ_in (varQ_in (hashQ_in h))
theorem entQ_in {s0 : List Int} {q : St} (h : In s0 q) : In s0 (entQ s0 q).2 := entR_in h
theorem grpQ_in {s0 : List Int} {s : List S123} {q : St} (h : In s0 q) : In s0 (grpQ s0 s q).2 := blobQ_in _ (headQ_in (numQ_in h))
theorem grpsQ_in {s0 : List Int} {s : List S123} : ∀ (n : Nat) (l : List Rf) (q : St), In s0 q → In s0 (grpsQ s0 s n l q).2
 | 0, _, _, h => h
 | n + 1, l, q, h => by
  rw [grpsQ]
  split
  ·exact grpsQ_in n _ _ (grpQ_in h)
  ·exact h
theorem entsQ_in {s0 : List Int} : ∀ (n : Nat) (l : List En) (q : St), In s0 q → In s0 (entsQ s0 n l q).2
 | 0, _, _, h => h
 | n + 1, l, q, h => by
  rw [entsQ]
  split
  ·exact entsQ_in n _ _ (entQ_in h)
  ·exact h
end
section
section
variable {α : Type} {d : Kd α} {e base : Nat} {ok : Nat → Prop} {w0 w W w1 : World} {g : Nat} {s0 : List Int} {q : St} {v : Value} {xs : List α}
theorem R_past (h : d.R e W base ok v xs) (hb : g < base) (hk : KeepBut W w1 g none) : d.R e w1 base ok v xs :=
 Kd.R_mono (Kd.R_keep (Kd.R_bound h) hk (fun k hk => by have := hk.2.1; omega)) (fun _ h => h.1)
theorem Rs.grown (h : Rs w0 W g s0 q) (hv : d.R e W base ok v xs) (hb : g < base) (hle : base ≤ W.heap.size) (he : e ≠ 184) (hg : W.grownBy w1 v.ownBlock) : Rs w0 w1 g s0 q := by
 obtain ⟨⟨A, c, ev, k1, k2, k3, k4, k5⟩, hbel, herr, hin⟩ := h
 have hne : ∀ i, i < base → some i ≠ v.ownBlock := fun i hi e => by have := Kd.R_base hv i e.symm; omega
 refine ⟨⟨A, c, ev, (hg.block g (blk_lt k1) (hne g hb)).trans k1, k2, k3, k4, k5.move fun k _ cs hk => hg.block k (blk_lt hk) (Kd.R_ne hv hk he)⟩, hbel.grown hg hbel.size (fun k hk => ?_), herr, hin⟩
 have := Kd.R_base hv k hk
 omega
theorem KeepBut.grown (h : KeepBut w W g none) (hv : d.R e W base ok v xs) (hb : w.heap.size ≤ base) (hg : W.grownBy w1 v.ownBlock) : KeepBut w w1 g none :=
 ⟨Nat.le_trans h.1 hg.size, fun i hi h1 h2 => (hg.block i (Nat.lt_of_lt_of_le hi h.1) (fun e => by have := Kd.R_base hv i e.symm; omega)).trans (h.2 i hi h1 h2)⟩
theorem Rs.lt (h : Rs w0 W g s0 q) : g < W.heap.size := h.rd.lt
theorem Rs.ge (h : Rs w0 W g s0 q) : w0.heap.size ≤ g := by
 obtain ⟨⟨A, c, ev, k1, k2, k3, k4, k5⟩, _, _, _⟩ := h
 exact k2
theorem Rs.other (h : Rs w0 W g s0 q) {b t : Nat} {cs : Array Value} (hx : W.heap[b]? = some (.cells cs t (0, 0))) (ht : t ≠ 184) (hb : g < b) (hos : w1.os = W.os) (htp : w1.tape = W.tape) (hou : w1.output = W.output) (hsz : W.heap.size ≤ w1.heap.size)
  (hw : ∀ i, i < W.heap.size → i ≠ b → w1.heap[i]? = W.heap[i]?) : Rs w0 w1 g s0 q := by
 have hge := h.ge
 obtain ⟨⟨A, c, ev, k1, k2, k3, k4, k5⟩, hbel, herr, hin⟩ := h
 refine ⟨⟨A, c, ev, (hw g (blk_lt k1) (by omega)).trans k1, k2, k3, k4, k5.move fun k _ cs' hk => hw k (blk_lt hk) (fun e => ?_)⟩, ⟨hos.trans hbel.os, htp.trans hbel.tape, hou.trans hbel.output, Nat.le_trans hbel.size hsz, fun k hk => (hw k (Nat.lt_of_lt_of_le hk hbel.size) (by omega)).trans (hbel.block k hk)⟩, herr, hin⟩
 subst e
 rw [hx] at hk
 injection hk with hk
 injection hk with _ hk
 exact ht hk
theorem Rs.setRow (h : Rs w0 W g s0 q) {b t : Nat} {cs : Array Value} (hx : W.heap[b]? = some (.cells cs t (0, 0))) (ht : t ≠ 184) (hb : g < b) (c : Array Value) : Rs w0 (W.setRow b c) g s0 q :=
 h.other hx ht hb rfl rfl rfl (by rw [setRow_size]; exact Nat.le_refl _) (fun i _ hi => setRow_other W b i c hi)
theorem Rs.setCell (h : Rs w0 W g s0 q) {b t : Nat} {cs : Array Value} (hx : W.heap[b]? = some (.cells cs t (0, 0))) (ht : t ≠ 184) (hb : g < b) (o : Nat) (u : Value) : Rs w0 (W.setCell ⟨b, o, none⟩ u) g s0 q :=
 h.other hx ht hb rfl rfl rfl (by simp [World.setCell]) (fun i _ hi => Below.heap_setCell W _ _ i hi)
theorem KeepBut.row (h : KeepBut w W g none) {b : Nat} (hb : w.heap.size ≤ b) (c : Array Value) : KeepBut w (W.setRow b c) g none :=
 ⟨by rw [setRow_size]; exact h.1, fun i hi h1 h2 => (setRow_other W b i c (by omega)).trans (h.2 i hi h1 h2)⟩
theorem KeepBut.cell (h : KeepBut w W g none) {b : Nat} (hb : w.heap.size ≤ b) (o : Nat) (u : Value) : KeepBut w (W.setCell ⟨b, o, none⟩ u) g none :=
 ⟨by simpa [World.setCell] using h.1, fun i hi h1 h2 => (Below.heap_setCell W _ _ i (by show i ≠ b; omega)).trans (h.2 i hi h1 h2)⟩
theorem KeepBut.at_ {o : Obj} (hk : KeepBut W w1 g none) {b : Nat} (hb : W.heap[b]? = some o) (hne : b ≠ g) : w1.heap[b]? = some o := (hk.2 b (blk_lt hb) hne (by simp)).trans hb
end
end
end Go.Proofs.YtjmhiklmlgbifaaGreatDoor.PMan
