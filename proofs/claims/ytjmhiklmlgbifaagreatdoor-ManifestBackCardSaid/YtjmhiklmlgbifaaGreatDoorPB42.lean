/- Texts of this proof, put into one, without what it does not use: MyE, MxA, MxB, MxC. -/
import Derived.Test.YtjmhiklmlgbifaaGreatDoorPB13
import Derived.Test.YtjmhiklmlgbifaaGreatDoorPB40
import Derived.Test.YtjmhiklmlgbifaaGreatDoorPB26
section
namespace Go.Proofs.YtjmhiklmlgbifaaGreatDoor.PMan
open Go.RowKit Go.Proofs.YtjmhiklmlgbifaaGreatDoorW.PrintWords Go.Proofs.YtjmhiklmlgbifaaGreatDoorW.PrintLast Go.Proofs.YtjmhiklmlgbifaaGreatDoorW.PrintMore
set_option linter.unusedVariables false
set_option linter.unusedSimpArgs false
theorem load_none {P : Program} (a : Addr) (w : World) : (loadCells a 0).run P w = .ok #[] w := by
  simp [loadCells, loadCellsFrom]
theorem append_empty {P : Program} (t e ty : TypeId) (i : TypeInfo) (ht : P.underlying t = some (.slice e)) (hi : P.info? e = some i) (a : Addr) (A : Option Addr) (n c : Nat) (hn : 0 < n) (hb : i.bytes ≤ 1) (hl : n ≤ 100000000000000) (w : World) :
    (Builtin.append_ #[t, t] ty #[.slice (some a) 0 0, .slice A n c]).run P w = (Builtin.append_ #[t, t] ty #[.slice none 0 0, .slice A n c]).run P w := by
  have h1 : ¬ (n = 0) := by omega
  have h2 : Builtin.nextslicecap n 0 = n := by unfold Builtin.nextslicecap; rw [if_pos (by omega)]
  have h3 : ¬ (281474976710656 < n * i.bytes) := by
    have : n * i.bytes ≤ n * 1 := Nat.mul_le_mul_left _ hb
    omega
  have h4 : ¬ (9223372036854775807 < (n : Int)) := by omega
  simp [Builtin.append_, run_underlying ht, sizeOf, typeInfo, hi, Builtin.lenOf, Builtin.firstCells, h1, h2, h3, h4, load_none]
set_option maxRecDepth 100000 in
/-- append([]byte{}, ys...). -/
theorem app_empty {ops : Array Oper} {rest : List Oper} {o : Oper} {a : Act} {w0 W : World} {Q : Exit → Act → World → Prop} (hgd : o.guard = none) (s x : Operand)
    (ho : o.op = .call { callee := .builtin .append, args := #[s, x], argTypes := #[30, 30] }) (b : Addr) (ys : List Int) (A : Option Addr) (m c : Nat) (hs : a.eval s = .slice (some b) 0 0) (hx : a.eval x = .slice A m c)
    (hB : Below w0.heap.size w0 W) (hr : Kd.C (Kd.int .u8) W A m ys) (hm : 0 < m) (hl : m ≤ 100000000000000)
    (h : ∀ v1 w1, App w0 w1 v1 ys → wpList Tryz.prog ops Q rest (a.put o.dst v1) w1) : wpList Tryz.prog ops Q (o :: rest) a W := by
  refine wpList_plain hgd fun K hK => ?_
  obtain ⟨i, hi, hz⟩ := Option.map_eq_some_iff.1 (info5)
  have hbt : i.bytes ≤ 1 := by
    simp only [Prod.mk.injEq] at hz
    omega
  obtain ⟨o', ho'⟩ : ∃ o' : Oper, o' = { o with op := .call { callee := .builtin .append, args := #[.const (.slice none 0 0), x], argTypes := #[30, 30] } } := ⟨_, rfl⟩
  have H : Oper.wp Tryz.prog o' a W K Q := by
    have hst := Kd.R_append_rows_step (P := Tryz.prog) (ops := ops) (o := o') (a := a) (Kc := K) (Q := Q) (Kd.int .u8) (w0 := w0) (W := W) w0.heap.size (by rw [ho']; unfold Region.wanted; rw [hgd]) (.const (.slice none 0 0)) x 30 5 (.int .u8 0) 1 (by rw [ho']) Tryz.underlying30 info5 rfl (by decide) (by decide) (.slice none 0 0) ([] : List Int) ys A m c (fun _ => True) (fun _ => False) rfl hx (Kd.R_nil _ _ _ _ _) hr (fun _ _ h => h) (fun _ h => h.elim) (fun _ _ => trivial) hB hB.size (by rw [List.length_nil]; omega) (fun v1 w1 h1 hb hg hat => by
      have h2 := h v1 w1 ⟨hb, h1⟩
      have e : o'.dst = o.dst := by rw [ho']
      rw [e]
      exact hK _ _ h2)
    rw [if_pos (by rw [ho']; unfold Region.wanted; rw [hgd])] at hst
    exact hst
  subst ho'
  have hcn : a.eval (.const (.slice none 0 0)) = .slice none 0 0 := rfl
  unfold Oper.wp execOp at H ⊢
  simp only [ho, resolve, invoke, builtin, Sem.run_bind, Sem.run_pure, Result.andThen_ok, List.map_toArray, List.map_cons, List.map_nil, hs, hx, hcn] at H ⊢
  rw [append_empty 30 5 _ i Tryz.underlying30 hi b A m c hm hbt hl W]
  unfold Oper.upon at H ⊢
  exact H
end Go.Proofs.YtjmhiklmlgbifaaGreatDoor.PMan
end
section
namespace Go.Proofs.YtjmhiklmlgbifaaGreatDoor.PMan
open Go.RowKit Go.Proofs.YtjmhiklmlgbifaaGreatDoorW.PrintWords Go.Proofs.YtjmhiklmlgbifaaGreatDoorW.PrintLast Go.Proofs.YtjmhiklmlgbifaaGreatDoorW.PrintMore
set_option linter.unusedVariables false
set_option linter.unusedSimpArgs false
/-- No error yet, and r stands ahead. -/
structure At (s0 : List Int) (q : St) (r : List Int) : Prop where
  inn : In s0 q
  ok : q.2.1 = 0
  rest : s0.drop q.1.toNat = r
theorem At.len {s0 : List Int} {q : St} {r : List Int} (h : At s0 q r) : (s0.length : Int) - q.1 = r.length := by
  have h1 := congrArg List.length h.rest
  rw [List.length_drop] at h1
  have := h.inn.lo
  have := h.inn.hi
  omega
theorem At.go {s0 : List Int} {q : St} {x r : List Int} (h : At s0 q (x ++ r)) (e : Int) : At s0 (q.1 + (x.length : Int), 0, e) r := by
  have h1 := h.len
  have h2 := h.inn.lo
  rw [List.length_append] at h1
  refine ⟨h.inn.to (show 0 ≤ q.1 + (x.length : Int) by omega) (show q.1 + (x.length : Int) ≤ s0.length by omega), rfl, ?_⟩
  show s0.drop (q.1 + (x.length : Int)).toNat = r
  rw [show (q.1 + (x.length : Int)).toNat = q.1.toNat + x.length by omega, ← List.drop_drop, h.rest, List.drop_left]
theorem At.cut {s0 : List Int} {q : St} {x r : List Int} (h : At s0 q (x ++ r)) : (s0.take (q.1 + (x.length : Int)).toNat).drop q.1.toNat = x := by
  have h2 := h.inn.lo
  rw [List.drop_take, h.rest, show (q.1 + (x.length : Int)).toNat - q.1.toNat = x.length by omega, List.take_left]
theorem take_at {s0 : List Int} {q : St} {x r : List Int} (h : At s0 q (x ++ r)) : ∃ q', takeQ s0 (x.length : Int) q = (x, q') ∧ At s0 q' r := by
  have h1 := h.len
  rw [List.length_append] at h1
  refine ⟨_, ?_, h.go q.2.2⟩
  unfold takeQ
  rw [if_pos h.ok, if_neg (by omega), h.cut]
theorem fix_at {s0 : List Int} {q : St} {b : Int} {r : List Int} (h : At s0 q (b :: r)) : ∃ q', fixQ s0 q = (b, q') ∧ At s0 q' r := by
  obtain ⟨q', h1, h2⟩ := take_at (x := [b]) h
  refine ⟨q', ?_, h2⟩
  unfold fixQ
  rw [show (1 : Int) = (([b] : List Int).length : Int) from rfl, h1]
  rfl
theorem hash_at {s0 : List Int} {q : St} {x r : List Int} (h : At s0 q (x ++ r)) (hx : x.length = 32) : ∃ q', hashQ s0 q = (x, q') ∧ At s0 q' r := by
  obtain ⟨q', h1, h2⟩ := take_at h
  refine ⟨q', ?_, h2⟩
  rw [hx] at h1
  have h3 : takeQ s0 32 q = (x, q') := h1
  unfold hashQ
  rw [h3]
  dsimp only
  rw [if_pos h2.ok]
theorem pow128_pos (n : Nat) : (0 : Int) < 128 ^ n := by
  rw [p128]
  have := Nat.two_pow_pos (7 * n)
  omega
theorem short_var : ∀ (m n : Nat) (x v : Int) (r : List Int), m + n = 9 → 0 ≤ x → x * 128 ^ n < 18446744073709551616 → (0 < n → 0 < x) → shortL n v (varN m x ++ r) = (v + x * 128 ^ n, (n : Int) + (varN m x).length, 0)
  | 0, n, x, v, r, hmn, h0, h1, h2 => by
    obtain rfl : n = 9 := by omega
    have h3 : x ≤ 1 := by
      have : (128 : Int) ^ 9 = 9223372036854775808 := by decide
      rw [this] at h1
      omega
    have h4 := h2 (by decide)
    obtain rfl : x = 1 := by omega
    rw [varN]
    show shortL 9 v ((1 : Int) % 256 :: ([] ++ r)) = _
    rw [shortL, if_neg (by decide), if_pos (by decide)]
    rfl
  | m + 1, n, x, v, r, hmn, h0, h1, h2 => by
    have hp := pow128_pos n
    rw [varN]
    by_cases hx : x ≥ 128
    · rw [if_pos hx]
      have hb : Go.bits .or .u8 (x % 256) 128 = 128 + x % 128 := by rw [or128 _ (by omega) (by omega)]; omega
      rw [hb, List.cons_append, shortL, if_neg (by unfold badB; omega), if_neg (by omega)]
      have e1 : (128 + x % 128) % 128 = x % 128 := by omega
      have e2 : x = 128 * (x / 128) + x % 128 := by omega
      have e3 : x % 128 * 128 ^ n + x / 128 * 128 ^ (n + 1) = x * 128 ^ n := by
        rw [Int.pow_succ, ← Int.mul_assoc, Int.mul_right_comm (x / 128), ← Int.add_mul]
        congr 1
        omega
      have h5 : x / 128 * 128 ^ (n + 1) < 18446744073709551616 := by
        have : 0 ≤ x % 128 * 128 ^ n := Int.mul_nonneg (by omega) (by omega)
        omega
      rw [e1, short_var m (n + 1) (x / 128) _ r (by omega) (by omega) h5 (fun _ => by omega), Int.add_assoc, e3, List.length_cons]
      congr 2
      omega
    · rw [if_neg hx]
      have e1 : x % 256 = x := by omega
      rw [e1]
      show shortL n v (x :: ([] ++ r)) = _
      have hbad : ¬ badB n x := by
        unfold badB
        rintro (h | ⟨h, h'⟩ | ⟨h, h'⟩)
        · omega
        · omega
        · have := h2 h; omega
      rw [shortL, if_neg hbad, if_pos (by omega), show x % 128 = x by omega]
      rfl
theorem shortP_var (x : Int) (r : List Int) (h0 : 0 ≤ x) (h1 : x < 18446744073709551616) : shortP (varP x ++ r) = (x, ((varP x).length : Int), 0) := by
  have := short_var 9 0 x 0 r rfl h0 (by simpa using h1) (fun h => absurd h (by decide))
  unfold shortP varP
  rw [this]
  simp
theorem var_at {s0 : List Int} {q : St} {x : Int} {r : List Int} (h : At s0 q (varP x ++ r)) (h0 : 0 ≤ x) (h1 : x < 18446744073709551616) : ∃ q', varQ s0 q = (x, q') ∧ At s0 q' r := by
  refine ⟨_, ?_, h.go q.2.2⟩
  unfold varQ varS
  rw [if_pos h.ok, h.rest, shortP_var x r h0 h1]
  rfl
theorem num_at {s0 : List Int} {q : St} {x lim : Int} {r : List Int} (h : At s0 q (varP x ++ r)) (h0 : 0 ≤ x) (h1 : x ≤ lim) (h2 : lim ≤ 1099511627776) : ∃ q', numQ lim s0 q = (x, q') ∧ At s0 q' r := by
  obtain ⟨q', h3, h4⟩ := var_at h h0 (by omega)
  refine ⟨q', ?_, h4⟩
  unfold numQ upN
  rw [h3]
  dsimp only
  rw [if_neg (by omega)]
end Go.Proofs.YtjmhiklmlgbifaaGreatDoor.PMan
end
section
namespace Go.Proofs.YtjmhiklmlgbifaaGreatDoor.PMan
open Go.RowKit Go.Proofs.YtjmhiklmlgbifaaGreatDoorW.PrintWords Go.Proofs.YtjmhiklmlgbifaaGreatDoorW.PrintLast Go.Proofs.YtjmhiklmlgbifaaGreatDoorW.PrintMore
set_option linter.unusedVariables false
set_option linter.unusedSimpArgs false
theorem blob_at {s0 : List Int} {q : St} {x r : List Int} {most : Int} (h : At s0 q (blobP x ++ r)) (hm : (x.length : Int) ≤ most) : ∃ q', blobQ s0 most q = (x, q') ∧ At s0 q' r := by
  unfold blobP at h
  rw [List.append_assoc] at h
  have hl := h.len
  have hi := h.inn.lo
  have hh := h.inn.len
  rw [List.length_append, List.length_append] at hl
  have hs := shortP_var (x.length : Int) (x ++ r) (by omega) (by omega)
  have h2 := h.go q.2.2
  have h3 := h2.go q.2.2
  refine ⟨_, ?_, h3⟩
  unfold blobQ blobS
  rw [if_pos h.ok, h.rest, hs]
  dsimp only
  have hb : blobE s0.length most q.1 (x.length : Int) ((varP (x.length : Int)).length : Int) 0 = 0 := by
    unfold blobE
    rw [if_pos rfl, if_neg (by omega), if_neg (by omega)]
  rw [if_pos hb]
  have hc := h2.cut
  dsimp only at hc
  rw [hc]
theorem str_txt (s : ByteArray) : strOfNums (txtP s) = s := by
  obtain ⟨⟨l⟩⟩ := s
  unfold strOfNums txtP
  dsimp only
  rw [List.map_map]
  congr 2
  refine (List.map_congr_left (fun b _ => ?_)).trans (List.map_id l)
  show UInt8.ofNat ((b.toNat : Int)).toNat = b
  rw [Int.toNat_natCast]
  exact UInt8.ofNat_toNat
theorem txt_len (s : ByteArray) : (txtP s).length = s.size := by
  unfold txtP
  rw [List.length_map]
  rfl
theorem zag_zig (n : Int) : zagP (zigP n) = n := by
  unfold zagP zigP
  split <;> split <;> omega
/-- A value as it stands in a row. -/
def ValC (v : S68) : Prop := v = z68 ∨ (∃ n, v = ⟨1, n, z68.f2⟩ ∧ -9223372036854775808 ≤ n ∧ n ≤ 9223372036854775807) ∨ ∃ t, v = ⟨2, 0, t⟩ ∧ (t.size : Int) ≤ 65536
theorem empty_of {t : ByteArray} (h : (t.toList == ([] : List UInt8)) = true) : t = z68.f2 := by
  have h1 : t.toList = [] := by simpa using h
  rw [ByteArray.toList_eq] at h1
  obtain ⟨⟨l⟩⟩ := t
  have h2 : l = [] := h1
  subst h2
  rfl
theorem valC_of {c : S123} {v : S68} (h : standsP c v = true) (hs : (v.f2.size : Int) ≤ 65536) (hr : -9223372036854775808 ≤ v.f1 ∧ v.f1 ≤ 9223372036854775807) : ValC v := by
  obtain ⟨a, n, t⟩ := v
  dsimp only at hs hr
  unfold standsP zeroV at h
  by_cases e1 : (a == 0 && (n == 0 && (t.toList == ([] : List UInt8)))) = true
  · simp only [Bool.and_eq_true, beq_iff_eq] at e1
    obtain ⟨rfl, rfl, e⟩ := e1
    exact .inl (by rw [empty_of (t := t) (by simpa using e)]; rfl)
  · dsimp only at h
    rw [if_neg e1] at h
    by_cases e2 : (a == 1 && (t.toList == ([] : List UInt8))) = true
    · simp only [Bool.and_eq_true, beq_iff_eq] at e2
      obtain ⟨rfl, e⟩ := e2
      exact .inr (.inl ⟨n, by rw [empty_of (t := t) (by simpa using e)], hr⟩)
    · rw [if_neg e2] at h
      by_cases e3 : (a == 2 && (n == 0)) = true
      · simp only [Bool.and_eq_true, beq_iff_eq] at e3
        obtain ⟨rfl, rfl⟩ := e3
        exact .inr (.inr ⟨t, rfl, hs⟩)
      · rw [if_neg e3] at h
        cases h
theorem val_at {s0 : List Int} {q : St} {v : S68} {r : List Int} (h : At s0 q (valP v ++ r)) (hv : ValC v) : ∃ q', valQ s0 q = (v, q') ∧ At s0 q' r := by
  unfold valP at h
  rw [List.cons_append] at h
  obtain ⟨q1, e1, h1⟩ := fix_at h
  unfold valQ
  rw [e1]
  dsimp only
  rcases hv with rfl | ⟨n, rfl, n0, n1⟩ | ⟨t, rfl, ht⟩
  · have h2 : At s0 q1 r := h1
    exact ⟨q1, rfl, h2⟩
  · have h2 : At s0 q1 (varP (zigP n) ++ r) := h1
    obtain ⟨q2, e2, h3⟩ := var_at h2 (by unfold zigP; split <;> omega) (by unfold zigP; split <;> omega)
    refine ⟨q2, ?_, h3⟩
    rw [if_pos (show (1 : Int) % 256 = 1 from rfl), e2]
    dsimp only
    rw [if_pos h3.ok, zag_zig]
  · have h2 : At s0 q1 (blobP (txtP t) ++ r) := h1
    obtain ⟨q2, e2, h3⟩ := blob_at (most := 65536) h2 (by rw [txt_len]; exact ht)
    refine ⟨q2, ?_, h3⟩
    rw [if_neg (show ¬ (2 : Int) % 256 = 1 by decide), if_pos (show (2 : Int) % 256 = 2 from rfl), e2]
    dsimp only
    rw [if_pos h3.ok, str_txt]
end Go.Proofs.YtjmhiklmlgbifaaGreatDoor.PMan
end
section
namespace Go.Proofs.YtjmhiklmlgbifaaGreatDoor.PMan
open Go.RowKit Go.Proofs.YtjmhiklmlgbifaaGreatDoorW.PrintWords Go.Proofs.YtjmhiklmlgbifaaGreatDoorW.PrintLast Go.Proofs.YtjmhiklmlgbifaaGreatDoorW.PrintMore
set_option linter.unusedVariables false
set_option linter.unusedSimpArgs false
theorem failQ_z (q : St) : failQ 0 q = q := by
  unfold failQ
  split
  · rw [if_pos rfl]
  · rfl
theorem okL_ok {α : Type} {l : List α} {q : St} (h : q.2.1 = 0) : okL 0 (l, q) = (l, q) := by
  unfold okL
  dsimp only
  rw [failQ_z, if_pos h]
theorem row_at {s0 : List Int} : ∀ (rw_ : List S68) (l : List S68) (q : St) (r : List Int), At s0 q (rowF rw_ ++ r) → (∀ v ∈ rw_, ValC v) → ∃ q', rowQ s0 rw_.length l q = (l ++ rw_, q') ∧ At s0 q' r
  | [], l, q, r, h, _ => ⟨q, by rw [List.length_nil, rowQ, List.append_nil], h⟩
  | v :: t, l, q, r, h, hv => by
    rw [rowF, List.append_assoc] at h
    obtain ⟨q1, e1, h1⟩ := val_at h (hv v (List.mem_cons_self ..))
    obtain ⟨q2, e2, h2⟩ := row_at t (l ++ [v]) q1 r h1 (fun x hx => hv x (List.mem_cons_of_mem _ hx))
    refine ⟨q2, ?_, h2⟩
    rw [List.length_cons, rowQ, e1]
    dsimp only
    rw [e2, List.append_assoc]
    rfl
theorem rowL_vals : ∀ (s : List S123) (r : List S68), r.length = s.length → rowL s r = 0 → ∀ v ∈ r, ∃ c, standsP c v = true ∧ (v.f2.size : Int) ≤ 65536
  | [], [], _, _, v, hv => by cases hv
  | [], _ :: _, hl, _, _, _ => by simp at hl
  | _ :: _, [], _, _, v, hv => by cases hv
  | c :: s, x :: r, hl, h, v, hv => by
    rw [rowL] at h
    by_cases e1 : standsP c x = true
    · rw [if_pos e1] at h
      by_cases e2 : (x.f2.size : Int) > 65536
      · rw [if_pos e2] at h
        exact absurd h (by decide)
      · rw [if_neg e2] at h
        rcases List.mem_cons.1 hv with rfl | hv
        · exact ⟨c, e1, by omega⟩
        · exact rowL_vals s r (by simpa using hl) h v hv
    · rw [if_neg e1] at h
      exact absurd h (by decide)
theorem rowP_vals {s : List S123} {r : List S68} (h : rowP s r = 0) (hr : ∀ v ∈ r, -9223372036854775808 ≤ v.f1 ∧ v.f1 ≤ 9223372036854775807) : r.length = s.length ∧ ∀ v ∈ r, ValC v := by
  unfold rowP at h
  by_cases e : (r.length : Int) = (s.length : Int)
  · rw [if_pos e] at h
    have e2 : r.length = s.length := by omega
    refine ⟨e2, fun v hv => ?_⟩
    obtain ⟨c, h1, h2⟩ := rowL_vals s r e2 h v hv
    exact valC_of h1 h2 (hr v hv)
  · rw [if_neg e] at h
    exact absurd h (by decide)
theorem rows_at {s0 : List Int} (s : List S123) : ∀ (rows : List (List S68)) (l : List (List S68)) (q : St) (r : List Int), At s0 q (rowsF rows ++ r) → (∀ x ∈ rows, rowP s x = 0 ∧ ∀ v ∈ x, -9223372036854775808 ≤ v.f1 ∧ v.f1 ≤ 9223372036854775807) → ∃ q', rowsQ s0 s rows.length l q = (l ++ rows, q') ∧ At s0 q' r
  | [], l, q, r, h, _ => ⟨q, by rw [List.length_nil, rowsQ, List.append_nil], h⟩
  | x :: t, l, q, r, h, hv => by
    rw [rowsF, List.append_assoc] at h
    obtain ⟨hx, hxr⟩ := hv x (List.mem_cons_self ..)
    obtain ⟨hl, hc⟩ := rowP_vals hx hxr
    obtain ⟨q1, e1, h1⟩ := row_at x [] q _ h hc
    rw [hl, List.nil_append] at e1
    obtain ⟨q2, e2, h2⟩ := rows_at s t (l ++ [x]) q1 r h1 (fun y hy => hv y (List.mem_cons_of_mem _ hy))
    refine ⟨q2, ?_, h2⟩
    rw [List.length_cons, rowsQ, if_pos h.ok, e1]
    dsimp only
    rw [hx, failQ_z, e2, List.append_assoc]
    rfl
theorem takeRows_at {s0 : List Int} {s : List S123} {rows : List (List S68)} {q : St} {r : List Int} (h : At s0 q (rowsP rows ++ r)) (hn : (rows.length : Int) ≤ 65536) (hv : ∀ x ∈ rows, rowP s x = 0 ∧ ∀ v ∈ x, -9223372036854775808 ≤ v.f1 ∧ v.f1 ≤ 9223372036854775807) :
    ∃ q', takeRowsQ s0 s q = (rows, q') ∧ At s0 q' r := by
  unfold rowsP at h
  rw [List.append_assoc] at h
  obtain ⟨q1, e1, h1⟩ := var_at h (by omega) (by omega)
  obtain ⟨q2, e2, h2⟩ := rows_at s rows [] q1 r h1 hv
  refine ⟨q2, ?_, h2⟩
  unfold takeRowsQ rowsN
  rw [e1]
  dsimp only
  rw [if_neg (by omega), Int.toNat_natCast, e2, List.nil_append]
  exact okL_ok h2.ok
theorem col_at {s0 : List Int} {q : St} {c : S123} {r : List Int} (h : At s0 q (colB c ++ r)) (h0 : 0 ≤ c.f0 ∧ c.f0 < 256) (h2 : -1 ≤ c.f2 ∧ c.f2 < 255) : ∃ q', colQ s0 q = (c, q') ∧ At s0 q' r := by
  have hw : wrap64 (c.f2 + 1) % 256 = c.f2 + 1 := by unfold wrap64; omega
  unfold colB at h
  rw [hw, show c.f0 % 256 = c.f0 by omega] at h
  obtain ⟨q1, e1, h1⟩ := fix_at h
  obtain ⟨q2, e2, h3⟩ := fix_at h1
  obtain ⟨q3, e3, h4⟩ := fix_at h3
  refine ⟨q3, ?_, h4⟩
  unfold colQ
  rw [e1]
  dsimp only
  rw [e2]
  dsimp only
  rw [e3]
  dsimp only
  obtain ⟨k, u, y⟩ := c
  dsimp only
  cases u with
  | true =>
    rw [if_pos rfl, if_neg (by decide), show y + 1 - 1 = y by omega]
    rfl
  | false =>
    rw [if_neg (by decide), if_neg (by decide), show y + 1 - 1 = y by omega]
    rfl
theorem cols_at {s0 : List Int} : ∀ (s : List S123) (l : List S123) (q : St) (r : List Int), At s0 q (schemaL s ++ r) → (∀ c ∈ s, (0 ≤ c.f0 ∧ c.f0 < 256) ∧ (-1 ≤ c.f2 ∧ c.f2 < 255)) → ∃ q', colsQ s0 s.length l q = (l ++ s, q') ∧ At s0 q' r
  | [], l, q, r, h, _ => ⟨q, by rw [List.length_nil, colsQ, List.append_nil], h⟩
  | c :: t, l, q, r, h, hv => by
    rw [schemaL, List.append_assoc] at h
    obtain ⟨hc, hc2⟩ := hv c (List.mem_cons_self ..)
    obtain ⟨q1, e1, h1⟩ := col_at h hc hc2
    obtain ⟨q2, e2, h2⟩ := cols_at t (l ++ [c]) q1 r h1 (fun x hx => hv x (List.mem_cons_of_mem _ hx))
    refine ⟨q2, ?_, h2⟩
    rw [List.length_cons, colsQ, if_pos h.ok, e1]
    dsimp only
    rw [e2, List.append_assoc]
    rfl
theorem kinds_of : ∀ (s : List S123), kindsL s = 0 → ∀ c ∈ s, c.f0 = 1 ∨ c.f0 = 2
  | [], _, c, hc => by cases hc
  | x :: s, h, c, hc => by
    rw [kindsL] at h
    by_cases e1 : x.f0 = 1
    · rw [if_pos e1] at h
      rcases List.mem_cons.1 hc with rfl | hc
      · exact .inl e1
      · exact kinds_of s h c hc
    · rw [if_neg e1] at h
      by_cases e2 : x.f0 = 2
      · rw [if_pos e2] at h
        rcases List.mem_cons.1 hc with rfl | hc
        · exact .inr e2
        · exact kinds_of s h c hc
      · rw [if_neg e2] at h
        exact absurd h (by decide)
theorem ways_of : ∀ (s : List S123), waysL s = 0 → ∀ c ∈ s, -1 ≤ c.f2 ∧ c.f2 < 255
  | [], _, c, hc => by cases hc
  | x :: s, h, c, hc => by
    rw [waysL] at h
    by_cases e1 : wayP x = true
    · rw [if_pos e1] at h
      rcases List.mem_cons.1 hc with rfl | hc
      · unfold wayP at e1
        by_cases k2 : c.f0 = 2
        · rw [if_pos k2] at e1
          by_cases k3 : c.f2 = -1
          · omega
          · rw [if_neg k3] at e1
            have : c.f2 = 5 := by simpa using e1
            omega
        · rw [if_neg k2] at e1
          by_cases k3 : c.f2 ≥ -1
          · rw [if_pos k3] at e1
            have : c.f2 ≤ 4 := by simpa using e1
            omega
          · rw [if_neg k3] at e1
            cases e1
      · exact ways_of s h c hc
    · rw [if_neg e1] at h
      exact absurd h (by decide)
theorem schema_at {s0 : List Int} {s : List S123} {q : St} {r : List Int} (h : At s0 q (schemaF s ++ r)) (hs : schemaP s = 0) : ∃ q', schQ s0 q = (s, q') ∧ At s0 q' r := by
  have hs0 := hs
  unfold schemaP at hs
  by_cases k1 : (s.length : Int) < 1
  · rw [if_pos k1] at hs
    exact absurd hs (by decide)
  rw [if_neg k1] at hs
  by_cases k2 : (s.length : Int) > 64
  · rw [if_pos k2] at hs
    exact absurd hs (by decide)
  rw [if_neg k2] at hs
  by_cases k3 : kindsL s = 0
  · rw [if_pos k3] at hs
    unfold schemaF at h
    rw [List.cons_append, show (s.length : Int) % 256 = s.length by omega] at h
    obtain ⟨q1, e1, h1⟩ := fix_at h
    obtain ⟨q2, e2, h2⟩ := cols_at s [] q1 r h1 (fun c hc => ⟨by rcases kinds_of s k3 c hc with e | e <;> omega, ways_of s hs c hc⟩)
    refine ⟨q2, ?_, h2⟩
    unfold schQ
    rw [e1]
    dsimp only
    rw [Int.toNat_natCast, e2, List.nil_append]
    dsimp only
    rw [hs0]
    exact okL_ok h2.ok
  · rw [if_neg k3] at hs
    exact absurd hs k3
end Go.Proofs.YtjmhiklmlgbifaaGreatDoor.PMan
end
