/- Texts of this proof, put into one, without what it does not use: MpJ, MpK. -/
import Derived.Test.YtjmhiklmlgbifaaGreatDoorPB11
import Derived.Lib.ConvBytes
import Derived.Lib.Zigzag
section
namespace Go.Proofs.YtjmhiklmlgbifaaGreatDoor.PMan
open Go.RowKit Go.Proofs.YtjmhiklmlgbifaaGreatDoorW.PrintWords Go.Proofs.YtjmhiklmlgbifaaGreatDoorW.PrintLast Go.Proofs.YtjmhiklmlgbifaaGreatDoorW.PrintMore
set_option linter.unusedVariables false
set_option linter.unusedSimpArgs false
/-- A row of bytes that the call owns (since the world w0). -/
structure App (w0 w : World) (u : Value) (l : List Int) : Prop where
  bel : Below w0.heap.size w0 w
  own : Kd.R (Kd.int .u8) 5 w w0.heap.size (fun _ => True) u l
theorem App.nil (w : World) : App w w (.slice none 0 0) [] := ⟨Below.refl _ _, Kd.R_nil _ _ _ _ _⟩
theorem App.tight {w0 w : World} {u : Value} {l : List Int} (h : App w0 w u l) : Kd.R (Kd.int .u8) 5 w w0.heap.size (fun k => u.ownBlock = some k) u l := by
  obtain ⟨_, inner, ho, hr⟩ := h.own
  exact ⟨fun k hk => hk, inner, ho, hr⟩
theorem App.below {w0 w w1 : World} {u : Value} {l : List Int} (h : App w0 w u l) (hb : Below w.heap.size w w1) : App w0 w1 u l := ⟨h.bel.trans (hb.mono h.bel.size), Kd.R_below h.own hb⟩
theorem App.slice {w0 w : World} {u : Value} {l : List Int} (h : App w0 w u l) : ∃ A c, u = .slice A l.length c := Kd.R_slice h.own
/-- What stays while a row of bytes grows: every block but its own. -/
abbrev Stay (w w' : World) (u : Value) : Prop := Kept w w' (fun k => u.ownBlock = some k)
theorem Stay.block {w0 w w' : World} {u : Value} {l : List Int} (h : App w0 w u l) (hs : Stay w w' u) {g : Nat} {c : Array Value} {t : TypeId} (hg : w.heap[g]? = some (.cells c t (0, 0))) (ht : t ≠ 5) : w'.heap[g]? = some (.cells c t (0, 0)) := by
  rw [hs.2 g (blk_lt hg) ?_, hg]
  intro hk
  obtain ⟨_, inner, ho, _⟩ := h.own
  obtain ⟨cells, hc⟩ := own_typed ho g hk
  rw [hg] at hc
  injection hc with hc
  injection hc with h1 h2 h3
  exact ht h2
theorem Stay.old {w w' w1 : World} {u : Value} (hs : Stay w w' u) (hb : Below w'.heap.size w' w1) : Stay w w1 u := Kept.below hs hb
/-- .. and where the grown row lies. -/
structure Grew (w w' : World) (u v : Value) : Prop where
  kept : Stay w w' u
  own : ∀ k, v.ownBlock = some k → u.ownBlock = some k ∨ w.heap.size ≤ k
theorem Grew.refl (w : World) (u : Value) : Grew w w u u := ⟨Kept.refl _ _, fun _ h => .inl h⟩
theorem Grew.trans {w w1 w2 : World} {u v1 v2 : Value} (h1 : Grew w w1 u v1) (h2 : Grew w1 w2 v1 v2) : Grew w w2 u v2 :=
  ⟨Kept.then_ h1.kept h2.kept (fun k hk => h1.own k hk), fun k hk => (h2.own k hk).elim (fun h => h1.own k h) (fun h => .inr (Nat.le_trans h1.kept.1 h))⟩
theorem Grew.below {w w1 w2 : World} {u v1 : Value} (h1 : Grew w w1 u v1) (hb : Below w1.heap.size w1 w2) : Grew w w2 u v1 := ⟨Kept.below h1.kept hb, h1.own⟩
theorem app_var (w0 w : World) (u : Value) (l : List Int) (x : Int) (ha : App w0 w u l) (h0 : 0 ≤ x) (h1 : x < 18446744073709551616) (hl : l.length < 100000000000000) :
    Calls Tryz.prog 29 #[u, .int .u64 x] w fun e w' => ∃ v, e = .returned v ∧ App w0 w' v (l ++ varP x) ∧ Grew w w' u v := by
  refine (num_PutVar.calls 10 (fun k => u.ownBlock = some k) u l x _ w0 w ha.bel ha.tight (putVar_p l x h0 h1 hl)).mono ?_
  rintro e w' ⟨v, rfl, ho, hb, hk⟩
  exact ⟨v, rfl, ⟨hb, Kd.R_mono ho (fun _ _ => trivial)⟩, hk, fun k hkk => ho.1 k hkk⟩
theorem app_rows {ops : Array Oper} {rest : List Oper} {o : Oper} {a : Act} {w0 W : World} {Q : Exit → Act → World → Prop} (hgd : o.guard = none) (s x : Operand)
    (ho : o.op = .call { callee := .builtin .append, args := #[s, x], argTypes := #[30, 30] }) (u : Value) (l ys : List Int) (A : Option Addr) (m c : Nat) (hs : a.eval s = u) (hx : a.eval x = .slice A m c)
    (ha : App w0 W u l) (hr : Kd.C (Kd.int .u8) W A m ys) (hl : l.length + m ≤ 100000000000000)
    (h : ∀ v1 w1, App w0 w1 v1 (l ++ ys) → Grew W w1 u v1 → wpList Tryz.prog ops Q rest (a.put o.dst v1) w1) : wpList Tryz.prog ops Q (o :: rest) a W := by
  refine Kd.R_append_rows (Kd.int .u8) (w0 := w0) w0.heap.size hgd s x 30 5 (.int .u8 0) 1 ho Tryz.underlying30 info5 rfl (by decide) (by omega) u l ys A m c (fun _ => True) (fun _ => False) hs hx ha.own hr (fun _ _ h => h) (fun _ h => h.elim) (fun _ _ => trivial) ha.bel ha.bel.size (by omega) ?_
  intro v1 w1 h1 hb hg hat
  exact h v1 w1 ⟨hb, h1⟩ ⟨Kept.of_grown hg (Kept.refl W _) (fun k hk => .inl hk), fun k hk => by
    rcases hat with h | ⟨b, hb1, hb2⟩
    · exact .inl (h ▸ hk)
    · rw [hb1] at hk
      exact .inr (Option.some.inj hk ▸ hb2)⟩
/-- Two bytes rows' facts: one byte that was made. -/
theorem one_C {w : World} {b : Nat} {x : Int} {t : TypeId} (h : w.heap[b]? = some (.cells #[.int .u8 x] t (0, 0))) : Kd.C (Kd.int .u8) w (some ⟨b, 0, none⟩) 1 [x] := by
  refine ⟨rfl, by decide, fun _ => ⟨⟨b, 0, none⟩, rfl, fun j p hj => ?_⟩⟩
  match j, hj with
  | 0, hj =>
    obtain rfl : x = p := by simpa using hj
    refine ⟨[.int .u8 x], rfl, rfl, fun i u hu => ?_⟩
    match i, hu with
    | 0, hu =>
      obtain rfl : Value.int .u8 x = u := by simpa using hu
      exact blk_cell h 0
    | i + 1, hu => simp at hu
  | j + 1, hj => simp at hj
theorem Stay.C {w w' : World} {u : Value} (hs : Stay w w' u) {b n : Nat} {o : Nat} {ys : List Int} (hn : u.ownBlock ≠ some b) (hb : b < w.heap.size) (h : Kd.C (Kd.int .u8) w (some ⟨b, o, none⟩) n ys) : Kd.C (Kd.int .u8) w' (some ⟨b, o, none⟩) n ys := by
  refine ⟨h.1, h.2.1, fun hn0 => ?_⟩
  obtain ⟨ad, e, hc⟩ := h.2.2 hn0
  refine ⟨ad, e, fun j p hj => ?_⟩
  obtain ⟨c, h1, h2, h3⟩ := hc j p hj
  refine ⟨c, h1, h2, fun i u hu => ?_⟩
  obtain rfl := Option.some.inj e
  rw [← h3 i u hu, Addr.add_mid]
  unfold World.cell?
  rw [hs.2 b hb hn]
def blobP (p : List Int) : List Int := varP p.length ++ p
set_option maxHeartbeats 1600000 in
set_option maxRecDepth 100000 in
theorem app_blob (w0 w : World) (u : Value) (l : List Int) (A : Option Addr) (m c : Nat) (p : List Int) (hm : m = p.length) (ha : App w0 w u l) (hp : ∀ W, Stay w W u → Kd.C (Kd.int .u8) W A p.length p) (hl : l.length < 1000000000000) (hpl : p.length < 1000000000000) :
    Calls Tryz.prog 32 #[u, .slice A m c] w fun e w' => ∃ v, e = .returned v ∧ App w0 w' v (l ++ blobP p) ∧ Grew w w' u v := by
  subst hm
  have HA := Aside0.mk ha
  have HP := Aside0.mk hp
  have hu : IntKind.u64.wrap (p.length : Int) = (p.length : Int) := u64_small _ (by omega) (by omega)
  have hvl := varP_len (p.length : Int)
  clear ha hp
  go_enter Tryz.func32, Tryz.ntmps32
  go_wp2_with fail
  refine (app_var w0 w u l p.length HA.out (by omega) (by omega) (by omega)).mono ?_
  rintro e w1 ⟨v1, rfl, ha1, hk1⟩
  have HA1 := Aside0.mk ha1
  have HK1 := Aside0.mk hk1
  have HP1 := Aside0.mk (HP.out w1 hk1.kept)
  clear ha1 hk1
  obtain ⟨y, hy⟩ : ∃ y, y = l ++ varP p.length := ⟨_, rfl⟩
  have hyl : y.length ≤ l.length + 10 := by rw [hy, List.length_append]; omega
  have HY := Aside0.mk hy
  rw [← hy] at HA1
  clear hy
  go_wp2_with ((with_reducible refine gate_builtin (b := .append) (xs := #[.tmp 9, .tmp 10]) rfl ?_); at_builtin; refine app_rows rfl (.tmp 9) (.tmp 10) rfl v1 y p A p.length c rfl rfl HA1.out HP1.out (by omega) ?_; intro v2 w2 ha2 hk2; have HA2 := Aside0.mk ha2; have HK2 := Aside0.mk hk2; clear ha2 hk2)
  go_ret
  refine ⟨_, rfl, ?_, ?_⟩
  · unfold blobP
    rw [← List.append_assoc, ← HY.out]
    exact HA2.out
  · exact HK1.out.trans HK2.out
/-- A whole number that bears its sign, turned. -/
def zigP (n : Int) : Int := if n ≥ 0 then 2 * n else -2 * n - 1
set_option maxHeartbeats 1600000 in
set_option maxRecDepth 100000 in
theorem zig_calls (n : Int) (h0 : -9223372036854775808 ≤ n) (h1 : n ≤ 9223372036854775807) (w : World) : Calls Tryz.prog 109 #[.int .i64 n] w fun e w' => e = .returned (.int .u64 (zigP n)) ∧ w' = w := by
  go_enter Tryz.func109, Tryz.ntmps109
  go_wp2
  go_ret
  refine ⟨?_, rfl⟩
  have e : bits .xor .u64 (IntKind.u64.wrap (IntKind.u64.wrap n * 2)) (IntKind.u64.wrap (n / 9223372036854775808)) = zigP n := by
    unfold zigP
    by_cases h : n ≥ 0
    · have e1 : IntKind.u64.wrap (IntKind.u64.wrap n * 2) = (((2 * n).toNat : Nat) : Int) := by
        rw [IntKind.wrap_u64, IntKind.wrap_u64]
        omega
      have e2 : IntKind.u64.wrap (n / 9223372036854775808) = ((0 : Nat) : Int) := by
        rw [show n / 9223372036854775808 = 0 from by omega]
        rfl
      rw [e1, e2, bits_xor_u64_nat _ _ (by omega) (by decide), if_pos h, Nat.xor_zero]
      omega
    · have e1 : IntKind.u64.wrap (IntKind.u64.wrap n * 2) = (((2 * n + 18446744073709551616).toNat : Nat) : Int) := by
        rw [IntKind.wrap_u64, IntKind.wrap_u64]
        omega
      have e2 : IntKind.u64.wrap (n / 9223372036854775808) = ((2 ^ 64 - 1 : Nat) : Int) := by
        rw [show n / 9223372036854775808 = -1 from by omega]
        decide
      rw [e1, e2, bits_xor_u64_nat _ _ (by omega) (by decide), Nat.xor_comm, Lib.xor_ones64 _ (by omega), if_neg h]
      omega
  rw [← e]
  rfl
theorem zigP_range (n : Int) (h0 : -9223372036854775808 ≤ n) (h1 : n ≤ 9223372036854775807) : 0 ≤ zigP n ∧ zigP n < 18446744073709551616 := by
  unfold zigP
  split <;> omega
theorem below_bytes (w : World) (s : ByteArray) : Below w.heap.size w (Lib.bytesWorld w 5 s) := by
  refine ⟨rfl, rfl, rfl, by rw [Lib.bytesWorld_size]; omega, fun j hj => Lib.bytesWorld_at_old w 5 s j hj⟩
/-- A value's form. -/
def txtP (s : ByteArray) : List Int := s.data.toList.map (fun b => (b.toNat : Int))
theorem txtP_length (s : ByteArray) : (txtP s).length = s.size := by
  unfold txtP
  rw [List.length_map]
  exact Array.length_toList
theorem txt_C (w : World) (s : ByteArray) (hs : s.size < 1000000000) : Kd.C (Kd.int .u8) (Lib.bytesWorld w 5 s) (some ⟨w.heap.size, 0, none⟩) (txtP s).length (txtP s) := by
  have hl := txtP_length s
  refine ⟨rfl, by omega, fun _ => ⟨_, rfl, fun j p hj => ⟨[.int .u8 p], rfl, rfl, fun i u hu => ?_⟩⟩⟩
  match i, hu with
  | i + 1, hu => simp at hu
  | 0, hu =>
    obtain rfl : Value.int .u8 p = u := by simpa using hu
    have hj0 := (List.getElem?_eq_some_iff.1 hj).1
    have hj1 : j < s.size := by omega
    rw [Addr.add_mid, show 0 + (j * (Kd.int IntKind.u8).sz + 0) = j from by show 0 + (j * 1 + 0) = j; omega, Lib.bytesWorld_cell w 5 s j hj1]
    unfold txtP at hj
    rw [List.getElem?_map, Option.map_eq_some_iff] at hj
    obtain ⟨b, hb, rfl⟩ := hj
    rw [List.getD_eq_getElem?_getD, hb]
    rfl
def valP (v : S68) : List Int := (v.f0 % 256) :: (if v.f0 = 1 then varP (zigP v.f1) else if v.f0 = 2 then blobP (txtP v.f2) else [])
set_option maxHeartbeats 3200000 in
set_option maxRecDepth 100000 in
theorem app_val (w0 w : World) (u : Value) (l : List Int) (v : S68) (ha : App w0 w u l) (hl : l.length < 100000000000) (hn : -9223372036854775808 ≤ v.f1 ∧ v.f1 ≤ 9223372036854775807) (hs : v.f2.size < 1000000000) :
    Calls Tryz.prog 69 #[u, .agg #[.int .i64 v.f0, .int .i64 v.f1, .string v.f2]] w fun e w' => ∃ x, e = .returned x ∧ App w0 w' x (l ++ valP v) ∧ Grew w w' u x := by
  have hb0 : Below w.heap.size w (w.alloc (.cells #[.int .i64 v.f0, .int .i64 v.f1, .string v.f2] 68)) := below_alloc (Below.refl _ _) _
  have hx0 := heap_alloc_new w (.cells #[.int .i64 v.f0, .int .i64 v.f1, .string v.f2] 68)
  have HA := Aside0.mk (ha.below hb0)
  have HG := Aside0.mk (Grew.below (Grew.refl w u) hb0)
  have HX := Aside0.mk hx0
  have hne : u.ownBlock ≠ some w.heap.size := fun hk => by
    obtain ⟨_, inner, ho, _⟩ := ha.own
    obtain ⟨cells, hc⟩ := own_typed ho _ hk
    exact Nat.lt_irrefl _ (blk_lt hc)
  have hb1 := below_alloc (Below.refl (w.alloc (.cells #[.int .i64 v.f0, .int .i64 v.f1, .string v.f2] 68)).heap.size (w.alloc (.cells #[.int .i64 v.f0, .int .i64 v.f1, .string v.f2] 68))) (.cells #[.int .u8 (v.f0 % 256)] 5)
  have HA1 := Aside0.mk (HA.out.below hb1)
  have HG1 := Aside0.mk (HG.out.below hb1)
  have HX1 := Aside0.mk ((hb1.block _ (blk_lt HX.out)).trans HX.out)
  have ho1 := one_C (heap_alloc_new (w.alloc (.cells #[.int .i64 v.f0, .int .i64 v.f1, .string v.f2] 68)) (.cells #[.int .u8 (v.f0 % 256)] 5))
  rw [show (w.alloc (.cells #[.int .i64 v.f0, .int .i64 v.f1, .string v.f2] 68)).heap.size = w.heap.size + 1 from by simp] at ho1
  have HO1 := Aside0.mk ho1
  have HLL := Aside0.mk hl
  clear ha hx0 hb0 hb1 ho1 HA HG HX
  obtain ⟨y, hy⟩ : ∃ y, y = l ++ [v.f0 % 256] := ⟨_, rfl⟩
  have hyl : y.length = l.length + 1 := by rw [hy, List.length_append]; rfl
  have HY := Aside0.mk hy
  clear hy
  have stage : ∀ rest, valP v = (v.f0 % 256) :: rest → l ++ valP v = y ++ rest := fun rest h => by rw [h, HY.out, List.append_assoc]; rfl
  by_cases k1 : v.f0 = 1
  · have k1b : (v.f0 == 1) = true := by simpa using k1
    have hst := stage (varP (zigP v.f1)) (by unfold valP; rw [if_pos k1])
    have hz := zigP_range v.f1 hn.1 hn.2
    rw [hst]
    clear stage hst
    try clear k1
    try clear k2
    go_enter Tryz.func69, Tryz.ntmps69
    go_wp2_with (first | ((with_reducible refine gate_builtin (b := .append) (xs := #[.tmp 5, .tmp 9]) rfl ?_); at_builtin; refine app_rows rfl (.tmp 5) (.tmp 9) rfl u l [v.f0 % 256] (some ⟨w.heap.size + 1, 0, none⟩) 1 1 rfl rfl HA1.out HO1.out (by have := HLL.out; omega) ?_; intro v2 w2 ha2 hk2; rw [← HY.out] at ha2; have HA2 := Aside0.mk ha2; have HG2 := Aside0.mk (HG1.out.trans hk2); have HX2 := Aside0.mk (Stay.block HA1.out hk2.kept HX1.out (by decide)); have p0 := blk_cell HX2.out 0; have p1 := blk_cell HX2.out 1; have p2 := blk_cell HX2.out 2; simp only [List.getElem?_toArray, List.getElem?_cons_zero, List.getElem?_cons_succ] at p0 p1 p2; clear ha2 hk2) | (go_at_call 109; (with_reducible refine (zig_calls v.f1 hn.1 hn.2 _).mono ?_); rintro e w' ⟨rfl, rfl⟩) | (go_at_call 29; refine (app_var w0 _ _ y (zigP v.f1) HA2.out hz.1 hz.2 (by have := HLL.out; omega)).mono ?_; rintro e w3 ⟨v3, rfl, ha3, hk3⟩; have HA3 := Aside0.mk ha3; have HG3 := Aside0.mk (HG2.out.trans hk3); clear ha3 hk3))
    go_ret
    exact ⟨_, rfl, HA3.out, HG3.out⟩
  by_cases k2 : v.f0 = 2
  · have k1b : (v.f0 == 1) = false := by simpa using k1
    have k2b : (v.f0 == 2) = true := by simpa using k2
    have hst := stage (blobP (txtP v.f2)) (by unfold valP; rw [if_neg k1, if_pos k2])
    rw [hst]
    clear stage hst
    try clear k1
    try clear k2
    go_enter Tryz.func69, Tryz.ntmps69
    go_wp2_with (first | ((with_reducible refine gate_builtin (b := .append) (xs := #[.tmp 5, .tmp 9]) rfl ?_); at_builtin; refine app_rows rfl (.tmp 5) (.tmp 9) rfl u l [v.f0 % 256] (some ⟨w.heap.size + 1, 0, none⟩) 1 1 rfl rfl HA1.out HO1.out (by have := HLL.out; omega) ?_; intro v2 w2 ha2 hk2; rw [← HY.out] at ha2; have HA2 := Aside0.mk ha2; have HG2 := Aside0.mk (HG1.out.trans hk2); have HX2 := Aside0.mk (Stay.block HA1.out hk2.kept HX1.out (by decide)); have p0 := blk_cell HX2.out 0; have p1 := blk_cell HX2.out 1; have p2 := blk_cell HX2.out 2; simp only [List.getElem?_toArray, List.getElem?_cons_zero, List.getElem?_cons_succ] at p0 p1 p2; clear ha2 hk2))
    rw [Lib.run_convert_string_bytes w2 9 30 5 v.f2 Tryz.underlying9 Tryz.underlying30 Tryz.underlying5]
    have hbw := below_bytes w2 v.f2
    have hn2 : v2.ownBlock ≠ some w2.heap.size := fun hk => by
      obtain ⟨_, inner, ho, _⟩ := HA2.out.own
      obtain ⟨cells, hc⟩ := own_typed ho _ hk
      exact Nat.lt_irrefl _ (by have := (Array.getElem?_eq_some_iff.1 hc).1; exact this)
    have HA3 := Aside0.mk (HA2.out.below hbw)
    have HG3 := Aside0.mk (HG2.out.below hbw)
    have HC3 := Aside0.mk (txt_C w2 v.f2 hs)
    have HLT := Aside0.mk (show w2.heap.size < (Lib.bytesWorld w2 5 v.f2).heap.size from by rw [Lib.bytesWorld_size]; omega)
    have HTL := Aside0.mk (txtP_length v.f2)
    clear p0 p1 p2 hbw
    generalize Lib.bytesWorld w2 5 v.f2 = W3 at *
    go_wp2_with (go_at_call 32; refine (app_blob w0 _ v2 y _ _ _ (txtP v.f2) HTL.out.symm HA3.out (fun W hst => hst.C hn2 HLT.out HC3.out) (by have := HLL.out; omega) (by rw [HTL.out]; omega)).mono ?_; rintro e w4 ⟨v4, rfl, ha4, hk4⟩; have HA4 := Aside0.mk ha4; have HG4 := Aside0.mk (HG3.out.trans hk4); clear ha4 hk4)
    go_ret
    exact ⟨_, rfl, HA4.out, HG4.out⟩
  · have k1b : (v.f0 == 1) = false := by simpa using k1
    have k2b : (v.f0 == 2) = false := by simpa using k2
    have hst := stage [] (by unfold valP; rw [if_neg k1, if_neg k2])
    rw [List.append_nil] at hst
    rw [hst]
    clear stage hst
    try clear k1
    try clear k2
    go_enter Tryz.func69, Tryz.ntmps69
    go_wp2_with (first | ((with_reducible refine gate_builtin (b := .append) (xs := #[.tmp 5, .tmp 9]) rfl ?_); at_builtin; refine app_rows rfl (.tmp 5) (.tmp 9) rfl u l [v.f0 % 256] (some ⟨w.heap.size + 1, 0, none⟩) 1 1 rfl rfl HA1.out HO1.out (by have := HLL.out; omega) ?_; intro v2 w2 ha2 hk2; rw [← HY.out] at ha2; have HA2 := Aside0.mk ha2; have HG2 := Aside0.mk (HG1.out.trans hk2); have HX2 := Aside0.mk (Stay.block HA1.out hk2.kept HX1.out (by decide)); have p0 := blk_cell HX2.out 0; have p1 := blk_cell HX2.out 1; have p2 := blk_cell HX2.out 2; simp only [List.getElem?_toArray, List.getElem?_cons_zero, List.getElem?_cons_succ] at p0 p1 p2; clear ha2 hk2))
    go_ret
    exact ⟨_, rfl, HA2.out, HG2.out⟩
end Go.Proofs.YtjmhiklmlgbifaaGreatDoor.PMan
end
section
namespace Go.Proofs.YtjmhiklmlgbifaaGreatDoor.PMan
open Go.RowKit Go.Proofs.YtjmhiklmlgbifaaGreatDoorW.PrintWords Go.Proofs.YtjmhiklmlgbifaaGreatDoorW.PrintLast Go.Proofs.YtjmhiklmlgbifaaGreatDoorW.PrintMore
set_option linter.unusedVariables false
set_option linter.unusedSimpArgs false
def rowF : List S68 → List Int
  | [] => []
  | v :: r => valP v ++ rowF r
def rowsF : List (List S68) → List Int
  | [] => []
  | r :: l => rowF r ++ rowsF l
def rowsP (rows : List (List S68)) : List Int := varP rows.length ++ rowsF rows
/-- A value of the model's: its number is one of 64 bits, its text isn't beyond all bounds. -/
def ValOk (v : S68) : Prop := (-9223372036854775808 ≤ v.f1 ∧ v.f1 ≤ 9223372036854775807) ∧ v.f2.size < 1000000000
theorem getD_mem {α : Type} (l : List α) (j : Nat) (d : α) (h : j < l.length) : l.getD j d ∈ l := by
  rw [List.getD_eq_getElem?_getD, List.getElem?_eq_getElem h]
  exact List.getElem_mem h
set_option maxHeartbeats 3200000 in
set_option maxRecDepth 100000 in
theorem app_rowsP (w0 w : World) (u : Value) (l : List Int) (A : Option Addr) (c : Nat) (rows : List (List S68)) (ha : App w0 w u l) (hr : Kd.C (Kd.slice 68 k68) w0 A rows.length rows) (hv : ∀ r ∈ rows, ∀ v ∈ r, ValOk v) (hl : (l ++ rowsP rows).length < 100000000000) :
    Calls Tryz.prog 33 #[u, .slice A rows.length c] w fun e w' => ∃ x, e = .returned x ∧ App w0 w' x (l ++ rowsP rows) := by
  have HA := Aside0.mk ha
  have HR := Aside0.mk hr
  have HV := Aside0.mk hv
  have hb : rows.length ≤ 9223372036854775807 := hr.2.1
  have hul : l.length < 100000000000 := by rw [List.length_append] at hl; omega
  clear ha hr hv
  obtain ⟨T, hT⟩ : ∃ T, T = l ++ rowsP rows := ⟨_, rfl⟩
  rw [← hT] at hl ⊢
  have HT := Aside0.mk hT
  clear hT
  have hu : IntKind.u64.wrap (rows.length : Int) = (rows.length : Int) := u64_small _ (by omega) (by omega)
  go_enter Tryz.func33, Tryz.ntmps33
  go_wp2_with fail
  refine (app_var w0 w u l rows.length HA.out (by omega) (by omega) (by omega)).mono ?_
  rintro e w1 ⟨v1, rfl, ha1, hk1⟩
  have HA1 := Aside0.mk ha1
  clear ha1 hk1
  go_wp2_with fail
  go_loopw [0, 16] (fun vb v16 w' => ∃ (i : Nat) (y : List Int), i ≤ rows.length ∧ v16 = .int .i64 i ∧ Aside0 (App w0 w' vb y) ∧ Aside0 (y ++ rowsF (rows.drop i) = T)) (fun _ i _ => rows.length - (intOf i).toNat)
  case atStart => exact ⟨0, _, Nat.zero_le _, rfl, HA1, ⟨by rw [HT.out, List.drop_zero, rowsP, List.append_assoc]⟩⟩
  case round =>
    obtain ⟨i, y, hi, rfl, HY, HE⟩ := hrel
    by_cases hlt : i < rows.length
    · obtain ⟨ad, A0, c0, e1, x0, hc0, hC⟩ := at_L6 (Kd.C_below HR.out HY.out.bel) (i : Int) (by omega) (by omega)
      cases e1
      have hmem : ∀ v ∈ rd_L6 rows (i : Int), ValOk v := HV.out _ (getD_mem rows i [] hlt)
      have he := HE.out
      rw [drop_cons rows i [] hlt, rowsF] at he
      have hC0 : Kd.C k68 w0 A0 (rd_L6 rows (i : Int)).length (rd_L6 rows (i : Int)) := by
        obtain ⟨ad2, A2, c2, e2, y0, _, hC2⟩ := at_L6 HR.out (i : Int) (by omega) (by omega)
        cases e2
        have := pw_cell_below HY.out.bel y0
        rw [x0] at this
        injection this with this
        injection this with h1 h2 h3
        subst h1
        exact hC2
      have he2 : y ++ (rowF ((rd_L6 rows (i : Int)).drop 0) ++ rowsF (rows.drop (i + 1))) = T := he
      generalize rd_L6 rows (i : Int) = r at *
      rw [show ((i : Int)).toNat = i from by omega] at x0
      have HC0 := Aside0.mk hC0
      have HE2 := Aside0.mk he2
      have HM := Aside0.mk hmem
      have hrb : r.length ≤ 9223372036854775807 := hC0.2.1
      clear hC hC0 he he2 HE hmem
      go_wp2_with fail
      go_loopw [0, 22] (fun vb v22 w' => ∃ (k : Nat) (z : List Int), k ≤ r.length ∧ v22 = .int .i64 k ∧ Aside0 (App w0 w' vb z) ∧ Aside0 (z ++ (rowF (r.drop k) ++ rowsF (rows.drop (i + 1))) = T)) (fun _ i _ => r.length - (intOf i).toNat)
      case atStart => exact ⟨0, y, Nat.zero_le _, rfl, HY, HE2⟩
      case round =>
        obtain ⟨k, z, hk, rfl, HZ, HF⟩ := hrel
        by_cases hkt : k < r.length
        · obtain ⟨bd, e2, y0, y1, y2⟩ := at_T68 (Kd.C_below HC0.out HZ.out.bel) (k : Int) (by omega) (by omega)
          cases e2
          have hok : ValOk (rd_T68 r (k : Int)) := HM.out _ (getD_mem r k z68 hkt)
          have he := HF.out
          rw [drop_cons r k z68 hkt, rowF] at he
          have he2 : z ++ (valP (rd_T68 r (k : Int)) ++ rowF (r.drop (k + 1)) ++ rowsF (rows.drop (i + 1))) = T := he
          generalize rd_T68 r (k : Int) = v at *
          rw [show ((k : Int)).toNat = k from by omega] at y0 y1 y2
          have hzl : z.length < 100000000000 := by
            have := congrArg List.length he2
            rw [List.length_append] at this
            omega
          have HE3 := Aside0.mk he2
          have HOK := Aside0.mk hok
          clear he he2 hok HF
          go_wp2_with (go_at_call 69; refine (app_val w0 _ _ z v (HZ.out.below (below_alloc (Below.refl _ _) _)) hzl HOK.out.1 HOK.out.2).mono ?_; rintro e w4 ⟨v4, rfl, ha4, hk4⟩; have HA4 := Aside0.mk ha4; clear ha4 hk4)
          go_roundw
          case rel => exact ⟨k + 1, _, by omega, by go_num, HA4, ⟨by rw [← HE3.out, List.append_assoc, List.append_assoc]⟩⟩
          case measure => simp [intOf]; omega
        · obtain rfl : k = r.length := by omega
          have he := HF.out
          rw [List.drop_eq_nil_of_le (Nat.le_refl _)] at he
          have HE3 := Aside0.mk (show z ++ rowsF (rows.drop (i + 1)) = T from he)
          clear he HF
          go_wp2
          go_roundw
          case rel => exact ⟨i + 1, z, by omega, by go_num, HZ, HE3⟩
          case measure => simp [intOf]; omega
    · obtain rfl : i = rows.length := by omega
      have he := HE.out
      rw [List.drop_eq_nil_of_le (Nat.le_refl _), rowsF, List.append_nil] at he
      subst he
      go_wp2
      go_ret
      exact ⟨_, rfl, HY.out⟩
end Go.Proofs.YtjmhiklmlgbifaaGreatDoor.PMan
end
