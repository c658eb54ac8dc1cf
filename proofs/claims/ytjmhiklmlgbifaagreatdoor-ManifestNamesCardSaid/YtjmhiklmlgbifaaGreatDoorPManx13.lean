-- Printed for this claim by a program of this session's own (it runs the kit's print another way): Lean checks it.
import Derived.Test.YtjmhiklmlgbifaaGreatDoorPManx0
import Derived.Test.YtjmhiklmlgbifaaGreatDoorPManx9
import Derived.Test.YtjmhiklmlgbifaaGreatDoorPManx12
namespace Go.Proofs.YtjmhiklmlgbifaaGreatDoor.PMan
open Go.RowKit Go.Proofs.YtjmhiklmlgbifaaGreatDoorW.PrintWords Go.Proofs.YtjmhiklmlgbifaaGreatDoorW.PrintLast Go.Proofs.YtjmhiklmlgbifaaGreatDoorW.PrintMore
attribute [local go_sem] max2_int min2_int max_two min_two max_three min_three max_four min_four   -- for this text's walks alone
set_option linter.unusedVariables false
set_option linter.unusedSimpArgs false

/-! ### num_Reader_Fix: function 116 -/
def fixv : List Int → Option Int
  | [] => some 0
  | [a] => some (Go.bits .or .u64 0 (IntKind.u64.wrap a))
  | [a, b, c, d] => some (Go.bits .or .u64 (Go.bits .or .u64 (Go.bits .or .u64 (Go.bits .or .u64 0 (IntKind.u64.wrap (IntKind.u64.wrap d * 16777216))) (IntKind.u64.wrap (IntKind.u64.wrap c * 65536))) (IntKind.u64.wrap (IntKind.u64.wrap b * 256))) (IntKind.u64.wrap a))
  | _ => none
/-- r.Fix(n), n 1 or 4. -/
def num_Reader_Fix.f (s0 : List Int) (s1 s2 s3 : Int) (a1 : Int) : Option (Int × Int × Int × Int) :=
  if a1 = 1 ∨ a1 = 4 then (num_Reader_Take.f s0 s1 s2 s3 a1).bind fun r => (fixv r.1).bind fun v => some (v, r.2) else none
set_option maxHeartbeats 1600000 in
set_option maxRecDepth 100000 in
theorem rd_fix_0 (n : Nat) (hn : n = 1 ∨ n = 4) (g : Nat) (s0 : List Int) (s1 s2 s3 : Int) (v : Int) (r2 r3 r4 : Int) (w0 w : World) (hI : RD w0 w g s0 s1 s2 s3) (hB : Below w0.heap.size w0 w) (h : num_Reader_Take.f s0 s1 s2 s3 n = some ([], r2, r3, r4)) (hv : fixv [] = some v) :
    Calls Tryz.prog 116 #[.pointer (some ⟨g, 0, none⟩), .int .i64 n] w fun e w' => e = .returned (.int .u64 v) ∧ RD w0 w' g s0 r2 r3 r4 ∧ Below w0.heap.size w0 w' ∧ KeepBut w w' g none := by
  have HI := Aside0.mk hI
  have HB := Aside0.mk hB
  have HF := Aside0.mk h
  have hn8 : ¬ ((8 : Int) < (n : Int)) := by omega
  have HV := Aside0.mk (Option.some.inj hv)
  clear hI hB h hn hv
  go_enter Tryz.func116, Tryz.ntmps116
  go_wp2_with fail
  refine (num_Reader_Take.calls g s0 s1 s2 s3 n _ r2 r3 r4 w0 _ HI.out HB.out HF.out).mono ?_
  rintro e w1 ⟨vv, rfl, hr, h1, h2, h3⟩
  obtain ⟨A, c, rfl⟩ := Kd.R_slice hr
  have H1 := Aside0.mk h1
  have H2 := Aside0.mk h2
  have H3 := Aside0.mk h3
  clear hr h1 h2 h3
  go_wp2
  go_ret
  exact ⟨by rw [← HV.out]; rfl, H1.out, H2.out, H3.out⟩
set_option maxHeartbeats 1600000 in
set_option maxRecDepth 100000 in
theorem rd_fix_1 (n : Nat) (hn : n = 1 ∨ n = 4) (g : Nat) (s0 : List Int) (s1 s2 s3 : Int) (x0 v : Int) (r2 r3 r4 : Int) (w0 w : World) (hI : RD w0 w g s0 s1 s2 s3) (hB : Below w0.heap.size w0 w) (h : num_Reader_Take.f s0 s1 s2 s3 n = some ([x0], r2, r3, r4)) (hv : fixv [x0] = some v) :
    Calls Tryz.prog 116 #[.pointer (some ⟨g, 0, none⟩), .int .i64 n] w fun e w' => e = .returned (.int .u64 v) ∧ RD w0 w' g s0 r2 r3 r4 ∧ Below w0.heap.size w0 w' ∧ KeepBut w w' g none := by
  have HI := Aside0.mk hI
  have HB := Aside0.mk hB
  have HF := Aside0.mk h
  have hn8 : ¬ ((8 : Int) < (n : Int)) := by omega
  have HV := Aside0.mk (Option.some.inj hv)
  clear hI hB h hn hv
  go_enter Tryz.func116, Tryz.ntmps116
  go_wp2_with fail
  refine (num_Reader_Take.calls g s0 s1 s2 s3 n _ r2 r3 r4 w0 _ HI.out HB.out HF.out).mono ?_
  rintro e w1 ⟨vv, rfl, hr, h1, h2, h3⟩
  obtain ⟨gb, cap, rfl, _⟩ := Kd.R_form hr (by simp)
  have c0 : w1.cell? ⟨gb, 0, none⟩ = some (.int .u8 x0) := (Kd.R_cell (0 : Int) hr 0 (by omega) (by simp)).1
  have H1 := Aside0.mk h1
  have H2 := Aside0.mk h2
  have H3 := Aside0.mk h3
  clear hr h1 h2 h3
  go_wp2
  go_ret
  exact ⟨by rw [← HV.out]; rfl, H1.out, H2.out, H3.out⟩
set_option maxHeartbeats 1600000 in
set_option maxRecDepth 100000 in
theorem rd_fix_4 (n : Nat) (hn : n = 1 ∨ n = 4) (g : Nat) (s0 : List Int) (s1 s2 s3 : Int) (x0 x1 x2 x3 v : Int) (r2 r3 r4 : Int) (w0 w : World) (hI : RD w0 w g s0 s1 s2 s3) (hB : Below w0.heap.size w0 w) (h : num_Reader_Take.f s0 s1 s2 s3 n = some ([x0, x1, x2, x3], r2, r3, r4)) (hv : fixv [x0, x1, x2, x3] = some v) :
    Calls Tryz.prog 116 #[.pointer (some ⟨g, 0, none⟩), .int .i64 n] w fun e w' => e = .returned (.int .u64 v) ∧ RD w0 w' g s0 r2 r3 r4 ∧ Below w0.heap.size w0 w' ∧ KeepBut w w' g none := by
  have HI := Aside0.mk hI
  have HB := Aside0.mk hB
  have HF := Aside0.mk h
  have hn8 : ¬ ((8 : Int) < (n : Int)) := by omega
  have HV := Aside0.mk (Option.some.inj hv)
  clear hI hB h hn hv
  go_enter Tryz.func116, Tryz.ntmps116
  go_wp2_with fail
  refine (num_Reader_Take.calls g s0 s1 s2 s3 n _ r2 r3 r4 w0 _ HI.out HB.out HF.out).mono ?_
  rintro e w1 ⟨vv, rfl, hr, h1, h2, h3⟩
  obtain ⟨gb, cap, rfl, _⟩ := Kd.R_form hr (by simp)
  have c0 : w1.cell? ⟨gb, 0, none⟩ = some (.int .u8 x0) := (Kd.R_cell (0 : Int) hr 0 (by omega) (by simp)).1
  have c1 : w1.cell? ⟨gb, 1, none⟩ = some (.int .u8 x1) := (Kd.R_cell (0 : Int) hr 1 (by omega) (by simp)).1
  have c2 : w1.cell? ⟨gb, 2, none⟩ = some (.int .u8 x2) := (Kd.R_cell (0 : Int) hr 2 (by omega) (by simp)).1
  have c3 : w1.cell? ⟨gb, 3, none⟩ = some (.int .u8 x3) := (Kd.R_cell (0 : Int) hr 3 (by omega) (by simp)).1
  have H1 := Aside0.mk h1
  have H2 := Aside0.mk h2
  have H3 := Aside0.mk h3
  clear hr h1 h2 h3
  go_wp2
  go_ret
  exact ⟨by rw [← HV.out]; rfl, H1.out, H2.out, H3.out⟩
theorem num_Reader_Fix.calls (g : Nat) (s0 : List Int) (s1 s2 s3 : Int) (a1 : Int) (r1 r2 r3 r4 : Int) (w0 w : World) (hI : RD w0 w g s0 s1 s2 s3) (hB : Below w0.heap.size w0 w) (h : num_Reader_Fix.f s0 s1 s2 s3 a1 = some (r1, r2, r3, r4)) :
    Calls Tryz.prog 116 #[.pointer (some ⟨g, 0, none⟩), .int .i64 a1] w fun e w' => e = .returned (.int .u64 r1) ∧ RD w0 w' g s0 r2 r3 r4 ∧ Below w0.heap.size w0 w' ∧ KeepBut w w' g none := by
  unfold num_Reader_Fix.f at h
  by_cases ha : a1 = 1 ∨ a1 = 4
  · rw [if_pos ha] at h
    obtain ⟨n, rfl⟩ : ∃ n : Nat, a1 = (n : Int) := ⟨a1.toNat, by omega⟩
    have hn : n = 1 ∨ n = 4 := by omega
    obtain ⟨⟨l, q2, q3, q4⟩, h1, h⟩ := Option.bind_eq_some_iff.mp h
    obtain ⟨v, hv, h⟩ := Option.bind_eq_some_iff.mp h
    have h := Option.some.inj h
    simp only [Prod.mk.injEq] at h
    obtain ⟨rfl, rfl, rfl, rfl⟩ := h
    match l, h1, hv with
    | [], h1, hv => exact rd_fix_0 n hn g s0 s1 s2 s3 _ _ _ _ w0 w hI hB h1 hv
    | [x0], h1, hv => exact rd_fix_1 n hn g s0 s1 s2 s3 x0 _ _ _ _ w0 w hI hB h1 hv
    | [x0, x1, x2, x3], h1, hv => exact rd_fix_4 n hn g s0 s1 s2 s3 x0 x1 x2 x3 _ _ _ _ w0 w hI hB h1 hv
  · rw [if_neg ha] at h
    cases h

end Go.Proofs.YtjmhiklmlgbifaaGreatDoor.PMan
