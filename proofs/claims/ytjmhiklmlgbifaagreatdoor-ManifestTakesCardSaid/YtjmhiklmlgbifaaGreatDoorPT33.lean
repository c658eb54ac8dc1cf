/- Texts, put into one. -/
import Derived.Test.YtjmhiklmlgbifaaGreatDoorPT13
import Derived.Test.YtjmhiklmlgbifaaGreatDoorPTW
set_option linter.unusedVariables false
set_option linter.unusedSimpArgs false
open Go Go.RowKit Go.Proofs.YtjmhiklmlgbifaaGreatDoorW.PrintWords Go.Proofs.YtjmhiklmlgbifaaGreatDoorW.PrintLast Go.Proofs.YtjmhiklmlgbifaaGreatDoorW.PrintMore
namespace Go.Proofs.YtjmhiklmlgbifaaGreatDoor.PMan
section
set_option maxHeartbeats 3200000 in
set_option maxRecDepth 100000 in
theorem refCmp_calls (a b : S68) (w : World) : Calls Tryz.prog 133 #[.agg #[.int .i64 a.f0, .int .i64 a.f1, .string a.f2], .agg #[.int .i64 b.f0, .int .i64 b.f1, .string b.f2]] w fun e w' => e = .returned (.int .i64 (cmpP a b)) ∧ Below w.heap.size w w' := by
 obtain ⟨r, hr⟩ : ∃ r, r = cmpP a b := ⟨_, rfl⟩
 rw [← hr]
 unfold cmpP cmpI cmpS at hr
 have HR := am hr
 clear hr
 go_enter Tryz.func133, Tryz.ntmps133
 go_wp2
 all_goals go_ret
 all_goals (refine ⟨?_, below_alloc (below_alloc (Below.refl _ _) _) _⟩; have e := HR.out; clear HR; subst e)
 all_goals (refine congrArg (fun x => Ending.returned (Value.int .i64 x)) (?_ : (_ : Int) = _); repeat' split)
 all_goals first | rfl | omega | (simp_all; done) | (simp_all; omega)
set_option maxHeartbeats 1600000 in
theorem refcmp_calls (a b : S68) (w : World) : Calls Tryz.prog 114 #[.agg #[.int .i64 a.f0, .int .i64 a.f1, .string a.f2], .agg #[.int .i64 b.f0, .int .i64 b.f1, .string b.f2]] w fun e w' => e = .returned (.int .i64 (cmpP a b)) ∧ Below w.heap.size w w' := by
 go_enter Tryz.func114, Tryz.ntmps114
 go_wp2_with (go_at_call 133; refine (refCmp_calls a b _).mono ?_; rintro e w1 ⟨rfl, hb⟩)
 go_ret
 exact ⟨rfl, below_call (below_alloc (below_alloc (Below.refl _ _) _) _) hb⟩
def rightR (v : S68) (kind : Int) : Bool := if v.f0 = 0 then (if v.f1 = 0 then v.f2.toList == ([] : List UInt8) else false) else (if v.f0 = kind then (if kind = 1 then (if v.f2.toList = ([] : List UInt8) then true else (if kind = 2 then v.f1 == 0 else false)) else (if kind = 2 then v.f1 == 0 else false)) else false)
theorem refRight_calls (v : S68) (kind : Int) (w : World) : Calls Tryz.prog 84 #[.agg #[.int .i64 v.f0, .int .i64 v.f1, .string v.f2], .int .i64 kind] w fun e w' => e = .returned (.bool (rightR v kind)) ∧ Below w.heap.size w w' :=
 estreatref14_Right.calls v.f0 v.f1 v.f2 kind _ w (by
  unfold estreatref14_Right.f rightR
  repeat' split
  all_goals rfl)
def zoneR (z : S70) (rows kind : Int) : Bool :=
 if z.f0 < 0 then false else if z.f0 > rows then false else if (z.f1 != decide (z.f0 < rows)) = true then false else
 if z.f1 = true then (kind == 1 || kind == 2) && ((z.f2.f0 == kind) && ((z.f3.f0 == kind) && (rightR z.f2 kind && (rightR z.f3 kind && (decide ((z.f2.f2.size : Int) ≤ 65536) && (decide ((z.f3.f2.size : Int) ≤ 65536) && decide (cmpP z.f2 z.f3 ≤ 0)))))))
 else zeroV z.f2 && zeroV z.f3
theorem rightP_R (v : S68) (kind : Int) (hk : kind = 1 ∨ kind = 2) : rightP kind v = ((v.f0 == kind) && (rightR v kind && decide ((v.f2.size : Int) ≤ 65536))) := by
 unfold rightP rowP rightR
 rw [if_pos (by simp), rowL, show rowL ([] : List S123) ([] : List S68) = 0 from rfl]
 unfold standsP zeroV
 rcases hk with rfl | rfl
 ·by_cases h : v.f0 = 1
  ·by_cases g : v.f2.toList = []
   ·by_cases q : (v.f2.size : Int) ≤ 65536
    ·simp [h, g, q]
    ·simp [h, g, q]
   ·simp [h, g]
  ·simp [h]
 ·by_cases h : v.f0 = 2
  ·by_cases g : v.f1 = 0
   ·by_cases q : (v.f2.size : Int) ≤ 65536
    ·simp [h, g, q]
    ·simp [h, g, q]
   ·simp [h, g]
  ·simp [h]
theorem zoneR_P (z : S70) (rows kind : Int) : zoneR z rows kind = zoneP z rows kind := by
 unfold zoneR zoneP
 by_cases hk : kind = 1 ∨ kind = 2
 ·rw [rightP_R _ _ hk, rightP_R _ _ hk]
  repeat' split
  all_goals first | rfl | (cases (kind == 1 || kind == 2) <;> cases (z.f2.f0 == kind) <;> cases (z.f3.f0 == kind) <;> cases rightR z.f2 kind <;> cases rightR z.f3 kind <;> cases decide ((z.f2.f2.size : Int) ≤ 65536) <;> cases decide ((z.f3.f2.size : Int) ≤ 65536) <;> rfl)
 ·have : (kind == 1 || kind == 2) = false := by simpa using hk
  rw [this]
  rfl
set_option maxHeartbeats 3200000 in
set_option maxRecDepth 100000 in
theorem refZone_some (n : Int) (v1 v2 : S68) (rows kind : Int) (hk : kind = 1 ∨ kind = 2) (h1 : ¬ n < 0) (h2 : ¬ n > rows) (h3 : n < rows) (w : World) :
  Calls Tryz.prog 83 #[.agg #[.int .i64 n, .bool true, .int .i64 v1.f0, .int .i64 v1.f1, .string v1.f2, .int .i64 v2.f0, .int .i64 v2.f1, .string v2.f2], .int .i64 rows, .int .i64 kind] w fun e w' => e = .returned (.bool ((v1.f0 == kind) && ((v2.f0 == kind) && (rightR v1 kind && (rightR v2 kind && (decide ((v1.f2.size : Int) ≤ 65536) && (decide ((v2.f2.size : Int) ≤ 65536) && decide (cmpP v1 v2 ≤ 0)))))))) ∧ Below w.heap.size w w' := by
 have hd : decide (n < rows) = true := decide_eq_true h3
 obtain ⟨r, hr⟩ : ∃ r, r = ((v1.f0 == kind) && ((v2.f0 == kind) && (rightR v1 kind && (rightR v2 kind && (decide ((v1.f2.size : Int) ≤ 65536) && (decide ((v2.f2.size : Int) ≤ 65536) && decide (cmpP v1 v2 ≤ 0))))))) := ⟨_, rfl⟩
 rw [← hr]
 have HR := am hr
 clear hr
 have HX0 := am (heap_alloc_new w (.cells #[.int .i64 n, .bool true, .int .i64 v1.f0, .int .i64 v1.f1, .string v1.f2, .int .i64 v2.f0, .int .i64 v2.f1, .string v2.f2] 70))
 have HB0 := am (below_alloc (Below.refl w.heap.size w) (.cells #[.int .i64 n, .bool true, .int .i64 v1.f0, .int .i64 v1.f1, .string v1.f2, .int .i64 v2.f0, .int .i64 v2.f1, .string v2.f2] 70))
 obtain ⟨a1, ha1⟩ : ∃ a : Bool, (v1.f0 == kind) = a := ⟨_, rfl⟩
 obtain ⟨a2, ha2⟩ : ∃ a : Bool, (v2.f0 == kind) = a := ⟨_, rfl⟩
 obtain ⟨a3, ha3⟩ : ∃ a : Bool, decide ((v1.f2.size : Int) ≤ 65536) = a := ⟨_, rfl⟩
 obtain ⟨a4, ha4⟩ : ∃ a : Bool, decide ((v2.f2.size : Int) ≤ 65536) = a := ⟨_, rfl⟩
 obtain ⟨r1, hr1⟩ : ∃ a : Bool, rightR v1 kind = a := ⟨_, rfl⟩
 obtain ⟨r2, hr2⟩ : ∃ a : Bool, rightR v2 kind = a := ⟨_, rfl⟩
 have HE0 := HR.out
 rw [ha1, ha2, ha3, ha4, hr1, hr2] at HE0
 have HE := am HE0
 clear HR HE0
 rcases hk with rfl | rfl
 all_goals (
  cases a1 with
  | false =>
   go_enter Tryz.func83, Tryz.ntmps83
   go_wp2
   go_ret
   exact ⟨by rw [HE.out]; rfl, HB0.out⟩
  | true =>
  cases a2 with
  | false =>
   go_enter Tryz.func83, Tryz.ntmps83
   go_wp2
   go_ret
   exact ⟨by rw [HE.out]; rfl, HB0.out⟩
  | true =>
  go_enter Tryz.func83, Tryz.ntmps83
  go_wp2_with fail
  refine (refRight_calls v1 _ _).mono ?_
  rintro e wa ⟨rfl, hb⟩
  have HXa := am ((hb.block _ (blk_lt HX0.out)).trans HX0.out)
  have HBa := am (below_call HB0.out hb)
  clear hb
  have p2 : wa.cell? ⟨w.heap.size, 2, none⟩ = some (.int .i64 v1.f0) := blk_cell HXa.out 2
  have p3 : wa.cell? ⟨w.heap.size, 3, none⟩ = some (.int .i64 v1.f1) := blk_cell HXa.out 3
  have p4 : wa.cell? ⟨w.heap.size, 4, none⟩ = some (.string v1.f2) := blk_cell HXa.out 4
  have p5 : wa.cell? ⟨w.heap.size, 5, none⟩ = some (.int .i64 v2.f0) := blk_cell HXa.out 5
  have p6 : wa.cell? ⟨w.heap.size, 6, none⟩ = some (.int .i64 v2.f1) := blk_cell HXa.out 6
  have p7 : wa.cell? ⟨w.heap.size, 7, none⟩ = some (.string v2.f2) := blk_cell HXa.out 7
  rw [hr1]
  cases r1 with
  | false =>
   go_wp2
   go_ret
   exact ⟨by rw [HE.out]; rfl, HBa.out⟩
  | true =>
  go_wp2_with fail
  refine (refRight_calls v2 _ _).mono ?_
  rintro e wb ⟨rfl, hb⟩
  have HXb := am ((hb.block _ (blk_lt HXa.out)).trans HXa.out)
  have HBb := am (below_call HBa.out hb)
  clear hb p2 p3 p4 p5 p6 p7
  have p2 : wb.cell? ⟨w.heap.size, 2, none⟩ = some (.int .i64 v1.f0) := blk_cell HXb.out 2
  have p3 : wb.cell? ⟨w.heap.size, 3, none⟩ = some (.int .i64 v1.f1) := blk_cell HXb.out 3
  have p4 : wb.cell? ⟨w.heap.size, 4, none⟩ = some (.string v1.f2) := blk_cell HXb.out 4
  have p5 : wb.cell? ⟨w.heap.size, 5, none⟩ = some (.int .i64 v2.f0) := blk_cell HXb.out 5
  have p6 : wb.cell? ⟨w.heap.size, 6, none⟩ = some (.int .i64 v2.f1) := blk_cell HXb.out 6
  have p7 : wb.cell? ⟨w.heap.size, 7, none⟩ = some (.string v2.f2) := blk_cell HXb.out 7
  rw [hr2]
  cases r2 with
  | false =>
   go_wp2
   go_ret
   exact ⟨by rw [HE.out]; rfl, HBb.out⟩
  | true =>
  cases a3 with
  | false =>
   go_wp2
   go_ret
   exact ⟨by rw [HE.out]; rfl, HBb.out⟩
  | true =>
  cases a4 with
  | false =>
   go_wp2
   go_ret
   exact ⟨by rw [HE.out]; rfl, HBb.out⟩
  | true =>
  go_wp2_with fail
  refine (refcmp_calls v1 v2 _).mono ?_
  rintro e wc ⟨rfl, hb⟩
  have HBc := am (below_call HBb.out hb)
  clear hb p2 p3 p4 p5 p6 p7
  go_wp2
  go_ret
  exact ⟨by rw [HE.out]; rfl, HBc.out⟩)
set_option maxHeartbeats 3200000 in
set_option maxRecDepth 100000 in
theorem refZone_no (n : Int) (b : Bool) (v1 v2 : S68) (rows kind : Int) (hk : b = false ∨ n < 0 ∨ n > rows ∨ (b != decide (n < rows)) = true ∨ (kind ≠ 1 ∧ kind ≠ 2)) (w : World) :
  Calls Tryz.prog 83 #[.agg #[.int .i64 n, .bool b, .int .i64 v1.f0, .int .i64 v1.f1, .string v1.f2, .int .i64 v2.f0, .int .i64 v2.f1, .string v2.f2], .int .i64 rows, .int .i64 kind] w fun e w' => e = .returned (.bool (zoneP ⟨n, b, v1, v2⟩ rows kind)) ∧ Below w.heap.size w w' := by
 have hba : ∀ a : Obj, Below w.heap.size w (w.alloc a) := fun a => below_alloc (Below.refl _ _) _
 by_cases h1 : n < 0
 ·go_enter Tryz.func83, Tryz.ntmps83
  go_wp2
  go_ret
  exact ⟨by simp [zoneP, h1], hba _⟩
 by_cases h2 : n > rows
 ·have h2' : rows < n := h2
  go_enter Tryz.func83, Tryz.ntmps83
  go_wp2
  go_ret
  exact ⟨by simp [zoneP, h2'], hba _⟩
 by_cases hlt : n < rows
 ·have hd : decide (n < rows) = true := decide_eq_true hlt
  cases b with
  | false =>
   go_enter Tryz.func83, Tryz.ntmps83
   go_wp2
   all_goals go_ret
   exact ⟨by simp [zoneP, h1, h2, hlt], hba _⟩
  | true =>
   have hk' : kind ≠ 1 ∧ kind ≠ 2 := by
    rcases hk with h | h | h | h | h
    ·cases h
    ·exact absurd h h1
    ·exact absurd h h2
    ·rw [hd] at h; cases h
    ·exact h
   have k1 : (kind == 1) = false := by simpa using hk'.1
   have k2 : (kind == 2) = false := by simpa using hk'.2
   have hz : zoneP ⟨n, true, v1, v2⟩ rows kind = false := by unfold zoneP; dsimp only; rw [if_neg h1, if_neg h2, if_neg (by rw [hd]; decide), if_pos rfl, k1, k2]; rfl
   rw [hz]
   go_enter Tryz.func83, Tryz.ntmps83
   go_wp2
   all_goals go_ret
   exact ⟨rfl, hba _⟩
 ·have hd : decide (n < rows) = false := decide_eq_false hlt
  cases b with
  | true =>
   go_enter Tryz.func83, Tryz.ntmps83
   go_wp2
   all_goals go_ret
   exact ⟨by simp [zoneP, h1, h2, hlt], hba _⟩
  | false =>
   obtain ⟨x, hx⟩ : ∃ x : Bool, x = (zeroV v1 && zeroV v2) := ⟨_, rfl⟩
   have hz : zoneP ⟨n, false, v1, v2⟩ rows kind = x := by rw [hx]; unfold zoneP; dsimp only; rw [if_neg h1, if_neg h2, if_neg (by rw [hd]; decide), if_neg (by decide)]
   rw [hz]
   unfold zeroV at hx
   go_enter Tryz.func83, Tryz.ntmps83
   go_wp2
   all_goals go_ret
   all_goals (refine ⟨?_, hba _⟩; simp_all)
theorem refZone_calls (z : S70) (rows kind : Int) (w : World) :
  Calls Tryz.prog 83 #[.agg #[.int .i64 z.f0, .bool z.f1, .int .i64 z.f2.f0, .int .i64 z.f2.f1, .string z.f2.f2, .int .i64 z.f3.f0, .int .i64 z.f3.f1, .string z.f3.f2], .int .i64 rows, .int .i64 kind] w fun e w' => e = .returned (.bool (zoneP z rows kind)) ∧ Below w.heap.size w w' := by
 obtain ⟨n, b, v1, v2⟩ := z
 by_cases h : b = false ∨ n < 0 ∨ n > rows ∨ (b != decide (n < rows)) = true ∨ (kind ≠ 1 ∧ kind ≠ 2)
 ·exact refZone_no n b v1 v2 rows kind h w
 ·have hb : b = true := by
   cases b with
   | true => rfl
   | false => exact absurd (.inl rfl) h
  subst hb
  have h3 : decide (n < rows) = true := by
   cases hd : decide (n < rows) with
   | true => rfl
   | false => exact absurd (.inr (.inr (.inr (.inl (by rw [hd]; rfl))))) h
  have h4 : n < rows := of_decide_eq_true h3
  have h1 : ¬ n < 0 := fun q => h (.inr (.inl q))
  have h2 : ¬ n > rows := fun q => h (.inr (.inr (.inl q)))
  have hk : kind = 1 ∨ kind = 2 := by
   by_cases k1 : kind = 1
   ·exact .inl k1
   ·by_cases k2 : kind = 2
    ·exact .inr k2
    ·exact absurd (.inr (.inr (.inr (.inr ⟨k1, k2⟩)))) h
  have hz : zoneP ⟨n, true, v1, v2⟩ rows kind = ((v1.f0 == kind) && ((v2.f0 == kind) && (rightR v1 kind && (rightR v2 kind && (decide ((v1.f2.size : Int) ≤ 65536) && (decide ((v2.f2.size : Int) ≤ 65536) && decide (cmpP v1 v2 ≤ 0))))))) := by
   rw [← zoneR_P]
   unfold zoneR
   dsimp only
   rw [if_neg h1, if_neg h2, if_neg (by rw [h3]; decide), if_pos rfl]
   rcases hk with rfl | rfl <;> rfl
  rw [hz]
  exact refZone_some n v1 v2 rows kind hk h1 h2 h4 w
end
end Go.Proofs.YtjmhiklmlgbifaaGreatDoor.PMan
