/- Texts, put into one. -/
import Derived.Test.YtjmhiklmlgbifaaGreatDoorPT44
import Derived.Test.YtjmhiklmlgbifaaGreatDoorPTW
set_option linter.unusedVariables false
set_option linter.unusedSimpArgs false
open Go Go.RowKit Go.Proofs.YtjmhiklmlgbifaaGreatDoorW.PrintWords Go.Proofs.YtjmhiklmlgbifaaGreatDoorW.PrintLast Go.Proofs.YtjmhiklmlgbifaaGreatDoorW.PrintMore
namespace Go.Proofs.YtjmhiklmlgbifaaGreatDoor.PMan
section
attribute [local go_sem] max2_int min2_int max_two min_two max_three min_three max_four min_four
def estreatref15_SameRows.l0 : Nat → List (List (S68)) → List (List (S68)) → Int → Option (Bool)
 | 0, _, _, _ => none
 | k + 1, x0, x1, x5 => if x5 < (x0.length : Int) then (if 0 ≤ x5 then (if x5 < (x1.length : Int) then ((estreatref14_Same.f k (rd_L6 x0 x5) (rd_L6 x1 x5)).bind fun t171 => (if t171 = true then (estreatref15_SameRows.l0 k x0 x1 (wrap64 (x5 + 1))) else (some false))) else (none)) else (none)) else (some true)
def estreatref15_SameRows.f (k : Nat) (l0 : List (List (S68))) (l1 : List (List (S68))) : Option (Bool) := if (l0.length : Int) = (l1.length : Int) then (estreatref15_SameRows.l0 k l0 l1 0) else (some false)
set_option maxHeartbeats 8000000 in
set_option maxRecDepth 100000 in
theorem estreatref15_SameRows.calls (k : Nat) (A0 : Option Addr) (c0 : Nat) (l0 : List (List (S68))) (A1 : Option Addr) (c1 : Nat) (l1 : List (List (S68))) (r : Bool) (w : World) (hr0 : Kd.C (Kd.slice 68 k68) w A0 l0.length l0) (hc0 : l0.length ≤ c0) (hr1 : Kd.C (Kd.slice 68 k68) w A1 l1.length l1) (hc1 : l1.length ≤ c1) (h : estreatref15_SameRows.f k l0 l1 = some r) :
  Calls Tryz.prog 65 #[.slice A0 l0.length c0, .slice A1 l1.length c1] w fun e w' => e = .returned (.bool r) ∧ Drawn0 w w' := by
 have HR0 := am hr0
 have HC0 := am hc0
 clear hr0 hc0
 have HR1 := am hr1
 have HC1 := am hc1
 clear hr1 hc1
 have H : (if (l0.length : Int) = (l1.length : Int) then (estreatref15_SameRows.l0 k l0 l1 0) else (some false)) = some r := h
 clear h
 by_cases c3 : (l0.length : Int) = (l1.length : Int)
 ·rw [if_pos c3] at H
  have c3b0 : ((l0.length : Int) == (l1.length : Int)) = true := beq_iff_eq.mpr c3
  have c3b1 : ((l0.length : Int) != (l1.length : Int)) = false := bne_eq_false_iff_eq.mpr c3
  have c3b2 : (l0.length == l1.length) = true := by first | simpa using c3 | (simp at c3 ⊢; omega)
  clear c3
  have H' := am H
  clear H
  go_enter Tryz.func65, Tryz.ntmps65
  go_wp2
  repeat (go_quiet (fail); try go_wp2)
  go_loopg [5] k (fun kq v5 w' => ∃ (x5_1 : Int), v5 = .int .i64 x5_1 ∧ Aside0 (estreatref15_SameRows.l0 kq l0 l1 x5_1 = some r) ∧ Aside0 (kq ≤ k) ∧ Drawn0 w w')
  case atStart => exact ⟨(0), (by first | rfl | (simp; done) | (simp [*]; done)), H', ⟨Nat.le_refl _⟩, by repeat (first | exact Drawn0.refl _ | apply Drawn0.step)⟩
  case round =>
   clear H'
   try clear c1
   try clear p2
   try clear c3
   try clear c3b0
   try clear c3b1
   try clear c3b2
   obtain ⟨x5_1, rfl, HA, HK1, ⟨m1, rfl⟩⟩ := hrel
   cases gk with
   | zero => exact absurd HA.out (by simp [estreatref15_SameRows.l0])
   | succ k1 =>
    have H := HA.out
    clear HA
    simp only [estreatref15_SameRows.l0] at H
    by_cases c4 : x5_1 < (l0.length : Int)
    ·rw [if_pos c4] at H
     have c4b0 : decide (x5_1 < (l0.length : Int)) = true := decide_eq_true c4
     clear c4
     by_cases c5 : 0 ≤ x5_1
     ·rw [if_pos c5] at H
      have c5b0 : decide (0 ≤ x5_1) = true := decide_eq_true c5
      clear c5
      by_cases c6 : x5_1 < (l1.length : Int)
      ·rw [if_pos c6] at H
       have c6b0 : decide (x5_1 < (l1.length : Int)) = true := decide_eq_true c6
       clear c6
       replace H := Option.bind_eq_some_iff.mp H
       obtain ⟨t171, A70, H⟩ := H
       replace H : (if t171 = true then (estreatref15_SameRows.l0 k1 l0 l1 (wrap64 (x5_1 + 1))) else (some false)) = some r := H
       have A7 := am A70
       clear A70
       by_cases c8 : t171 = true
       ·subst c8
        have H1 : (estreatref15_SameRows.l0 k1 l0 l1 (wrap64 (x5_1 + 1))) = some r := by rw [if_pos rfl] at H; exact H
        clear H
        have H := H1
        clear H1
        have H' := am H
        clear H
        have p169 : 0 ≤ (x5_1 : Int) := of_decide_eq_true (by first | (with_reducible assumption) | assumption)
        have q169 : x5_1 < (l0.length : Int) := of_decide_eq_true (by first | (with_reducible assumption) | assumption)
        obtain ⟨ad169, A169_0, c169_0, e169, hx169_0, hl169_0, hi169_0⟩ := at_L6 HR0.out x5_1 p169 q169
        cases e169
        have HR169_0 := am hi169_0
        have HC169_0 := am hl169_0
        clear hi169_0 hl169_0
        replace p169 := eq_true p169
        replace q169 := eq_true q169
        have p170 : 0 ≤ (x5_1 : Int) := of_decide_eq_true (by first | (with_reducible assumption) | assumption)
        have q170 : x5_1 < (l1.length : Int) := of_decide_eq_true (by first | (with_reducible assumption) | assumption)
        obtain ⟨ad170, A170_0, c170_0, e170, hx170_0, hl170_0, hi170_0⟩ := at_L6 HR1.out x5_1 p170 q170
        cases e170
        have HR170_0 := am hi170_0
        have HC170_0 := am hl170_0
        clear hi170_0 hl170_0
        replace p170 := eq_true p170
        replace q170 := eq_true q170
        go_wp2_with (first | (go_at_call 108; (with_reducible refine (estreatref14_Same.calls k1 _ _ (rd_L6 l0 x5_1) _ _ (rd_L6 l1 x5_1) true _ ?side1 ?side2 ?side3 ?side4 A7.out).mono ?_); (case side1 => repeat (first | exact HR169_0.out | (with_reducible refine Kd.C_alloc ?_ _) | (with_reducible refine Kd.C_drewN ?_ _) | (with_reducible refine Kd.C_drew ?_))); (case side2 => exact HC169_0.out); (case side3 => repeat (first | exact HR170_0.out | (with_reducible refine Kd.C_alloc ?_ _) | (with_reducible refine Kd.C_drewN ?_ _) | (with_reducible refine Kd.C_drew ?_))); (case side4 => exact HC170_0.out); rintro e w' ⟨rfl, ⟨nd, rfl⟩⟩; (try first | exact ⟨rfl, _, World.drewN_drewN _ _ _⟩ | exact ⟨rfl, _, Eq.trans (World.drewN_drewN _ _ _) (congrArg (World.drewN _) (Nat.add_assoc _ _ _))⟩)))
        repeat (go_quiet (first | (go_at_call 108; (with_reducible refine (estreatref14_Same.calls k1 _ _ (rd_L6 l0 x5_1) _ _ (rd_L6 l1 x5_1) true _ ?side1 ?side2 ?side3 ?side4 A7.out).mono ?_); (case side1 => repeat (first | exact HR169_0.out | (with_reducible refine Kd.C_alloc ?_ _) | (with_reducible refine Kd.C_drewN ?_ _) | (with_reducible refine Kd.C_drew ?_))); (case side2 => exact HC169_0.out); (case side3 => repeat (first | exact HR170_0.out | (with_reducible refine Kd.C_alloc ?_ _) | (with_reducible refine Kd.C_drewN ?_ _) | (with_reducible refine Kd.C_drew ?_))); (case side4 => exact HC170_0.out); rintro e w' ⟨rfl, ⟨nd, rfl⟩⟩; (try first | exact ⟨rfl, _, World.drewN_drewN _ _ _⟩ | exact ⟨rfl, _, Eq.trans (World.drewN_drewN _ _ _) (congrArg (World.drewN _) (Nat.add_assoc _ _ _))⟩))); try go_wp2_with (first | (go_at_call 108; (with_reducible refine (estreatref14_Same.calls k1 _ _ (rd_L6 l0 x5_1) _ _ (rd_L6 l1 x5_1) true _ ?side1 ?side2 ?side3 ?side4 A7.out).mono ?_); (case side1 => repeat (first | exact HR169_0.out | (with_reducible refine Kd.C_alloc ?_ _) | (with_reducible refine Kd.C_drewN ?_ _) | (with_reducible refine Kd.C_drew ?_))); (case side2 => exact HC169_0.out); (case side3 => repeat (first | exact HR170_0.out | (with_reducible refine Kd.C_alloc ?_ _) | (with_reducible refine Kd.C_drewN ?_ _) | (with_reducible refine Kd.C_drew ?_))); (case side4 => exact HC170_0.out); rintro e w' ⟨rfl, ⟨nd, rfl⟩⟩; (try first | exact ⟨rfl, _, World.drewN_drewN _ _ _⟩ | exact ⟨rfl, _, Eq.trans (World.drewN_drewN _ _ _) (congrArg (World.drewN _) (Nat.add_assoc _ _ _))⟩))))
        go_roundg k1
        case measure => have := HK1.out; omega
        case rel => exact ⟨(wrap64 (x5_1 + 1)), (by first | rfl | (simp; done) | (simp [*]; done)), H', ⟨by have := HK1.out; omega⟩, by repeat (first | exact Drawn0.refl _ | apply Drawn0.step)⟩
       ·replace c8 := Bool.eq_false_iff.mpr c8
        subst c8
        have H1 : (some false) = some r := by rw [if_neg (show ¬ (false = true) by decide)] at H; exact H
        clear H
        have H := H1
        clear H1
        obtain rfl := Option.some.inj H
        have p169 : 0 ≤ (x5_1 : Int) := of_decide_eq_true (by first | (with_reducible assumption) | assumption)
        have q169 : x5_1 < (l0.length : Int) := of_decide_eq_true (by first | (with_reducible assumption) | assumption)
        obtain ⟨ad169, A169_0, c169_0, e169, hx169_0, hl169_0, hi169_0⟩ := at_L6 HR0.out x5_1 p169 q169
        cases e169
        have HR169_0 := am hi169_0
        have HC169_0 := am hl169_0
        clear hi169_0 hl169_0
        replace p169 := eq_true p169
        replace q169 := eq_true q169
        have p170 : 0 ≤ (x5_1 : Int) := of_decide_eq_true (by first | (with_reducible assumption) | assumption)
        have q170 : x5_1 < (l1.length : Int) := of_decide_eq_true (by first | (with_reducible assumption) | assumption)
        obtain ⟨ad170, A170_0, c170_0, e170, hx170_0, hl170_0, hi170_0⟩ := at_L6 HR1.out x5_1 p170 q170
        cases e170
        have HR170_0 := am hi170_0
        have HC170_0 := am hl170_0
        clear hi170_0 hl170_0
        replace p170 := eq_true p170
        replace q170 := eq_true q170
        go_wp2_with (first | (go_at_call 108; (with_reducible refine (estreatref14_Same.calls k1 _ _ (rd_L6 l0 x5_1) _ _ (rd_L6 l1 x5_1) false _ ?side1 ?side2 ?side3 ?side4 A7.out).mono ?_); (case side1 => repeat (first | exact HR169_0.out | (with_reducible refine Kd.C_alloc ?_ _) | (with_reducible refine Kd.C_drewN ?_ _) | (with_reducible refine Kd.C_drew ?_))); (case side2 => exact HC169_0.out); (case side3 => repeat (first | exact HR170_0.out | (with_reducible refine Kd.C_alloc ?_ _) | (with_reducible refine Kd.C_drewN ?_ _) | (with_reducible refine Kd.C_drew ?_))); (case side4 => exact HC170_0.out); rintro e w' ⟨rfl, ⟨nd, rfl⟩⟩; (try first | exact ⟨rfl, _, World.drewN_drewN _ _ _⟩ | exact ⟨rfl, _, Eq.trans (World.drewN_drewN _ _ _) (congrArg (World.drewN _) (Nat.add_assoc _ _ _))⟩)))
        repeat (go_quiet (first | (go_at_call 108; (with_reducible refine (estreatref14_Same.calls k1 _ _ (rd_L6 l0 x5_1) _ _ (rd_L6 l1 x5_1) false _ ?side1 ?side2 ?side3 ?side4 A7.out).mono ?_); (case side1 => repeat (first | exact HR169_0.out | (with_reducible refine Kd.C_alloc ?_ _) | (with_reducible refine Kd.C_drewN ?_ _) | (with_reducible refine Kd.C_drew ?_))); (case side2 => exact HC169_0.out); (case side3 => repeat (first | exact HR170_0.out | (with_reducible refine Kd.C_alloc ?_ _) | (with_reducible refine Kd.C_drewN ?_ _) | (with_reducible refine Kd.C_drew ?_))); (case side4 => exact HC170_0.out); rintro e w' ⟨rfl, ⟨nd, rfl⟩⟩; (try first | exact ⟨rfl, _, World.drewN_drewN _ _ _⟩ | exact ⟨rfl, _, Eq.trans (World.drewN_drewN _ _ _) (congrArg (World.drewN _) (Nat.add_assoc _ _ _))⟩))); try go_wp2_with (first | (go_at_call 108; (with_reducible refine (estreatref14_Same.calls k1 _ _ (rd_L6 l0 x5_1) _ _ (rd_L6 l1 x5_1) false _ ?side1 ?side2 ?side3 ?side4 A7.out).mono ?_); (case side1 => repeat (first | exact HR169_0.out | (with_reducible refine Kd.C_alloc ?_ _) | (with_reducible refine Kd.C_drewN ?_ _) | (with_reducible refine Kd.C_drew ?_))); (case side2 => exact HC169_0.out); (case side3 => repeat (first | exact HR170_0.out | (with_reducible refine Kd.C_alloc ?_ _) | (with_reducible refine Kd.C_drewN ?_ _) | (with_reducible refine Kd.C_drew ?_))); (case side4 => exact HC170_0.out); rintro e w' ⟨rfl, ⟨nd, rfl⟩⟩; (try first | exact ⟨rfl, _, World.drewN_drewN _ _ _⟩ | exact ⟨rfl, _, Eq.trans (World.drewN_drewN _ _ _) (congrArg (World.drewN _) (Nat.add_assoc _ _ _))⟩))))
        go_ret
        exact ⟨by first | rfl | (simp; done) | (simp [*]; done), by repeat (first | exact Drawn0.refl _ | apply Drawn0.step)⟩
      ·rw [if_neg c6] at H
       exact absurd H (by simp)
     ·rw [if_neg c5] at H
      exact absurd H (by simp)
    ·rw [if_neg c4] at H
     have c4b0 : decide (x5_1 < (l0.length : Int)) = false := decide_eq_false c4
     clear c4
     obtain rfl := Option.some.inj H
     go_wp2
     repeat (go_quiet (fail); try go_wp2)
     go_ret
     exact ⟨by first | rfl | (simp; done) | (simp [*]; done), by repeat (first | exact Drawn0.refl _ | apply Drawn0.step)⟩
 ·rw [if_neg c3] at H
  have c3b0 : ((l0.length : Int) == (l1.length : Int)) = false := beq_eq_false_iff_ne.mpr c3
  have c3b1 : ((l0.length : Int) != (l1.length : Int)) = true := bne_iff_ne.mpr c3
  have c3b2 : (l0.length == l1.length) = false := by first | simpa using c3 | (simp at c3 ⊢; omega)
  obtain rfl := Option.some.inj H
  go_enter Tryz.func65, Tryz.ntmps65
  go_wp2
  repeat (go_quiet (fail); try go_wp2)
  go_ret
  exact ⟨by first | rfl | (simp; done) | (simp [*]; done), by repeat (first | exact Drawn0.refl _ | apply Drawn0.step)⟩
end
section
attribute [local go_sem] max2_int min2_int max_two min_two max_three min_three max_four min_four
theorem exec_load_mid {P : Program} {oi : Oper} {f : Operand → Value} {W : World} (ty : TypeId) (x : Operand) (ho : oi.op = .load ty x) (b o : Nat) (hx : f x = .pointer (some ⟨b, o, none⟩)) (cs : List Value) (d : TypeDesc) (hg : W.rangeAt b o cs)
  (hu : P.underlying ty = some d) (hd : d.isRow = true) (hi : (P.info? ty).map (·.size) = some cs.length) : (execOp f oi).run P W = .ok (.value (.agg cs.toArray)) W := by
 unfold execOp
 simp only [ho, hx, Instr.loadAt, Instr.sureAddr, Sem.run_bind, Sem.run_pure, Result.andThen_ok, run_loadVar_mid W b o ty cs d hg hu hd hi]
theorem ents_neq (W : World) : (binOp .neq 81 (.agg Tryz.zeroCells81) (.agg Tryz.zeroCells81)).run Tryz.prog W = .ok (.bool false) W := by kernel_rfl
set_option maxHeartbeats 4000000 in
set_option maxRecDepth 100000 in
theorem m_same (s cs e ce s' cs' e' ce' : Nat) (w : World) (hM : ManP w s cs e ce) (hM' : ManP w s' cs' e' ce') :
  Calls Tryz.prog 20 #[ManV s cs e ce, ManV s' cs' e' ce'] w fun ev w' => ev = .returned (.bool true) ∧ Below w.heap.size w w' := by
 have HM := am hM
 have HM' := am hM'
 have hne := ents_neq
 clear hM hM'
 unfold ManV
 go_enter Tryz.func20, Tryz.ntmps20
 go_wp2_with fail
 have hb1 : Below w.heap.size w (w.alloc (.cells (MCells 0 0 (.slice (some ⟨s, 0, none⟩) 1 cs) 1 (.slice (some ⟨e, 0, none⟩) 1 ce)) 27)) := below_alloc (Below.refl _ _) _
 have hs1 : (w.alloc (.cells (MCells 0 0 (.slice (some ⟨s, 0, none⟩) 1 cs) 1 (.slice (some ⟨e, 0, none⟩) 1 ce)) 27)).heap.size = w.heap.size + 1 := by simp
 have hx1 := heap_alloc_new w (.cells (MCells 0 0 (.slice (some ⟨s, 0, none⟩) 1 cs) 1 (.slice (some ⟨e, 0, none⟩) 1 ce)) 27)
 have hb2 : Below (w.heap.size + 1) (w.alloc (.cells (MCells 0 0 (.slice (some ⟨s, 0, none⟩) 1 cs) 1 (.slice (some ⟨e, 0, none⟩) 1 ce)) 27)) ((w.alloc (.cells (MCells 0 0 (.slice (some ⟨s, 0, none⟩) 1 cs) 1 (.slice (some ⟨e, 0, none⟩) 1 ce)) 27)).alloc (.cells (MCells 0 0 (.slice (some ⟨s', 0, none⟩) 1 cs') 1 (.slice (some ⟨e', 0, none⟩) 1 ce')) 27)) := hs1 ▸ below_alloc (Below.refl _ _) _
 have hx2 := heap_alloc_new (w.alloc (.cells (MCells 0 0 (.slice (some ⟨s, 0, none⟩) 1 cs) 1 (.slice (some ⟨e, 0, none⟩) 1 ce)) 27)) (.cells (MCells 0 0 (.slice (some ⟨s', 0, none⟩) 1 cs') 1 (.slice (some ⟨e', 0, none⟩) 1 ce')) 27)
 rw [hs1] at hx2
 have hbb : Below w.heap.size w ((w.alloc (.cells (MCells 0 0 (.slice (some ⟨s, 0, none⟩) 1 cs) 1 (.slice (some ⟨e, 0, none⟩) 1 ce)) 27)).alloc (.cells (MCells 0 0 (.slice (some ⟨s', 0, none⟩) 1 cs') 1 (.slice (some ⟨e', 0, none⟩) 1 ce')) 27)) := hb1.trans (hb2.mono (by omega))
 have H1 := am ((hb2.block w.heap.size (by omega)).trans hx1)
 have H2 := am hx2
 have HBB := am hbb
 have HA := am (HM.out.below hbb)
 have HA' := am (HM'.out.below hbb)
 clear hb1 hs1 hx1 hb2 hx2 hbb
 generalize (w.alloc (.cells (MCells 0 0 (.slice (some ⟨s, 0, none⟩) 1 cs) 1 (.slice (some ⟨e, 0, none⟩) 1 ce)) 27)).alloc (.cells (MCells 0 0 (.slice (some ⟨s', 0, none⟩) 1 cs') 1 (.slice (some ⟨e', 0, none⟩) 1 ce')) 27) = W0 at *
 have p0 : W0.cell? ⟨w.heap.size, 0, none⟩ = some (.int .i64 0) := blk_cell H1.out 0
 have q0 : W0.cell? ⟨w.heap.size + 1, 0, none⟩ = some (.int .i64 0) := blk_cell H2.out 0
 have p1 : W0.cell? ⟨w.heap.size, 1, none⟩ = some (.int .i64 0) := blk_cell H1.out 1
 have q1 : W0.cell? ⟨w.heap.size + 1, 1, none⟩ = some (.int .i64 0) := blk_cell H2.out 1
 have p2 : W0.cell? ⟨w.heap.size, 2, none⟩ = some (.slice (some ⟨s, 0, none⟩) 1 cs) := blk_cell H1.out 2
 have q2 : W0.cell? ⟨w.heap.size + 1, 2, none⟩ = some (.slice (some ⟨s', 0, none⟩) 1 cs') := blk_cell H2.out 2
 have p3 : W0.cell? ⟨w.heap.size, 3, none⟩ = some (.int .i64 1) := blk_cell H1.out 3
 have q3 : W0.cell? ⟨w.heap.size + 1, 3, none⟩ = some (.int .i64 1) := blk_cell H2.out 3
 have p4 : W0.cell? ⟨w.heap.size, 4, none⟩ = some (.slice none 0 0) := blk_cell H1.out 4
 have q4 : W0.cell? ⟨w.heap.size + 1, 4, none⟩ = some (.slice none 0 0) := blk_cell H2.out 4
 have p5 : W0.cell? ⟨w.heap.size, 5, none⟩ = some (.slice none 0 0) := blk_cell H1.out 5
 have q5 : W0.cell? ⟨w.heap.size + 1, 5, none⟩ = some (.slice none 0 0) := blk_cell H2.out 5
 have p6 : W0.cell? ⟨w.heap.size, 6, none⟩ = some (.slice (some ⟨e, 0, none⟩) 1 ce) := blk_cell H1.out 6
 have q6 : W0.cell? ⟨w.heap.size + 1, 6, none⟩ = some (.slice (some ⟨e', 0, none⟩) 1 ce') := blk_cell H2.out 6
 refine (estreatref15_SameSchema.calls 5 (some ⟨s, 0, none⟩) cs [⟨1, false, -1⟩] (some ⟨s', 0, none⟩) cs' [⟨1, false, -1⟩] true W0 HA.out.2.2.1 HA.out.1 HA'.out.2.2.1 HA'.out.1 (by decide +kernel)).mono ?_
 rintro ev w1 ⟨rfl, ⟨n1, rfl⟩⟩
 go_wp2_with fail
 refine (estreatref15_SameRows.calls 5 none 0 [] none 0 [] true (W0.drewN n1) ⟨rfl, by decide, fun h => absurd h (by decide)⟩ (Nat.le_refl _) ⟨rfl, by decide, fun h => absurd h (by decide)⟩ (Nat.le_refl _) (by decide +kernel)).mono ?_
 rintro ev w1 ⟨rfl, ⟨n2, rfl⟩⟩
 go_wp2_with fail
 refine wp_loop_rounds 1 ?_
 rw [rounds_succ]
 go_wp2_with fail
 refine wp_loop_rounds 2 ?_
 rw [rounds_succ]
 go_wp2_with fail
 have hE1 := HA.out.2.2.2
 have hE2 := HA'.out.2.2.2
 refine start_ (n := 11) (S := fun w' => w'.cell? ⟨w.heap.size, 6, none⟩ = some (.slice (some ⟨e, 0, none⟩) 1 ce) ∧ w'.cell? ⟨w.heap.size + 1, 6, none⟩ = some (.slice (some ⟨e', 0, none⟩) 1 ce') ∧ w'.rangeAt e 0 Tryz.zeroCells81.toList ∧ w'.rangeAt e' 0 Tryz.zeroCells81.toList) (ds := []) #[false, false, false, false, false, false, false, false, false, false, false] (by kernel_rfl) rfl rfl ⟨p6, q6, hE1, hE2⟩ (fun hHeld => ?_)
 refine pu 0 (some 119) ?_ ?_ ?_ ?_ ?_
 rotate_left 2
 ·intro w'
  go_simp
  with_reducible rfl
 ·simp only [Act.put, sA1, sA2, sA3, i64_w, i32_w]
  rfl
 refine pu 2 (some 121) ?_ ?_ ?_ ?_ ?_
 rotate_left 2
 ·intro w'
  go_simp
  with_reducible rfl
 ·simp only [Act.put, sA1, sA2, sA3, i64_w, i32_w]
  rfl
 refine pu 5 (some 124) ?_ ?_ ?_ ?_ ?_
 rotate_left 2
 ·intro w'
  go_simp
  with_reducible rfl
 ·simp only [Act.put, sA1, sA2, sA3, i64_w, i32_w]
  rfl
 refine pu 7 (some 126) ?_ ?_ ?_ ?_ ?_
 rotate_left 2
 ·intro w'
  go_simp
  with_reducible rfl
 ·simp only [Act.put, sA1, sA2, sA3, i64_w, i32_w]
  rfl
 refine tk 1 (some 120) ?_ ?_ hHeld ?_ ?_ ?_
 rotate_left 2
 ·rintro w' ⟨s0, s1, s2, s3⟩
  go_simp
  with_reducible rfl
 ·simp only [Act.put, sA1, sA2, sA3, i64_w, i32_w]
  rfl
 refine pu 3 (some 122) ?_ ?_ ?_ ?_ ?_
 rotate_left 2
 ·intro w'
  go_simp
  with_reducible rfl
 ·simp only [Act.put, sA1, sA2, sA3, i64_w, i32_w]
  rfl
 refine tk 4 (some 123) ?_ ?_ hHeld ?_ ?_ ?_
 rotate_left 2
 ·rintro w' ⟨s0, s1, s2, s3⟩
  show _ = Result.ok (Next.value (.agg Tryz.zeroCells81)) w'
  refine exec_load_mid 81 (.tmp 122) ?_ e 0 ?_ Tryz.zeroCells81.toList _ s2 Tryz.underlying81 rfl ?_
  ·rfl
  ·rfl
  ·kernel_rfl
 ·simp only [Act.put, sA1, sA2, sA3, i64_w, i32_w]
  rfl
 refine tk 6 (some 125) ?_ ?_ hHeld ?_ ?_ ?_
 rotate_left 2
 ·rintro w' ⟨s0, s1, s2, s3⟩
  go_simp
  with_reducible rfl
 ·simp only [Act.put, sA1, sA2, sA3, i64_w, i32_w]
  rfl
 refine pu 8 (some 127) ?_ ?_ ?_ ?_ ?_
 rotate_left 2
 ·intro w'
  go_simp
  with_reducible rfl
 ·simp only [Act.put, sA1, sA2, sA3, i64_w, i32_w]
  rfl
 refine tk 9 (some 128) ?_ ?_ hHeld ?_ ?_ ?_
 rotate_left 2
 ·rintro w' ⟨s0, s1, s2, s3⟩
  show _ = Result.ok (Next.value (.agg Tryz.zeroCells81)) w'
  refine exec_load_mid 81 (.tmp 127) ?_ e' 0 ?_ Tryz.zeroCells81.toList _ s3 Tryz.underlying81 rfl ?_
  ·rfl
  ·rfl
  ·kernel_rfl
 ·simp only [Act.put, sA1, sA2, sA3, i64_w, i32_w]
  rfl
 refine pu 10 (some 129) ?_ ?_ ?_ ?_ ?_
 rotate_left 2
 ·intro w'
  go_simp
  with_reducible rfl
 ·simp only [Act.put, sA1, sA2, sA3, i64_w, i32_w]
  rfl
 refine done_ (by kernel_rfl) ?_
 clear hE1 hE2
 go_wp2_with fail
 rw [rounds_succ]
 go_wp2_with fail
 go_ret
 exact ⟨rfl, by repeat (first | (with_reducible first | exact HBB.out | apply below_alloc | apply pw_below_drewN | apply below_drew1) | exact HBB.out)⟩
end
section
structure App (w0 w : World) (u : Value) (l : List Int) : Prop where
 bel : Below w0.heap.size w0 w
 own : Kd.R (Kd.int .u8) 5 w w0.heap.size (fun _ => True) u l
theorem App.below {w0 w w1 : World} {u : Value} {l : List Int} (h : App w0 w u l) (hb : Below w.heap.size w w1) : App w0 w1 u l := ⟨h.bel.trans (hb.mono h.bel.size), Kd.R_below h.own hb⟩
theorem App.slice {w0 w : World} {u : Value} {l : List Int} (h : App w0 w u l) : ∃ A c, u = .slice A l.length c := Kd.R_slice h.own
abbrev Stay (w w' : World) (u : Value) : Prop := Kept w w' (fun k => u.ownBlock = some k)
theorem Stay.block {w0 w w' : World} {u : Value} {l : List Int} (h : App w0 w u l) (hs : Stay w w' u) {g : Nat} {c : Array Value} {t : TypeId} (hg : w.heap[g]? = some (.cells c t (0, 0))) (ht : t ≠ 5) : w'.heap[g]? = some (.cells c t (0, 0)) := by
 rw [hs.2 g (blk_lt hg) ?_, hg]
 intro hk
 obtain ⟨_, inner, ho, _⟩ := h.own
 obtain ⟨cells, hc⟩ := own_typed ho g hk
 rw [hg] at hc
 injection hc with hc
 injection hc with h1 h2 h3
 exact ht h2
theorem Stay.old {w w' w1 : World} {u : Value} (hs : Stay w w' u) (hb : Below w'.heap.size w' w1) : Stay w w1 u := Kept.below hs hb
structure Grew (w w' : World) (u v : Value) : Prop where
 kept : Stay w w' u
 own : ∀ k, v.ownBlock = some k → u.ownBlock = some k ∨ w.heap.size ≤ k
theorem Grew.refl (w : World) (u : Value) : Grew w w u u := ⟨Kept.refl _ _, fun _ h => .inl h⟩
theorem Grew.trans {w w1 w2 : World} {u v1 v2 : Value} (h1 : Grew w w1 u v1) (h2 : Grew w1 w2 v1 v2) : Grew w w2 u v2 :=
 ⟨Kept.then_ h1.kept h2.kept (fun k hk => h1.own k hk), fun k hk => (h2.own k hk).elim (fun h => h1.own k h) (fun h => .inr (Nat.le_trans h1.kept.1 h))⟩
theorem Grew.below {w w1 w2 : World} {u v1 : Value} (h1 : Grew w w1 u v1) (hb : Below w1.heap.size w1 w2) : Grew w w2 u v1 := ⟨Kept.below h1.kept hb, h1.own⟩
theorem Stay.C {w w' : World} {u : Value} (hs : Stay w w' u) {b n : Nat} {o : Nat} {ys : List Int} (hn : u.ownBlock ≠ some b) (hb : b < w.heap.size) (h : Kd.C (Kd.int .u8) w (some ⟨b, o, none⟩) n ys) : Kd.C (Kd.int .u8) w' (some ⟨b, o, none⟩) n ys := by
 refine ⟨h.1, h.2.1, fun hn0 => ?_⟩
 obtain ⟨ad, e, hc⟩ := h.2.2 hn0
 refine ⟨ad, e, fun j p hj => ?_⟩
 obtain ⟨c, h1, h2, h3⟩ := hc j p hj
 refine ⟨c, h1, h2, fun i u hu => ?_⟩
 obtain rfl := Option.some.inj e
 rw [← h3 i u hu, Addr.add_mid]
 unfold World.cell?
 rw [hs.2 b hb hn]
end
section
def ValOk (v : S68) : Prop := (-9223372036854775808 ≤ v.f1 ∧ v.f1 ≤ 9223372036854775807) ∧ v.f2.size < 1000000000
end
section
structure ColOk (c : CH) : Prop where
 n0 : 0 ≤ c.z.f0
 n1 : c.z.f0 < 18446744073709551616
 mn : ValOk c.z.f2
 mx : ValOk c.z.f3
 h : c.h.length = 32
structure HdOk (x : Hd) : Prop where
 r0 : 0 ≤ x.rows
 r1 : x.rows < 18446744073709551616
 l0 : 0 ≤ x.live
 l1 : x.live < 18446744073709551616
 d : x.dead.length = 32
 c : ∀ c ∈ x.cols, ColOk c
end
section
structure MnOk (m : Mn) : Prop where
 l : ∀ r ∈ m.loose, ∀ v ∈ r, ValOk v
 g : ∀ g ∈ m.groups, ∀ c ∈ g.hd.cols, ValOk c.z.f2 ∧ ValOk c.z.f3
theorem C_each {α : Type} {d : Kd α} {w : World} {A : Option Addr} {xs : List α} (h : d.C w A xs.length xs) (x : α) (hx : x ∈ xs) (hs : 0 < d.sz) : ∃ cs, d.K w x cs := by
 obtain ⟨i, hi, rfl⟩ := List.getElem_of_mem hx
 obtain ⟨b, o, cs, _, hK, _⟩ := C_mid h xs[i] i hi hs
 rw [List.getD_eq_getElem?_getD, List.getElem?_eq_getElem hi] at hK
 exact ⟨cs, hK⟩
theorem zoneP_nulls {z : S70} {rows kind : Int} (h : zoneP z rows kind = true) : 0 ≤ z.f0 ∧ z.f0 ≤ rows := by
 unfold zoneP at h
 by_cases h1 : z.f0 < 0
 ·rw [if_pos h1] at h; cases h
 ·by_cases h2 : z.f0 > rows
  ·rw [if_neg h1, if_pos h2] at h; cases h
  ·omega
theorem colsP_all {rows : Int} : ∀ {l : List CH} {s : List S123}, l.length = s.length → colsP rows l s = true → ∀ c ∈ l, 0 ≤ c.z.f0 ∧ c.z.f0 ≤ rows
 | [], _, _, _, c, hc => by simp at hc
 | c0 :: l, [], e, _, c, hc => by simp at e
 | c0 :: l, s0 :: s, e, h, c, hc => by
  rw [colsP] at h
  by_cases hz : zoneP c0.z rows s0.f0 = true
  ·rw [if_pos hz] at h
   have h2 : colsP rows l s = true := by
    by_cases hn : c0.z.f0 > 0
    ·rw [if_pos hn] at h
     by_cases hs : s0.f1 = true
     ·rw [if_pos hs] at h; exact h
     ·rw [if_neg hs] at h; cases h
    ·rw [if_neg hn] at h; exact h
   rcases List.mem_cons.1 hc with rfl | hc
   ·exact zoneP_nulls hz
   ·exact colsP_all (by simpa using e) h2 c hc
  ·rw [if_neg hz] at h; cases h
theorem soundP_facts {x : Hd} {s : List S123} (h : soundP x s = true) : 1 ≤ x.rows ∧ x.rows ≤ 65536 ∧ 0 ≤ x.live ∧ x.live ≤ x.rows ∧ x.cols.length = s.length ∧ ∀ c ∈ x.cols, 0 ≤ c.z.f0 ∧ c.z.f0 ≤ x.rows := by
 unfold soundP at h
 by_cases h1 : x.rows < 1
 ·rw [if_pos h1] at h; cases h
 rw [if_neg h1] at h
 by_cases h2 : x.rows > 65536
 ·rw [if_pos h2] at h; cases h
 rw [if_neg h2] at h
 by_cases h3 : x.live < 0
 ·rw [if_pos h3] at h; cases h
 rw [if_neg h3] at h
 by_cases h4 : x.live > x.rows
 ·rw [if_pos h4] at h; cases h
 rw [if_neg h4] at h
 by_cases h5 : (x.cols.length : Int) = (s.length : Int)
 ·rw [if_pos h5] at h
  exact ⟨by omega, by omega, by omega, by omega, by omega, colsP_all (by omega) h⟩
 ·rw [if_neg h5] at h; cases h
theorem groupsL_all {next most : Int} {s : List S123} : ∀ {l : List Rf}, groupsL next most s l = 0 → ∀ g ∈ l, 0 ≤ g.id ∧ g.id ≤ next - 1 ∧ soundP g.hd s = true ∧ (g.dead.length : Int) ≤ 65536
 | [], _, g, hg => by simp at hg
 | g0 :: l, h, g, hg => by
  rw [groupsL] at h
  by_cases h1 : 0 ≤ g0.id ∧ g0.id ≤ next - 1
  ·rw [if_pos h1] at h
   by_cases h2 : soundP g0.hd s = true ∧ g0.hd.rows ≤ most ∧ (g0.dead.length : Int) ≤ 65536
   ·rw [if_pos h2] at h
    rcases List.mem_cons.1 hg with rfl | hg
    ·exact ⟨h1.1, h1.2, h2.1, h2.2.2⟩
    ·exact groupsL_all h g hg
   ·rw [if_neg h2] at h; cases h
  ·rw [if_neg h1] at h; cases h
structure Right (m : Mn) : Prop where
 s : schemaP m.schema = 0
 gen : 0 ≤ m.gen ∧ m.gen ≤ 1099511627776
 next : 0 ≤ m.next ∧ m.next ≤ 1099511627776
 most : 1 ≤ m.most ∧ m.most ≤ 65536
 gn : (m.groups.length : Int) ≤ 1048576
 g : groupsL m.next m.most m.schema m.groups = 0
 l : looseL m.schema m.loose = 0
 ln : (m.loose.length : Int) < m.most
 en : m.entries ≠ []
 e : entriesL m.entries = 0
theorem Right.hd {m : Mn} (hr : Right m) (hok : MnOk m) {w : World} {Ag : Option Addr} (hg : kRf.C w Ag m.groups.length m.groups) (g : Rf) (hm : g ∈ m.groups) : HdOk g.hd := by
 obtain ⟨cs, hK⟩ := C_each hg g hm (by decide)
 obtain ⟨A, c, B, d, rfl, h32, hc, hC, hd, hD⟩ := kRf_open hK
 obtain ⟨h1, h2, h3, h4⟩ := groupsL_all hr.g g hm
 obtain ⟨a1, a2, a3, a4, a5, a6⟩ := soundP_facts h3
 refine ⟨by omega, by omega, by omega, by omega, h32, fun c hc => ?_⟩
 obtain ⟨cs, hK⟩ := C_each hC c hc (by decide)
 obtain ⟨_, hh⟩ := kCH_open hK
 obtain ⟨v1, v2⟩ := hok.g g hm c hc
 exact ⟨(a6 c hc).1, by have := (a6 c hc).2; omega, v1, v2, hh⟩
theorem range_below {w w1 : World} {b o : Nat} {cs : List Value} (h : w.rangeAt b o cs) (hb : Below w.heap.size w w1) : w1.rangeAt b o cs := fun j v hv => pw_cell_below hb (h j v hv)
end
end Go.Proofs.YtjmhiklmlgbifaaGreatDoor.PMan
