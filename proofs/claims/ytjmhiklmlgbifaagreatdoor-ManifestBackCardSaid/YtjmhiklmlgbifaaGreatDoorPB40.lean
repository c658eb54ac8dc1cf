/- Texts of this proof, put into one, without what it does not use: MuM, MuN, MyA, MyB. -/
import Derived.Test.YtjmhiklmlgbifaaGreatDoorPB16
import Derived.Test.YtjmhiklmlgbifaaGreatDoorPB39
import Derived.Test.YtjmhiklmlgbifaaGreatDoorPB24
import Derived.DeepKeys
import Derived.Test.YtjmhiklmlgbifaaGreatDoorPB26
section
namespace Go.Proofs.YtjmhiklmlgbifaaGreatDoor.PMan
open Go.RowKit Go.Proofs.YtjmhiklmlgbifaaGreatDoorW.PrintWords Go.Proofs.YtjmhiklmlgbifaaGreatDoorW.PrintLast Go.Proofs.YtjmhiklmlgbifaaGreatDoorW.PrintMore
set_option linter.unusedVariables false
set_option linter.unusedSimpArgs false
section
open Go.Extern.Stop Go.Stop Go.Extern
theorem is_noIsM (v : Value) (xT : TypeId) (w : World) : (Instr.typeAssert (.iface 156 v) xT 196 true).run Tryz.prog w = .ok (.tuple #[.nilIface, .bool false]) w := run_typeAssert_lacksB Tryz.underlying196 (by kernel_rfl) (by kernel_rfl) v xT w
theorem is_unwrapM (v : Value) (xT : TypeId) (w : World) : (Instr.typeAssert (.iface 156 v) xT 199 true).run Tryz.prog w = .ok (.tuple #[.iface 156 v, .bool true]) w := run_typeAssert_hasB Tryz.underlying199 (by kernel_rfl) v xT w
theorem is_methodUnwrapM (v : Value) (w : World) : (Go.method 366 156 v "Unwrap").run Tryz.prog w = .ok (179, v) w := by kernel_rfl
set_option maxHeartbeats 4000000 in
/-- errors.Is(bad{a}, ErrForm). -/
theorem is_bad (a : Int) (w : World) :
    Calls Tryz.prog 55 #[.iface 156 (.agg #[.int .i64 a]), .iface 31 (.int .i64 4)] w fun e w' => e = .returned (.bool true) ∧ Below w.heap.size w w' := by
  have hto := @run_callFunc_extern Tryz.prog 97 _ ReflectliteType.typeOf Tryz.func97 (by kernel_rfl) (by kernel_rfl) (by kernel_rfl) (by kernel_rfl)
  have hcm := @run_callFunc_extern Tryz.prog 186 _ (ReflectliteType.method fun t => do Rtype.noPackHeld "Comparable" t; pure (.bool (← typeInfo t).comparable)) Tryz.func186 (by kernel_rfl) (by kernel_rfl) (by kernel_rfl) (by kernel_rfl)
  have tT := is_typeOf
  have cT := is_comparable
  have mR := is_methodComparable
  have nE := is_noIsE
  have uE := is_noUnwrapE
  have vE := is_noUnwrapsE
  have nB := is_noIsM
  have uB := is_unwrapM
  have mU := is_methodUnwrapM
  have hq : ∀ w : World, (binOp .eql 100 (.iface 31 (.int .i64 4)) (.iface 31 (.int .i64 4))).run Tryz.prog w = .ok (.bool true) w := fun w => is_eqE 4 4 w
  have hty := fun (v : Value) (w : World) => run_eql_iface_types (P := Tryz.prog) 156 31 v (.int .i64 4) Tryz.underlying100 (by decide) w
  go_enter Tryz.func55, Tryz.ntmps55
  go_wp2
  refine wp_loop_rounds 2 ?_
  rw [rounds_succ]
  go_wp2
  rw [rounds_succ]
  go_wp2
  go_ret
  exact ⟨rfl, by first | exact below_alloc (Below.refl _ _) _ | exact Below.refl _ _⟩
end
end Go.Proofs.YtjmhiklmlgbifaaGreatDoor.PMan
end
section
namespace Go.Proofs.YtjmhiklmlgbifaaGreatDoor.PMan
open Go.RowKit Go.Proofs.YtjmhiklmlgbifaaGreatDoorW.PrintWords Go.Proofs.YtjmhiklmlgbifaaGreatDoorW.PrintLast Go.Proofs.YtjmhiklmlgbifaaGreatDoorW.PrintMore
attribute [local go_sem] max2_int min2_int max_two min_two
set_option linter.unusedVariables false
set_option linter.unusedSimpArgs false
theorem colsQ_len {s0 : List Int} : ∀ (n : Nat) (l : List S123) (q : St), (colsQ s0 n l q).1.length ≤ l.length + n
  | 0, l, q => Nat.le_refl _
  | n + 1, l, q => by
    rw [colsQ]
    split
    · refine Nat.le_trans (colsQ_len n _ _) ?_
      rw [List.length_append, List.length_singleton]
      omega
    · show l.length ≤ l.length + (n + 1)
      omega
theorem schQ_len {s0 : List Int} {q : St} (h : In s0 q) : (schQ s0 q).1.length ≤ 1000000 := by
  have hr := fixQ_range h
  have hl := colsQ_len (s0 := s0) (fixQ s0 q).1.toNat [] (fixQ s0 q).2
  rw [List.length_nil] at hl
  unfold schQ okL
  split
  · show (colsQ s0 (fixQ s0 q).1.toNat [] (fixQ s0 q).2).1.length ≤ _
    omega
  · simp
theorem takeQ_ok {s0 : List Int} {n : Int} {q : St} (h : (takeQ s0 n q).2.2.1 = 0) : q.2.1 = 0 ∧ (takeQ s0 n q).2.1 = q.1 + n := by
  unfold takeQ at h ⊢
  by_cases e : q.2.1 = 0
  · rw [if_pos e] at h ⊢
    by_cases e2 : (s0.length : Int) - q.1 < n
    · rw [if_pos e2] at h
      exact absurd h (show ¬ (2 : Int) = 0 by decide)
    · rw [if_neg e2]
      exact ⟨e, rfl⟩
  · rw [if_neg e] at h
    exact absurd h e
theorem varQ_ok {s0 : List Int} {q : St} (hi : In s0 q) (h : (varQ s0 q).2.2.1 = 0) : q.2.1 = 0 ∧ q.1 < (varQ s0 q).2.1 := by
  have hf := shortP_facts (s0.drop q.1.toNat) (hi.by_.drop _)
  unfold varQ varS at h ⊢
  by_cases e : q.2.1 = 0
  · rw [if_pos e] at h ⊢
    by_cases e2 : (shortP (s0.drop q.1.toNat)).2.2 = 0
    · rw [if_pos e2]
      obtain ⟨f1, f2, f3, f4⟩ := hf.2.2 e2
      exact ⟨e, show q.1 < q.1 + _ by omega⟩
    · rw [if_neg e2] at h
      exact absurd h e2
  · rw [if_neg e] at h
    exact absurd h e
theorem entQ_ok {s0 : List Int} {q : St} (hi : In s0 q) (h : (entQ s0 q).2.2.1 = 0) : q.2.1 = 0 ∧ q.1 + 64 < (entQ s0 q).2.1 := by
  have h0 : (entR s0 q).2.2.1 = 0 := h
  show _ ∧ q.1 + 64 < (entR s0 q).2.1
  unfold entR at h0 ⊢
  dsimp only at h0 ⊢
  by_cases e : (varQ s0 (hashQ s0 q).2).1 > 1048576
  · rw [if_pos e] at h0
    exact absurd h0 (failQ_ne _ (by decide))
  · rw [if_neg e] at h0 ⊢
    obtain ⟨a1, a2⟩ := takeQ_ok (s0 := s0) (n := 32) h0
    obtain ⟨b1, b2⟩ := varQ_ok (hashQ_in hi) a1
    obtain ⟨c1, c2⟩ := takeQ_ok (s0 := s0) (n := 32) b1
    refine ⟨c1, ?_⟩
    have a3 : (hashQ s0 (varQ s0 (hashQ s0 q).2).2).2.1 = (varQ s0 (hashQ s0 q).2).2.1 + 32 := a2
    have c3 : (hashQ s0 q).2.1 = q.1 + 32 := c2
    omega
theorem entsQ_len {s0 : List Int} : ∀ (n : Nat) (l : List En) (q : St), In s0 q → (entsQ s0 n l q).2.2.1 = 0 → ((entsQ s0 n l q).1.length : Int) + q.1 ≤ l.length + (entsQ s0 n l q).2.1
  | 0, l, q, _, _ => by show (l.length : Int) + q.1 ≤ l.length + q.1; omega
  | n + 1, l, q, hi, h => by
    rw [entsQ] at h ⊢
    by_cases e : q.2.1 = 0
    · rw [if_pos e] at h ⊢
      have e2 : (entQ s0 q).2.2.1 = 0 := by
        by_cases e3 : (entQ s0 q).2.2.1 = 0
        · exact e3
        · rw [entsQ_err e3] at h
          exact absurd h e3
      have h1 := (entQ_ok hi e2).2
      have h2 := entsQ_len n (l ++ [(entQ s0 q).1]) (entQ s0 q).2 (entQ_in hi) h
      rw [List.length_append, List.length_singleton] at h2
      omega
    · rw [if_neg e]
      show (l.length : Int) + q.1 ≤ l.length + q.1
      omega
theorem in0 {s0 : List Int} (hby : ByteL s0) (hl : s0.length < 1000000000) : In s0 q0 := ⟨hby, hl, Int.le_refl 0, Int.natCast_nonneg _⟩
theorem gen_in {s0 : List Int} (h : In s0 q0) : In s0 (mostQ s0).2 := numQ_in (numQ_in (numQ_in h))
theorem ng_in {s0 : List Int} (h : In s0 q0) : In s0 (mschQ s0).2 := schQ_in (gen_in h)
theorem ne_in {s0 : List Int} (h : In s0 q0) : In s0 (mrowQ s0).2 := takeRowsQ_in (grpsQ_in _ _ _ (numQ_in (ng_in h)))
theorem ent_le {s0 : List Int} (h : In s0 q0) (he : (mentQ s0).2.2.1 = 0) : (mentQ s0).1.length ≤ s0.length := by
  have h1 : In s0 (neQ s0).2 := numQ_in (ne_in h)
  have h2 := entsQ_len (neQ s0).1.toNat [] (neQ s0).2 h1 he
  have h3 : In s0 (mentQ s0).2 := entsQ_in _ _ _ h1
  have h4 := h1.lo
  have h5 := h3.hi
  have h6 : ((mentQ s0).1.length : Int) + (neQ s0).2.1 ≤ (0 : Nat) + (mentQ s0).2.1 := h2
  omega
theorem qRead (A0 : Option Addr) (c0 : Nat) (s0 : List Int) (w : World) (hr0 : Kd.C (Kd.int .u8) w A0 s0.length s0) (hc0 : s0.length ≤ c0) (hG : ErrT w) (hby : ByteL s0) (hlen : s0.length ≤ 1000000) :
    Calls Tryz.prog 54 #[.slice A0 s0.length c0] w fun e w' => ∃ m As cs Ag cg Al cl Ae ce ev, e = .returned (.tuple #[.agg (mnCells m As cs Ag cg Al cl Ae ce), ev]) ∧ ReadA w w' s0 m As cs Ag cg Al cl Ae ce ev (goodM s0) ∧ (goodM s0 → m = readM s0) := by
  have hi := in0 hby (show s0.length < 1000000000 by omega)
  exact read_core A0 c0 s0 w hr0 hc0 hG hby (by omega) (genQ s0).1 (nextQ s0).1 (mostQ s0).1 (ngQ s0).1 (neQ s0).1 (genQ s0).2 (nextQ s0).2 (mostQ s0).2 (mschQ s0).2 (ngQ s0).2 (mgrpQ s0).2 (mrowQ s0).2 (neQ s0).2 (mentQ s0).2 (mschQ s0).1 (mgrpQ s0).1 (mrowQ s0).1 (mentQ s0).1
    rfl rfl rfl rfl rfl rfl rfl rfl rfl (schQ_len (gen_in hi)) (fun he => Nat.le_trans (ent_le hi he) hlen) (numQ_range (by decide) (ng_in hi)) (numQ_range (by decide) (ne_in hi))
/-- What manifest.Take answers of a frame's answer. -/
def takeA (len : Int) (p : List Int) (n e : Int) : Mn × Int := if e = 0 then (if n < len then (zMn, 3) else if goodM p then (readM p, 0) else (zMn, 4)) else (zMn, e)
structure TakeA (w w' : World) (ev : Ending) (m : Mn) (ec : Int) : Prop where
  ex : ∃ As cs Ag cg Al cl Ae ce, ev = .returned (.tuple #[.agg (mnCells m As cs Ag cg Al cl Ae ce), .int .i64 ec]) ∧ MnC w' m As cs Ag cg Al cl Ae ce
  bel : Below w.heap.size w w'
theorem MnC_zero (w : World) : MnC w zMn none 0 none 0 none 0 none 0 := by
  have h : ∀ {α : Type} (d : Kd α) (e : Nat), Kd.C d w none ([] : List α).length [] := fun d e => (Kd.R_reads' (Kd.R_nil d e w 0 (fun _ => True))).2.2
  exact ⟨h k123 0, Nat.le_refl _, h kRf 0, Nat.le_refl _, h (Kd.slice 68 k68) 0, Nat.le_refl _, h kEn 0, Nat.le_refl _⟩
set_option maxHeartbeats 8000000 in
set_option maxRecDepth 100000 in
theorem qTakeM (A0 : Option Addr) (c0 : Nat) (b : List Int) (p : List Int) (n ec : Int) (w : World) (hr0 : Kd.C (Kd.int .u8) w A0 b.length b) (hc0 : b.length ≤ c0) (hG : ErrT w) (hf : frame_Get.f b = some (p, n, ec)) (hp : ec = 0 → ByteL p ∧ p.length ≤ 1000000) :
    Calls Tryz.prog 18 #[.slice A0 b.length c0] w fun ev w' => TakeA w w' ev (takeA b.length p n ec).1 (takeA b.length p n ec).2 := by
  have HR0 := Aside0.mk hr0
  have HC0 := Aside0.mk hc0
  have HG := Aside0.mk hG
  have HF := Aside0.mk hf
  have HP := Aside0.mk hp
  obtain ⟨r, hr⟩ : ∃ r, r = takeA b.length p n ec := ⟨_, rfl⟩
  rw [← hr]
  unfold takeA at hr
  have HRES := Aside0.mk hr
  clear hr0 hc0 hG hf hp hr
  go_enter Tryz.func18, Tryz.ntmps18
  go_wp2_with fail
  have hm0 : (w.alloc (.cells (MC 0 0 nilS 0 nilS nilS nilS) 27)).heap[w.heap.size]? = some (.cells (MC 0 0 nilS 0 nilS nilS nilS) 27 (0, 0)) := heap_alloc_new w _
  have hb0 : Below w.heap.size w (w.alloc (.cells (MC 0 0 nilS 0 nilS nilS nilS) 27)) := below_alloc (Below.refl _ _) _
  have HX0 := Aside0.mk hm0
  have HB0 := Aside0.mk hb0
  have HR1 := Aside0.mk (Kd.C_below HR0.out hb0)
  have HG0 := Aside0.mk (HG.out.of_below hb0)
  clear hm0 hb0
  generalize w.alloc (.cells (MC 0 0 nilS 0 nilS nilS nilS) 27) = W0 at *
  refine (frame_Get.calls A0 c0 b p n ec W0 HR1.out HC0.out HG0.out HF.out).mono ?_
  rintro e w1 ⟨v, rfl, hv, hb⟩
  obtain ⟨A, c, rfl⟩ := Kd.R_slice hv
  have HRD := Aside0.mk (Kd.R_reads' hv)
  have HX1 := Aside0.mk ((hb.block _ (blk_lt HX0.out)).trans HX0.out)
  have HB1 := Aside0.mk (below_then HB0.out HB0.out.size hb)
  have HG1 := Aside0.mk (HG0.out.of_below hb)
  clear hv hb HR0 HR1 HX0 HB0 HG0
  by_cases h0 : ec = 0
  · subst h0
    have e := HRES.out
    rw [if_pos rfl] at e
    by_cases hn : n < (b.length : Int)
    · rw [if_pos hn] at e
      have HRR := Aside0.mk e
      clear e
      go_wp2_with (first | (refine wpList_load_row rfl 27 (.tmp 2) rfl w.heap.size rfl 27 (MC 0 0 nilS 0 nilS nilS nilS) (0, 0) _ HX1.out Tryz.underlying27 rfl (by kernel_rfl) ?_) | (refine wpList_store_row rfl 27 (.tmp 2) (.tmp 23) rfl w.heap.size (MC 0 0 nilS 0 nilS nilS nilS) rfl rfl 27 (MC 0 0 nilS 0 nilS nilS nilS) HX1.out (by kernel_rfl) rfl (by kernel_rfl) ?_))
      rw [setRow_self w1 w.heap.size _ _ _ HX1.out]
      refine bodyPost_ret (v := .tuple #[.agg (MC 0 0 nilS 0 nilS nilS nilS), .int .i64 3]) (results_cr_tmp (p := 2) (u := 3) rfl _ _ w.heap.size 27 (MC 0 0 nilS 0 nilS nilS nilS) (0, 0) _ rfl HX1.out Tryz.underlying27 rfl (by kernel_rfl)) rfl ?_
      rw [HRR.out]
      exact ⟨⟨none, 0, none, 0, none, 0, none, 0, rfl, MnC_zero _⟩, HB1.out⟩
    · rw [if_neg hn] at e
      have HRR := Aside0.mk e
      obtain ⟨hpb, hpl⟩ := HP.out rfl
      have HRDM := Aside0.mk (qRead A c p w1 HRD.out.2.2 HRD.out.2.1 HG1.out hpb hpl)
      clear e hpb hpl
      go_wp2_with fail
      refine HRDM.out.mono ?_
      rintro e w2 ⟨m, As, cs, Ag, cg, Al, cl, Ae, ce, ev, rfl, hA, hM⟩
      have HX2 := Aside0.mk ((hA.bel.block _ (blk_lt HX1.out)).trans HX1.out)
      have HB2 := Aside0.mk (below_then HB1.out HB1.out.size hA.bel)
      have HA := Aside0.mk hA
      have HX3 := Aside0.mk (setRow_heap w2 w.heap.size _ (mnCells m As cs Ag cg Al cl Ae ce) _ _ HX2.out)
      have HB3 := Aside0.mk (m_belowRow' HB2.out w.heap.size (Nat.le_refl _) (mnCells m As cs Ag cg Al cl Ae ce))
      by_cases hgd : goodM p
      · have hev := hA.yes hgd
        have hmm := hM hgd
        have e := HRR.out
        rw [if_pos hgd] at e
        have HRG := Aside0.mk e
        subst hmm hev
        have HC3 := Aside0.mk (hA.c (w2.setRow w.heap.size (mnCells (readM p) As cs Ag cg Al cl Ae ce)) (fun k hk _ => setRow_other w2 w.heap.size k _ (by have := blk_lt HX1.out; omega)))
        clear hA hM hgd e
        go_wp2_with (refine wpList_store_row rfl 27 (.tmp 2) (.tmp 27) rfl w.heap.size (mnCells (readM p) As cs Ag cg Al cl Ae ce) rfl rfl 27 _ HX2.out (by kernel_rfl) rfl (by kernel_rfl) ?_)
        generalize w2.setRow w.heap.size (mnCells (readM p) As cs Ag cg Al cl Ae ce) = w3 at *
        refine (is_nil 4 w3).mono ?_
        rintro e w' ⟨rfl, rfl⟩
        go_wp2_with (first | (refine wpList_load_row rfl 27 (.tmp 2) rfl w.heap.size rfl 27 (mnCells (readM p) As cs Ag cg Al cl Ae ce) (0, 0) _ HX3.out Tryz.underlying27 rfl (by kernel_rfl) ?_) | (refine wpList_store_row rfl 27 (.tmp 2) (.tmp 33) rfl w.heap.size (mnCells (readM p) As cs Ag cg Al cl Ae ce) rfl rfl 27 (mnCells (readM p) As cs Ag cg Al cl Ae ce) HX3.out (by kernel_rfl) rfl (by kernel_rfl) ?_))
        rw [setRow_self w3 w.heap.size _ _ _ HX3.out]
        refine bodyPost_ret (v := .tuple #[.agg (mnCells (readM p) As cs Ag cg Al cl Ae ce), .int .i64 0]) (results_cr_tmp (p := 2) (u := 3) rfl _ _ w.heap.size 27 (mnCells (readM p) As cs Ag cg Al cl Ae ce) (0, 0) _ rfl HX3.out Tryz.underlying27 rfl (by kernel_rfl)) rfl ?_
        rw [HRG.out]
        exact ⟨⟨As, cs, Ag, cg, Al, cl, Ae, ce, rfl, HC3.out⟩, HB3.out⟩
      · obtain ⟨x, rfl⟩ := hA.no hgd
        have e := HRR.out
        rw [if_neg hgd] at e
        have HRG := Aside0.mk e
        clear hA hM hgd e
        go_wp2_with (refine wpList_store_row rfl 27 (.tmp 2) (.tmp 27) rfl w.heap.size (mnCells m As cs Ag cg Al cl Ae ce) rfl rfl 27 _ HX2.out (by kernel_rfl) rfl (by kernel_rfl) ?_)
        generalize w2.setRow w.heap.size (mnCells m As cs Ag cg Al cl Ae ce) = w3 at *
        refine (is_bad x w3).mono ?_
        rintro e w4 ⟨rfl, hb⟩
        have HX4 := Aside0.mk ((hb.block _ (blk_lt HX3.out)).trans HX3.out)
        have HB4 := Aside0.mk (below_then HB3.out HB3.out.size hb)
        clear hb
        go_wp2_with (refine wpList_store_row rfl 27 (.tmp 2) (.tmp 32) rfl w.heap.size (MC 0 0 nilS 0 nilS nilS nilS) rfl rfl 27 _ HX4.out (by kernel_rfl) rfl (by kernel_rfl) ?_)
        have HX5 := Aside0.mk (setRow_heap w4 w.heap.size _ (MC 0 0 nilS 0 nilS nilS nilS) _ _ HX4.out)
        have HB5 := Aside0.mk (m_belowRow' HB4.out w.heap.size (Nat.le_refl _) (MC 0 0 nilS 0 nilS nilS nilS))
        generalize w4.setRow w.heap.size (MC 0 0 nilS 0 nilS nilS nilS) = w5 at *
        refine bodyPost_ret (v := .tuple #[.agg (MC 0 0 nilS 0 nilS nilS nilS), .int .i64 4]) (results_cr_tmp (p := 2) (u := 3) rfl _ _ w.heap.size 27 (MC 0 0 nilS 0 nilS nilS nilS) (0, 0) _ rfl HX5.out Tryz.underlying27 rfl (by kernel_rfl)) rfl ?_
        rw [HRG.out]
        exact ⟨⟨none, 0, none, 0, none, 0, none, 0, rfl, MnC_zero _⟩, HB5.out⟩
  · have e := HRES.out
    rw [if_neg h0] at e
    have HRR := Aside0.mk e
    have hne : (ec != 0) = true := by simpa using h0
    clear e h0
    go_wp2_with (first | (refine wpList_load_row rfl 27 (.tmp 2) rfl w.heap.size rfl 27 (MC 0 0 nilS 0 nilS nilS nilS) (0, 0) _ HX1.out Tryz.underlying27 rfl (by kernel_rfl) ?_) | (refine wpList_store_row rfl 27 (.tmp 2) (.tmp 16) rfl w.heap.size (MC 0 0 nilS 0 nilS nilS nilS) rfl rfl 27 (MC 0 0 nilS 0 nilS nilS nilS) HX1.out (by kernel_rfl) rfl (by kernel_rfl) ?_))
    rw [setRow_self w1 w.heap.size _ _ _ HX1.out]
    refine bodyPost_ret (v := .tuple #[.agg (MC 0 0 nilS 0 nilS nilS nilS), .int .i64 ec]) (results_cr_tmp (p := 2) (u := 3) rfl _ _ w.heap.size 27 (MC 0 0 nilS 0 nilS nilS nilS) (0, 0) _ rfl HX1.out Tryz.underlying27 rfl (by kernel_rfl)) rfl ?_
    rw [HRR.out]
    exact ⟨⟨none, 0, none, 0, none, 0, none, 0, rfl, MnC_zero _⟩, HB1.out⟩
end Go.Proofs.YtjmhiklmlgbifaaGreatDoor.PMan
end
section
namespace Go.Proofs.YtjmhiklmlgbifaaGreatDoor.PMan
open Go.RowKit Go.Proofs.YtjmhiklmlgbifaaGreatDoorW.PrintWords Go.Proofs.YtjmhiklmlgbifaaGreatDoorW.PrintLast Go.Proofs.YtjmhiklmlgbifaaGreatDoorW.PrintMore
set_option linter.unusedVariables false
set_option linter.unusedSimpArgs false
/-- The field's value equals itself. -/
def Alike0 (d : Nat) (t : TypeId) (a : Value) : Prop := ∀ w : World, (Op.equalIn d t a a).run Tryz.prog w = .ok true w
def FieldsOk (d : Nat) (xs : Array Value) : List Field → Prop
  | [] => True
  | f :: fs => (∃ a, (∀ w : World, (part f.type xs f.offset).run Tryz.prog w = .ok a w) ∧ Alike0 d f.type a) ∧ FieldsOk d xs fs
theorem fields_self (d : Nat) (xs : Array Value) : ∀ (fs : List Field), FieldsOk d xs fs → ∀ w : World, (Op.eqFields d xs xs fs).run Tryz.prog w = .ok true w
  | [], _, w => by simp [Op.eqFields]
  | f :: fs, ⟨⟨a, h1, h2⟩, h3⟩, w => by
    have h4 := fields_self d xs fs h3 w
    have h5 := h2 w
    simp only [Op.eqFields]
    by_cases e : f.name ≠ "_"
    · rw [if_pos e]
      simp [h1, h5, h4]
    · rw [if_neg e]
      exact h4
theorem struct_self (d : Nat) (t : TypeId) (xs : Array Value) (fs : Array Field) (ht : Tryz.prog.underlying t = some (.struct fs)) (hp : Tryz.prog.stoodInHeld t = false) (hf : FieldsOk d xs fs.toList) : Alike0 (d + 1) t (.agg xs) := fun w => by
  have e : Tryz.prog.fieldsOf t = fs := by unfold Program.fieldsOf; rw [ht]
  rw [run_equalIn_struct w d t xs xs (by rw [e]; exact ht) hp, e]
  exact fields_self d xs _ hf w
theorem int_self (d : Nat) (t : TypeId) (k k' : IntKind) (a : Int) (h : Tryz.prog.underlying t = some (.int k')) : Alike0 (d + 1) t (.int k a) := fun w => by
  rw [run_equalIn_int w d t k k' a a h]
  simp
theorem bool_self (d : Nat) (t : TypeId) (a : Bool) (h : Tryz.prog.underlying t = some .bool) : Alike0 (d + 1) t (.bool a) := fun w => by
  rw [run_equalIn_bool' w d t a a h]
  simp
theorem string_self (d : Nat) (t : TypeId) (a : ByteArray) (h : Tryz.prog.underlying t = some .string) : Alike0 (d + 1) t (.string a) := fun w => by
  rw [run_equalIn_string w d t a a h]
  simp
theorem items_self (d : Nat) (xs : Array Value) : ∀ (is : List Nat), (∀ i, i ∈ is → ∃ n, xs[i]? = some (.int .u8 n)) → ∀ w : World, (Op.eqItems (d + 1) 5 1 xs xs is).run Tryz.prog w = .ok true w
  | [], _, w => by simp [Op.eqItems]
  | i :: is, h, w => by
    obtain ⟨n, hn⟩ := h i (List.mem_cons_self ..)
    have h1 := run_part_plain (P := Tryz.prog) w (e := 5) (by kernel_rfl) hn
    have h2 := int_self d 5 .u8 .u8 n Tryz.underlying5 w
    have h3 := items_self d xs is (fun j hj => h j (List.mem_cons_of_mem _ hj)) w
    simp only [Op.eqItems, Nat.mul_one, Sem.run_bind, h1, Result.andThen_ok, h2]
    simpa using h3
theorem hash_self (d : Nat) (f : Nat → Int) : Alike0 (d + 2) 61 (.agg (hashCells (HL f)).toArray) := fun w => by
  obtain ⟨i, hi⟩ := info_of_underlying Tryz.underlying5
  rw [run_equalIn_array (P := Tryz.prog) w (d + 1) _ _ Tryz.underlying61 hi]
  rw [show Tryz.prog.cellsOf 5 = 1 by kernel_rfl]
  refine items_self d _ _ (fun i hi => ?_) w
  have hi2 : i < 32 := List.mem_range.1 hi
  refine ⟨f i, ?_⟩
  simp [hashCells, HL, hi2]
theorem neq_self {t : TypeId} {xs : Array Value} (h : Alike0 10000 t (.agg xs)) (w : World) : (binOp .neq t (.agg xs) (.agg xs)).run Tryz.prog w = .ok (.bool false) w := by
  rw [run_neq_struct, h w]
  rfl
theorem neq61 (f : Nat → Int) (w : World) : (binOp .neq 61 (.agg (hashCells (HL f)).toArray) (.agg (hashCells (HL f)).toArray)).run Tryz.prog w = .ok (.bool false) w := neq_self (hash_self 9998 f) w
theorem neq81 (f : Nat → Int) (n : Int) (h : Nat → Int) (w : World) : (binOp .neq 81 (.agg (ET (HL f) n (HL h))) (.agg (ET (HL f) n (HL h)))).run Tryz.prog w = .ok (.bool false) w :=
  neq_self (struct_self 9999 81 _ _ Tryz.underlying81 (by kernel_rfl) ⟨⟨.agg (hashCells (HL f)).toArray, fun w => by kernel_rfl, hash_self 9997 f⟩, ⟨.int .i64 n, fun w => by kernel_rfl, int_self 9998 3 .i64 .i64 n (by kernel_rfl)⟩, ⟨.agg (hashCells (HL h)).toArray, fun w => by kernel_rfl, hash_self 9997 h⟩, trivial⟩) w
theorem cell_self (d : Nat) (z : S68) : Alike0 (d + 2) 68 (.agg #[.int .i64 z.f0, .int .i64 z.f1, .string z.f2]) :=
  struct_self (d + 1) 68 _ _ Tryz.underlying68 (by kernel_rfl) ⟨⟨.int .i64 z.f0, fun w => by kernel_rfl, int_self d 3 .i64 .i64 _ (by kernel_rfl)⟩, ⟨.int .i64 z.f1, fun w => by kernel_rfl, int_self d 2 .i64 .i64 _ (by kernel_rfl)⟩, ⟨.string z.f2, fun w => by kernel_rfl, string_self d 9 _ (by kernel_rfl)⟩, trivial⟩
theorem zone_self (d : Nat) (z : S70) : Alike0 (d + 3) 70 (.agg (zCells z).toArray) :=
  struct_self (d + 2) 70 _ _ Tryz.underlying70 (by kernel_rfl) ⟨⟨.int .i64 z.f0, fun w => by kernel_rfl, int_self (d + 1) 3 .i64 .i64 _ (by kernel_rfl)⟩, ⟨.bool z.f1, fun w => by kernel_rfl, bool_self (d + 1) 4 _ (by kernel_rfl)⟩, ⟨.agg #[.int .i64 z.f2.f0, .int .i64 z.f2.f1, .string z.f2.f2], fun w => by kernel_rfl, cell_self d z.f2⟩, ⟨.agg #[.int .i64 z.f3.f0, .int .i64 z.f3.f1, .string z.f3.f2], fun w => by kernel_rfl, cell_self d z.f3⟩, trivial⟩
theorem neq72 (z : S70) (f : Nat → Int) (w : World) : (binOp .neq 72 (.agg (chCells z f).toArray) (.agg (chCells z f).toArray)).run Tryz.prog w = .ok (.bool false) w :=
  neq_self (struct_self 9999 72 _ _ Tryz.underlying72 (by kernel_rfl) ⟨⟨.agg (zCells z).toArray, fun w => by kernel_rfl, zone_self 9996 z⟩, ⟨.agg (hashCells (HL f)).toArray, fun w => by kernel_rfl, hash_self 9997 f⟩, trivial⟩) w
end Go.Proofs.YtjmhiklmlgbifaaGreatDoor.PMan
end
section
namespace Go.Proofs.YtjmhiklmlgbifaaGreatDoor.PMan
open Go.RowKit Go.Proofs.YtjmhiklmlgbifaaGreatDoorW.PrintWords Go.Proofs.YtjmhiklmlgbifaaGreatDoorW.PrintLast Go.Proofs.YtjmhiklmlgbifaaGreatDoorW.PrintMore
set_option linter.unusedVariables false
set_option linter.unusedSimpArgs false
theorem size_alloc (w : World) (o : Obj) : (w.alloc o).heap.size = w.heap.size + 1 := by simp
set_option maxHeartbeats 16000000 in
set_option maxRecDepth 100000 in
theorem sameHd_calls (x y : Int) (f : Nat → Int) (cols : List CH) (A : Option Addr) (c : Nat) (A' : Option Addr) (c' : Nat) (w : World) (h1 : kCH.C w A cols.length cols) (hc1 : cols.length ≤ c) (h2 : kCH.C w A' cols.length cols) (hc2 : cols.length ≤ c') :
    Calls Tryz.prog 66 #[.agg (HC x y f A cols.length c), .agg (HC x y f A' cols.length c')] w fun e w' => e = .returned (.bool true) ∧ Below w.heap.size w w' := by
  have hbl : cols.length ≤ 9223372036854775807 := h1.2.1
  have hne := neq61 f
  have hx1 := heap_alloc_new w (.cells (HC x y f A cols.length c) 64)
  have hs1 : (w.alloc (.cells (HC x y f A cols.length c) 64)).heap.size = w.heap.size + 1 := size_alloc _ _
  have hb1 : Below w.heap.size w (w.alloc (.cells (HC x y f A cols.length c) 64)) := below_alloc (Below.refl _ _) _
  have hb2 : Below (w.heap.size + 1) (w.alloc (.cells (HC x y f A cols.length c) 64)) ((w.alloc (.cells (HC x y f A cols.length c) 64)).alloc (.cells (HC x y f A' cols.length c') 64)) := hs1 ▸ below_alloc (Below.refl _ _) _
  have hx2 := heap_alloc_new (w.alloc (.cells (HC x y f A cols.length c) 64)) (.cells (HC x y f A' cols.length c') 64)
  rw [hs1] at hx2
  have hx1' := (hb2.block w.heap.size (by omega)).trans hx1
  have hbb : Below w.heap.size w ((w.alloc (.cells (HC x y f A cols.length c) 64)).alloc (.cells (HC x y f A' cols.length c') 64)) := hb1.trans (hb2.mono (by omega))
  have H1 := Aside0.mk hx1'
  have H2 := Aside0.mk hx2
  have HBB := Aside0.mk hbb
  have HA := Aside0.mk (Kd.C_below h1 hbb)
  have HA' := Aside0.mk (Kd.C_below h2 hbb)
  have p0 := (blk_cell hx1' 0).trans (show (HC x y f A cols.length c)[0]? = some (.int .i64 x) from by kernel_rfl)
  have q0 := (blk_cell hx2 0).trans (show (HC x y f A' cols.length c')[0]? = some (.int .i64 x) from by kernel_rfl)
  have p1 := (blk_cell hx1' 1).trans (show (HC x y f A cols.length c)[1]? = some (.int .i64 y) from by kernel_rfl)
  have q1 := (blk_cell hx2 1).trans (show (HC x y f A' cols.length c')[1]? = some (.int .i64 y) from by kernel_rfl)
  have p34 := (blk_cell hx1' 34).trans (HC_34 x y f A cols.length c)
  have q34 := (blk_cell hx2 34).trans (HC_34 x y f A' cols.length c')
  have HR1 := Aside0.mk (range_of (pre := [.int .i64 x, .int .i64 y]) (cs := hashCells (HL f)) (post := [.slice A cols.length c]) hx1' 2 rfl)
  have HR2 := Aside0.mk (range_of (pre := [.int .i64 x, .int .i64 y]) (cs := hashCells (HL f)) (post := [.slice A' cols.length c']) hx2 2 rfl)
  clear hx1 hs1 hb1 hb2 hx2 hx1' hbb h1 h2
  go_enter Tryz.func66, Tryz.ntmps66
  go_wp2_with (first | (refine gate_guard (by rfl) ?_; dsimp only; refine wpList_load_mid rfl 61 (.tmp 19) rfl w.heap.size 2 rfl (hashCells (HL f)) _ HR1.out Tryz.underlying61 rfl (by kernel_rfl) ?_) | (refine gate_guard (by rfl) ?_; dsimp only; refine wpList_load_mid rfl 61 (.tmp 21) rfl (w.heap.size + 1) 2 rfl (hashCells (HL f)) _ HR2.out Tryz.underlying61 rfl (by kernel_rfl) ?_))
  clear hne p0 q0 p1 q1 HR1 HR2
  generalize (w.alloc (.cells (HC x y f A cols.length c) 64)).alloc (.cells (HC x y f A' cols.length c') 64) = W0 at *
  have P34 := Aside0.mk p34
  have Q34 := Aside0.mk q34
  clear p34 q34
  go_loopw [5] (fun v5 w' => ∃ (i : Nat), i ≤ cols.length ∧ v5 = .int .i64 i ∧ Aside0 (Below W0.heap.size W0 w')) (fun v _ => cols.length - (intOf v).toNat)
  case atStart => exact ⟨0, Nat.zero_le _, rfl, ⟨Below.refl _ _⟩⟩
  case round =>
    obtain ⟨i, hi, rfl, HB⟩ := hrel
    have p34 := pw_cell_below HB.out P34.out
    have q34 := pw_cell_below HB.out Q34.out
    by_cases hlt : i < cols.length
    · obtain ⟨b, o, cs, e1, hK, hcl, hmm⟩ := C_mid HA.out zCH i hlt (by decide)
      obtain ⟨b', o', cs', e2, hK', hcl', hmm'⟩ := C_mid HA'.out zCH i hlt (by decide)
      generalize cols.getD i zCH = z at *
      obtain ⟨rfl, hl1⟩ := kCH_open hK
      obtain ⟨rfl, _⟩ := kCH_open hK'
      obtain ⟨zz, zh⟩ := z
      dsimp only at hmm hmm' hl1 hcl hcl'
      obtain ⟨g, rfl⟩ : ∃ g, zh = HL g := ⟨_, range_fn zh hl1⟩
      have m1 : wr.drew.rangeAt b (o + i * 40) (chCells zz g) := range_below hmm (below_drew HB.out)
      have m2 : wr.drew.rangeAt b' (o' + i * 40) (chCells zz g) := range_below hmm' (below_drew HB.out)
      have HBD : Aside0 (Below W0.heap.size W0 wr.drew) := Aside0.mk (below_drew HB.out)
      have p34 : wr.drew.cell? ⟨w.heap.size, 34, none⟩ = some (.slice A cols.length c) := p34
      have q34 : wr.drew.cell? ⟨w.heap.size + 1, 34, none⟩ = some (.slice A' cols.length c') := q34
      subst e1 e2
      clear hK hK' hcl hcl' hmm hmm' hl1 HA HA' HB
      have hnq := neq72 zz g
      go_wp2_with fail
      refine start_ (n := 11) (S := fun w' => w'.cell? ⟨w.heap.size, 34, none⟩ = some (.slice (some ⟨b, o, none⟩) cols.length c) ∧ w'.cell? ⟨w.heap.size + 1, 34, none⟩ = some (.slice (some ⟨b', o', none⟩) cols.length c') ∧ w'.rangeAt b (o + i * 40) (chCells zz g) ∧ w'.rangeAt b' (o' + i * 40) (chCells zz g)) (ds := []) #[false, false, false, false, false, false, false, false, false, false, false] (by kernel_rfl) rfl rfl ⟨p34, q34, m1, m2⟩ (fun hHeld => ?_)
      generalize wr.drew = wd at *
      refine pure_ (i := 0) (N := some 41) (v := ?_) (a' := ?_) #[true, false, false, false, false, false, false, false, false, false, false] rfl rfl (by kernel_rfl) (fun _ _ _ h => h) (Or.inl ⟨by rfl, ?_⟩) ?_ ?_
      rotate_left
      · intro w'
        go_simp
        with_reducible rfl
      rotate_left
      · simp only [Act.put, List.setIfInBounds_toArray, List.set_cons_zero, List.set_cons_succ, i64_w, i32_w]
        rfl
      refine pure_ (i := 2) (N := some 43) (v := ?_) (a' := ?_) #[true, false, true, false, false, false, false, false, false, false, false] rfl rfl (by kernel_rfl) (fun _ _ _ h => h) (Or.inl ⟨by rfl, ?_⟩) ?_ ?_
      rotate_left
      · intro w'
        go_simp
        with_reducible rfl
      rotate_left
      · simp only [Act.put, List.setIfInBounds_toArray, List.set_cons_zero, List.set_cons_succ, i64_w, i32_w]
        rfl
      refine pure_ (i := 5) (N := some 46) (v := ?_) (a' := ?_) #[true, false, true, false, false, true, false, false, false, false, false] rfl rfl (by kernel_rfl) (fun _ _ _ h => h) (Or.inl ⟨by rfl, ?_⟩) ?_ ?_
      rotate_left
      · intro w'
        go_simp
        with_reducible rfl
      rotate_left
      · simp only [Act.put, List.setIfInBounds_toArray, List.set_cons_zero, List.set_cons_succ, i64_w, i32_w]
        rfl
      refine pure_ (i := 7) (N := some 48) (v := ?_) (a' := ?_) #[true, false, true, false, false, true, false, true, false, false, false] rfl rfl (by kernel_rfl) (fun _ _ _ h => h) (Or.inl ⟨by rfl, ?_⟩) ?_ ?_
      rotate_left
      · intro w'
        go_simp
        with_reducible rfl
      rotate_left
      · simp only [Act.put, List.setIfInBounds_toArray, List.set_cons_zero, List.set_cons_succ, i64_w, i32_w]
        rfl
      refine take_ (i := 1) (N := some 42) (v := ?_) (a' := ?_) #[true, true, true, false, false, true, false, true, false, false, false] rfl rfl (by kernel_rfl) (fun _ _ _ h => h) (Or.inl ⟨by rfl, ?_⟩) hHeld ?_ ?_
      rotate_left
      · rintro w' ⟨s0, s1, s2, s3⟩
        go_simp
        with_reducible rfl
      rotate_left
      · simp only [Act.put, List.setIfInBounds_toArray, List.set_cons_zero, List.set_cons_succ, i64_w, i32_w]
        rfl
      refine pure_ (i := 3) (N := some 44) (v := ?_) (a' := ?_) #[true, true, true, true, false, true, false, true, false, false, false] rfl rfl (by kernel_rfl) (fun _ _ _ h => h) (Or.inl ⟨by rfl, ?_⟩) ?_ ?_
      rotate_left
      · intro w'
        go_simp
        with_reducible rfl
      rotate_left
      · simp only [Act.put, List.setIfInBounds_toArray, List.set_cons_zero, List.set_cons_succ, i64_w, i32_w]
        rfl
      refine take_ (i := 4) (N := some 45) (v := ?_) (a' := ?_) #[true, true, true, true, true, true, false, true, false, false, false] rfl rfl (by kernel_rfl) (fun _ _ _ h => h) (Or.inl ⟨by rfl, ?_⟩) hHeld ?_ ?_
      rotate_left
      · rintro w' ⟨s0, s1, s2, s3⟩
        refine exec_load_mid 72 (.tmp 44) ?_ b (o + i * 40) ?_ (chCells zz g) _ s2 Tryz.underlying72 rfl ?_
        · rfl
        · rfl
        · kernel_rfl
      rotate_left
      · simp only [Act.put, List.setIfInBounds_toArray, List.set_cons_zero, List.set_cons_succ, i64_w, i32_w]
        rfl
      refine take_ (i := 6) (N := some 47) (v := ?_) (a' := ?_) #[true, true, true, true, true, true, true, true, false, false, false] rfl rfl (by kernel_rfl) (fun _ _ _ h => h) (Or.inl ⟨by rfl, ?_⟩) hHeld ?_ ?_
      rotate_left
      · rintro w' ⟨s0, s1, s2, s3⟩
        go_simp
        with_reducible rfl
      rotate_left
      · simp only [Act.put, List.setIfInBounds_toArray, List.set_cons_zero, List.set_cons_succ, i64_w, i32_w]
        rfl
      refine pure_ (i := 8) (N := some 49) (v := ?_) (a' := ?_) #[true, true, true, true, true, true, true, true, true, false, false] rfl rfl (by kernel_rfl) (fun _ _ _ h => h) (Or.inl ⟨by rfl, ?_⟩) ?_ ?_
      rotate_left
      · intro w'
        go_simp
        with_reducible rfl
      rotate_left
      · simp only [Act.put, List.setIfInBounds_toArray, List.set_cons_zero, List.set_cons_succ, i64_w, i32_w]
        rfl
      refine take_ (i := 9) (N := some 50) (v := ?_) (a' := ?_) #[true, true, true, true, true, true, true, true, true, true, false] rfl rfl (by kernel_rfl) (fun _ _ _ h => h) (Or.inl ⟨by rfl, ?_⟩) hHeld ?_ ?_
      rotate_left
      · rintro w' ⟨s0, s1, s2, s3⟩
        refine exec_load_mid 72 (.tmp 49) ?_ b' (o' + i * 40) ?_ (chCells zz g) _ s3 Tryz.underlying72 rfl ?_
        · rfl
        · rfl
        · kernel_rfl
      rotate_left
      · simp only [Act.put, List.setIfInBounds_toArray, List.set_cons_zero, List.set_cons_succ, i64_w, i32_w]
        rfl
      refine pure_ (i := 10) (N := some 51) (v := ?_) (a' := ?_) #[true, true, true, true, true, true, true, true, true, true, true] rfl rfl (by kernel_rfl) (fun _ _ _ h => h) (Or.inl ⟨by rfl, ?_⟩) ?_ ?_
      rotate_left
      · intro w'
        go_simp
        with_reducible rfl
      rotate_left
      · simp only [Act.put, List.setIfInBounds_toArray, List.set_cons_zero, List.set_cons_succ, i64_w, i32_w]
        rfl
      refine done_ (by kernel_rfl) ?_
      go_wp2_with fail
      go_roundw
      case rel => exact ⟨i + 1, by omega, by go_num, HBD⟩
      case measure => simp [intOf]; omega
    · have HBR := Aside0.mk (HBB.out.trans (HB.out.mono HBB.out.size))
      go_wp2_with fail
      go_ret
      exact ⟨rfl, HBR.out⟩
end Go.Proofs.YtjmhiklmlgbifaaGreatDoor.PMan
end
