/- Texts of this proof, put into one, without what it does not use: MoA, RgA. -/
import Derived.Test.YtjmhiklmlgbifaaGreatDoorPB29
import Derived.OpenShut
import Derived.Deep.Slices
import Derived.Test.YtjmhiklmlgbifaaGreatDoorPB12
section
namespace Go.Proofs.YtjmhiklmlgbifaaGreatDoor.PMan
open Go.RowKit Go.Proofs.YtjmhiklmlgbifaaGreatDoorW.PrintWords Go.Proofs.YtjmhiklmlgbifaaGreatDoorW.PrintLast Go.Proofs.YtjmhiklmlgbifaaGreatDoorW.PrintMore
open Go.Proofs.YtjmhiklmlgbifaaGreatDoor.CrcMath
set_option linter.unusedVariables false
set_option linter.unusedSimpArgs false
section
variable {H : Type} (enc : TypeId × Value → H) (w : World) (base : Nat) (sp : Nat → Bool) (hd : Bool)
/-- What is read by type t is of kind d. -/
def Opens {α : Type} (t : TypeId) (d : Kd α) (ok : α → Prop) : Prop := d.sz = Tryz.prog.cellsOf t ∧ ∀ n cs x, DataW.trod enc Tryz.prog w base sp hd n t cs = some x → ∃ a, d.K w a cs ∧ ok a
theorem opens_int {t : TypeId} {k : IntKind} (ht : Tryz.prog.underlying t = some (.int k)) (hc : Tryz.prog.cellsOf t = 1) : Opens enc w base sp hd t (Kd.int k) (fun n => (Lit.int k n).wf = true) := by
  refine ⟨hc.symm, fun n cs x h => ?_⟩
  obtain ⟨a, rfl, _, hw⟩ := DataW.trod_int ht h
  exact ⟨a, rfl, hw⟩
theorem opens_bool {t : TypeId} (ht : Tryz.prog.underlying t = some .bool) (hc : Tryz.prog.cellsOf t = 1) : Opens enc w base sp hd t Kd.bool (fun _ => True) := by
  refine ⟨hc.symm, fun n cs x h => ?_⟩
  obtain ⟨a, rfl, _⟩ := DataW.trod_bool ht h
  exact ⟨a, rfl, trivial⟩
theorem opens_string {t : TypeId} (ht : Tryz.prog.underlying t = some .string) (hc : Tryz.prog.cellsOf t = 1) : Opens enc w base sp hd t Kd.string (fun _ => True) := by
  refine ⟨hc.symm, fun n cs x h => ?_⟩
  obtain ⟨a, rfl, _⟩ := DataW.trod_string ht h
  exact ⟨a, rfl, trivial⟩
theorem opens_hash {t e : TypeId} (ht : Tryz.prog.underlying t = some (.array 32 e)) (he : Tryz.prog.underlying e = some (.int .u8)) (hc : Tryz.prog.cellsOf t = 32) (hce : Tryz.prog.cellsOf e = 1) :
    Opens enc w base sp hd t kH (fun l => Byte l) := by
  refine ⟨hc.symm, fun n cs x h => ?_⟩
  obtain ⟨xs, m, _, _, hl, hx, hi⟩ := DataW.trod_array ht h
  rw [hc] at hl
  rw [hce] at hi
  have each : ∀ i, i < 32 → ∃ q : Int, cs[i]? = some (.int .u8 q) ∧ (Lit.int .u8 q).wf = true := fun i h32 => by
    have h1 := hi i h32
    rw [Nat.mul_one, List.getElem?_eq_getElem (by omega)] at h1
    obtain ⟨q, hq, _, hw⟩ := DataW.trod_int he h1
    refine ⟨q, ?_, hw⟩
    have h2 : ((cs.drop i).take 1)[0]? = some (.int .u8 q) := by rw [hq]; rfl
    rw [List.getElem?_take_of_lt (by decide), List.getElem?_drop] at h2
    exact h2
  obtain ⟨f, hf⟩ := Go.Deep.choose_lt each
  refine ⟨(List.range 32).map f, ⟨?_, by simp⟩, fun y hy => ?_⟩
  · apply List.ext_getElem?
    intro i
    unfold hashCells
    by_cases h32 : i < 32
    · rw [(hf i h32).1, List.map_map, List.getElem?_map, List.getElem?_range h32]
      rfl
    · rw [List.getElem?_eq_none (by omega), List.getElem?_eq_none (by simp; omega)]
  · obtain ⟨i, hi, rfl⟩ := List.mem_map.1 hy
    have := wf_u8 (hf i (List.mem_range.1 hi)).2
    omega
theorem opens_slice {t e : TypeId} {α : Type} {d : Kd α} {ok : α → Prop} (q : Nat) (ht : Tryz.prog.underlying t = some (.slice e)) (hc : Tryz.prog.cellsOf t = 1) (z : α) (he : Opens enc w base sp hd e d ok) : Opens enc w base sp hd t (Kd.slice q d) (fun l => ∀ x ∈ l, ok x) := by
  refine ⟨hc.symm, fun n cs x h => ?_⟩
  rcases Go.Deep.open_slice ht h with ⟨rfl, _⟩ | ⟨a, len, cap, m, n, D, Pl, rfl, _, hl, hm, hmm, _, hx⟩
  · exact ⟨[], ⟨none, 0, rfl, Nat.zero_le _, ⟨rfl, by simp, fun h => absurd h (by simp)⟩⟩, fun x hx => by simp at hx⟩
  · have hlm : len ≤ m := by rw [hmm]; split <;> omega
    have hinh : Inhabited α := ⟨z⟩
    have each : ∀ i, i < len → ∃ y : α, ok y ∧ ∃ cs', cs'.length = d.sz ∧ d.K w y cs' ∧ ∀ k u, cs'[k]? = some u → w.cell? (a.add (i * d.sz + k)) = some u := fun i hi => by
      obtain ⟨cs', h1, h2⟩ := hx i (by omega)
      obtain ⟨y, hK, hok⟩ := he.2 _ _ _ h2
      obtain ⟨_, h3, h4⟩ := World.cells?_some h1
      refine ⟨y, hok, cs', d.K_len hK, hK, fun k u hu => ?_⟩
      have hk := (List.getElem?_eq_some_iff.1 hu).1
      have := h4 k (by omega)
      rw [Go.Deep.add_add, hu, ← he.1] at this
      exact this
    obtain ⟨f, hf⟩ := Go.Deep.choose_lt each
    refine ⟨(List.range len).map f, ⟨some a, cap, by rw [List.length_map, List.length_range], by rw [List.length_map, List.length_range]; exact hl, ⟨rfl, by rw [List.length_map, List.length_range]; unfold maxLen at hm; omega, fun _ => ⟨a, rfl, fun j p hj => ?_⟩⟩⟩, fun y hy => ?_⟩
    · rw [List.getElem?_map, Option.map_eq_some_iff] at hj
      obtain ⟨r, hr, rfl⟩ := hj
      obtain ⟨hjl, rfl⟩ := List.getElem?_eq_some_iff.1 hr
      rw [List.length_range] at hjl
      rw [List.getElem_range]
      obtain ⟨_, cs', h1, h2, h3⟩ := hf j hjl
      exact ⟨cs', h1, h2, h3⟩
    · obtain ⟨r, hr, rfl⟩ := List.mem_map.1 hy
      exact (hf r (List.mem_range.1 hr)).1
/-- What is read by a struct's last fields. -/
def OpensF {α : Type} (fs : List Field) (off : Nat) (d : Kd α) (ok : α → Prop) : Prop := ∀ n cs, cs.length = d.sz → (∀ f ∈ fs, ∃ y, DataW.trod enc Tryz.prog w base sp hd n f.type ((cs.drop (f.offset - off)).take (Tryz.prog.cellsOf f.type)) = some y) → ∃ a, d.K w a cs ∧ ok a
theorem opensF_one {α : Type} {f : Field} {off : Nat} {d : Kd α} {ok : α → Prop} (ho : f.offset = off) (h : Opens enc w base sp hd f.type d ok) : OpensF enc w base sp hd [f] off d ok := fun n cs hl hy => by
  obtain ⟨y, hy⟩ := hy f List.mem_cons_self
  rw [ho, Nat.sub_self, List.drop_zero, List.take_of_length_le (by rw [hl, h.1]; exact Nat.le_refl _)] at hy
  exact h.2 _ _ _ hy
theorem opensF_cons {α β : Type} {f : Field} {fs : List Field} {off : Nat} {d1 : Kd α} {d2 : Kd β} {ok1 : α → Prop} {ok2 : β → Prop} (ho : f.offset = off) (hge : (fs.all fun g => Nat.ble (off + d1.sz) g.offset) = true)
    (h1 : Opens enc w base sp hd f.type d1 ok1) (h2 : OpensF enc w base sp hd fs (off + d1.sz) d2 ok2) : OpensF enc w base sp hd (f :: fs) off (Kd.pair d1 d2) (fun p => ok1 p.1 ∧ ok2 p.2) := fun n cs hl hy => by
  have hl : cs.length = d1.sz + d2.sz := hl
  obtain ⟨y, hy0⟩ := hy f List.mem_cons_self
  rw [ho, Nat.sub_self, List.drop_zero, ← h1.1] at hy0
  obtain ⟨a, hK1, ho1⟩ := h1.2 _ _ _ hy0
  obtain ⟨b, hK2, ho2⟩ := h2 n (cs.drop d1.sz) (by rw [List.length_drop]; omega) fun g hg => by
    obtain ⟨y, hy1⟩ := hy g (List.mem_cons_of_mem _ hg)
    have := Nat.le_of_ble_eq_true (List.all_eq_true.1 hge g hg)
    refine ⟨y, ?_⟩
    rw [List.drop_drop, show d1.sz + (g.offset - (off + d1.sz)) = g.offset - off by omega]
    exact hy1
  exact ⟨(a, b), ⟨cs.take d1.sz, cs.drop d1.sz, (List.take_append_drop _ _).symm, hK1, hK2⟩, ho1, ho2⟩
theorem opensF_imp {α : Type} {fs : List Field} {off : Nat} {d : Kd α} {ok ok' : α → Prop} (h : OpensF enc w base sp hd fs off d ok) (hi : ∀ a, ok a → ok' a) : OpensF enc w base sp hd fs off d ok' := fun n cs h1 h2 => by
  obtain ⟨a, hK, ho⟩ := h n cs h1 h2
  exact ⟨a, hK, hi a ho⟩
theorem opens_struct {α : Type} {t : TypeId} {fs : Array Field} {d : Kd α} {ok : α → Prop} (ht : Tryz.prog.underlying t = some (.struct fs)) (hc : d.sz = Tryz.prog.cellsOf t) (h : OpensF enc w base sp hd fs.toList 0 d ok) : Opens enc w base sp hd t d ok := by
  refine ⟨hc, fun n cs x hx => ?_⟩
  obtain ⟨xs, m, _, _, hl, hxl, hf⟩ := DataW.trod_struct ht hx
  refine h m cs (by rw [hl, hc]) fun f hfm => ?_
  obtain ⟨i, hi, rfl⟩ := List.getElem_of_mem hfm
  have hi' : i < fs.size := by simpa using hi
  have := hf i fs[i] (Array.getElem?_eq_getElem hi')
  rw [List.getElem?_eq_getElem (by omega)] at this
  exact ⟨_, by rw [Nat.sub_zero, Array.getElem_toList]; exact this⟩
theorem opens_iso {α β : Type} {t : TypeId} {d : Kd α} {ok : α → Prop} (f : β → α) (g : α → β) (hfg : ∀ a, f (g a) = a) (h : Opens enc w base sp hd t d ok) : Opens enc w base sp hd t (Kd.iso d f) (fun b => ok (f b)) := by
  refine ⟨h.1, fun n cs x hx => ?_⟩
  obtain ⟨a, hK, ho⟩ := h.2 n cs x hx
  exact ⟨g a, by show d.K w (f (g a)) cs; rw [hfg]; exact hK, by show ok (f (g a)); rw [hfg]; exact ho⟩
abbrev IntOk (k : IntKind) (n : Int) : Prop := (Lit.int k n).wf = true
theorem o_int : Opens enc w base sp hd 3 (Kd.int .i64) (IntOk .i64) := opens_int enc w base sp hd Tryz.underlying3 (by kernel_rfl)
theorem o_i64 : Opens enc w base sp hd 2 (Kd.int .i64) (IntOk .i64) := opens_int enc w base sp hd Tryz.underlying2 (by kernel_rfl)
theorem o_bool : Opens enc w base sp hd 4 Kd.bool (fun _ => True) := opens_bool enc w base sp hd Tryz.underlying4 (by kernel_rfl)
theorem o_str : Opens enc w base sp hd 9 Kd.string (fun _ => True) := opens_string enc w base sp hd Tryz.underlying9 (by kernel_rfl)
theorem o_hash : Opens enc w base sp hd 61 kH (fun l => Byte l) := opens_hash enc w base sp hd Tryz.underlying61 Tryz.underlying5 (by kernel_rfl) (by kernel_rfl)
theorem o_bytes : Opens enc w base sp hd 30 (Kd.slice 5 (Kd.int .u8)) (fun l => ∀ x ∈ l, IntOk .u8 x) := opens_slice enc w base sp hd 5 Tryz.underlying30 (by kernel_rfl) 0 (opens_int enc w base sp hd Tryz.underlying5 (by kernel_rfl))
set_option maxRecDepth 100000 in
theorem o_val : Opens enc w base sp hd 68 k68 (fun v => IntOk .i64 v.f0 ∧ IntOk .i64 v.f1 ∧ True) := by
  unfold k68
  refine opens_iso enc w base sp hd (ok := fun p => IntOk .i64 p.1 ∧ IntOk .i64 p.2.1 ∧ True) (fun x : S68 => (x.f0, x.f1, x.f2)) (fun p => ⟨p.1, p.2.1, p.2.2⟩) (fun _ => rfl) (opens_struct enc w base sp hd Tryz.underlying68 (by kernel_rfl) ?_)
  refine opensF_imp enc w base sp hd (opensF_cons enc w base sp hd rfl (by kernel_rfl) (o_int enc w base sp hd) (opensF_cons enc w base sp hd rfl (by kernel_rfl) (o_i64 enc w base sp hd) (opensF_one enc w base sp hd rfl (o_str enc w base sp hd)))) (fun _ h => h)
set_option maxRecDepth 100000 in
theorem o_col : Opens enc w base sp hd 123 k123 (fun c => IntOk .i64 c.f0 ∧ True ∧ IntOk .i64 c.f2) := by
  unfold k123
  refine opens_iso enc w base sp hd (ok := fun p => IntOk .i64 p.1 ∧ True ∧ IntOk .i64 p.2.2) (fun x : S123 => (x.f0, x.f1, x.f2)) (fun p => ⟨p.1, p.2.1, p.2.2⟩) (fun _ => rfl) (opens_struct enc w base sp hd Tryz.underlying123 (by kernel_rfl) ?_)
  refine opensF_imp enc w base sp hd (opensF_cons enc w base sp hd rfl (by kernel_rfl) (o_int enc w base sp hd) (opensF_cons enc w base sp hd rfl (by kernel_rfl) (o_bool enc w base sp hd) (opensF_one enc w base sp hd rfl (o_int enc w base sp hd)))) (fun _ h => h)
abbrev ValT (v : S68) : Prop := IntOk .i64 v.f0 ∧ IntOk .i64 v.f1 ∧ True
set_option maxRecDepth 100000 in
theorem o_zone : Opens enc w base sp hd 70 k70 (fun z => IntOk .i64 z.f0 ∧ True ∧ ValT z.f2 ∧ ValT z.f3) := by
  unfold k70
  refine opens_iso enc w base sp hd (ok := fun p => IntOk .i64 p.1 ∧ True ∧ ValT p.2.2.1 ∧ ValT p.2.2.2) (fun x : S70 => (x.f0, x.f1, x.f2, x.f3)) (fun p => ⟨p.1, p.2.1, p.2.2.1, p.2.2.2⟩) (fun _ => rfl) (opens_struct enc w base sp hd Tryz.underlying70 (by kernel_rfl) ?_)
  refine opensF_imp enc w base sp hd (opensF_cons enc w base sp hd rfl (by kernel_rfl) (o_int enc w base sp hd) (opensF_cons enc w base sp hd rfl (by kernel_rfl) (o_bool enc w base sp hd) (opensF_cons enc w base sp hd rfl (by kernel_rfl) (o_val enc w base sp hd) (opensF_one enc w base sp hd rfl (o_val enc w base sp hd))))) (fun _ h => h)
abbrev ColT (c : CH) : Prop := (IntOk .i64 c.z.f0 ∧ True ∧ ValT c.z.f2 ∧ ValT c.z.f3) ∧ Byte c.h
set_option maxRecDepth 100000 in
theorem o_colhead : Opens enc w base sp hd 72 kCH ColT := by
  unfold kCH
  refine opens_iso enc w base sp hd (ok := fun p => (IntOk .i64 p.1.f0 ∧ True ∧ ValT p.1.f2 ∧ ValT p.1.f3) ∧ Byte p.2) (fun x : CH => (x.z, x.h)) (fun p => ⟨p.1, p.2⟩) (fun _ => rfl) (opens_struct enc w base sp hd Tryz.underlying72 (by kernel_rfl) ?_)
  refine opensF_imp enc w base sp hd (opensF_cons enc w base sp hd rfl (by kernel_rfl) (o_zone enc w base sp hd) (opensF_one enc w base sp hd rfl (o_hash enc w base sp hd))) (fun _ h => h)
abbrev HdT (x : Hd) : Prop := IntOk .i64 x.rows ∧ IntOk .i64 x.live ∧ Byte x.dead ∧ ∀ c ∈ x.cols, ColT c
set_option maxRecDepth 100000 in
theorem o_hd : Opens enc w base sp hd 64 kHd HdT := by
  unfold kHd
  refine opens_iso enc w base sp hd (ok := fun p => IntOk .i64 p.1 ∧ IntOk .i64 p.2.1 ∧ Byte p.2.2.1 ∧ ∀ c ∈ p.2.2.2, ColT c) (fun x : Hd => (x.rows, x.live, x.dead, x.cols)) (fun p => ⟨p.1, p.2.1, p.2.2.1, p.2.2.2⟩) (fun _ => rfl) (opens_struct enc w base sp hd Tryz.underlying64 (by kernel_rfl) ?_)
  refine opensF_imp enc w base sp hd (opensF_cons enc w base sp hd rfl (by kernel_rfl) (o_int enc w base sp hd) (opensF_cons enc w base sp hd rfl (by kernel_rfl) (o_int enc w base sp hd) (opensF_cons enc w base sp hd rfl (by kernel_rfl) (o_hash enc w base sp hd) (opensF_one enc w base sp hd rfl (opens_slice enc w base sp hd 72 Tryz.underlying62 (by kernel_rfl) zCH (o_colhead enc w base sp hd)))))) (fun _ h => h)
abbrev RfT (g : Rf) : Prop := IntOk .i64 g.id ∧ HdT g.hd ∧ ∀ x ∈ g.dead, IntOk .u8 x
set_option maxRecDepth 100000 in
theorem o_rf : Opens enc w base sp hd 66 kRf RfT := by
  unfold kRf
  refine opens_iso enc w base sp hd (ok := fun p => IntOk .i64 p.1 ∧ HdT p.2.1 ∧ ∀ x ∈ p.2.2, IntOk .u8 x) (fun x : Rf => (x.id, x.hd, x.dead)) (fun p => ⟨p.1, p.2.1, p.2.2⟩) (fun _ => rfl) (opens_struct enc w base sp hd Tryz.underlying66 (by kernel_rfl) ?_)
  refine opensF_imp enc w base sp hd (opensF_cons enc w base sp hd rfl (by kernel_rfl) (o_int enc w base sp hd) (opensF_cons enc w base sp hd rfl (by kernel_rfl) (o_hd enc w base sp hd) (opensF_one enc w base sp hd rfl (o_bytes enc w base sp hd)))) (fun _ h => h)
abbrev EnT (x : En) : Prop := Byte x.s ∧ IntOk .i64 x.g ∧ Byte x.r
set_option maxRecDepth 100000 in
theorem o_en : Opens enc w base sp hd 81 kEn EnT := by
  unfold kEn
  refine opens_iso enc w base sp hd (ok := fun p => Byte p.1 ∧ IntOk .i64 p.2.1 ∧ Byte p.2.2) (fun x : En => (x.s, x.g, x.r)) (fun p => ⟨p.1, p.2.1, p.2.2⟩) (fun _ => rfl) (opens_struct enc w base sp hd Tryz.underlying81 (by kernel_rfl) ?_)
  refine opensF_imp enc w base sp hd (opensF_cons enc w base sp hd rfl (by kernel_rfl) (o_hash enc w base sp hd) (opensF_cons enc w base sp hd rfl (by kernel_rfl) (o_int enc w base sp hd) (opensF_one enc w base sp hd rfl (o_hash enc w base sp hd)))) (fun _ h => h)
def kMn : Kd Mn := Kd.iso (Kd.pair (Kd.int .i64) (Kd.pair (Kd.int .i64) (Kd.pair (Kd.slice 123 k123) (Kd.pair (Kd.int .i64) (Kd.pair (Kd.slice 66 kRf) (Kd.pair (Kd.slice 89 (Kd.slice 68 k68)) (Kd.slice 81 kEn))))))) (fun m : Mn => (m.gen, m.next, m.schema, m.most, m.groups, m.loose, m.entries))
abbrev MnAll (m : Mn) : Prop := IntOk .i64 m.gen ∧ IntOk .i64 m.next ∧ (∀ c ∈ m.schema, IntOk .i64 c.f0 ∧ True ∧ IntOk .i64 c.f2) ∧ IntOk .i64 m.most ∧ (∀ g ∈ m.groups, RfT g) ∧ (∀ r ∈ m.loose, ∀ v ∈ r, ValT v) ∧ ∀ x ∈ m.entries, EnT x
set_option maxRecDepth 100000 in
theorem o_mn : Opens enc w base sp hd 27 kMn MnAll := by
  unfold kMn
  refine opens_iso enc w base sp hd (ok := fun p => IntOk .i64 p.1 ∧ IntOk .i64 p.2.1 ∧ (∀ c ∈ p.2.2.1, IntOk .i64 c.f0 ∧ True ∧ IntOk .i64 c.f2) ∧ IntOk .i64 p.2.2.2.1 ∧ (∀ g ∈ p.2.2.2.2.1, RfT g) ∧ (∀ r ∈ p.2.2.2.2.2.1, ∀ v ∈ r, ValT v) ∧ ∀ x ∈ p.2.2.2.2.2.2, EnT x) (fun m : Mn => (m.gen, m.next, m.schema, m.most, m.groups, m.loose, m.entries)) (fun p => ⟨p.1, p.2.1, p.2.2.1, p.2.2.2.1, p.2.2.2.2.1, p.2.2.2.2.2.1, p.2.2.2.2.2.2⟩) (fun _ => rfl) (opens_struct enc w base sp hd Tryz.underlying27 (by kernel_rfl) ?_)
  refine opensF_imp enc w base sp hd (opensF_cons enc w base sp hd rfl (by kernel_rfl) (o_int enc w base sp hd) (opensF_cons enc w base sp hd rfl (by kernel_rfl) (o_int enc w base sp hd) (opensF_cons enc w base sp hd rfl (by kernel_rfl) (opens_slice enc w base sp hd 123 Tryz.underlying22 (by kernel_rfl) z123 (o_col enc w base sp hd)) (opensF_cons enc w base sp hd rfl (by kernel_rfl) (o_int enc w base sp hd) (opensF_cons enc w base sp hd rfl (by kernel_rfl) (opens_slice enc w base sp hd 66 Tryz.underlying23 (by kernel_rfl) zRf (o_rf enc w base sp hd)) (opensF_cons enc w base sp hd rfl (by kernel_rfl) (opens_slice enc w base sp hd 89 Tryz.underlying24 (by kernel_rfl) [] (opens_slice enc w base sp hd 68 Tryz.underlying89 (by kernel_rfl) z68 (o_val enc w base sp hd))) (opensF_one enc w base sp hd rfl (opens_slice enc w base sp hd 81 Tryz.underlying25 (by kernel_rfl) zEn (o_en enc w base sp hd))))))))) (fun _ h => h)
end
theorem wf_i64 {n : Int} (h : (Lit.int .i64 n).wf = true) : -9223372036854775808 ≤ n ∧ n ≤ 9223372036854775807 := by
  simp [Lit.wf, IntKind.min, IntKind.max, IntKind.signed, IntKind.bits] at h
  omega
theorem MnAll.t {m : Mn} (h : MnAll m) : MnT m := by
  obtain ⟨_, _, _, _, hg, hl, he⟩ := h
  refine ⟨fun r hr v hv => wf_i64 (hl r hr v hv).2.1, fun g hgm => ?_, fun x hx => ⟨(he x hx).1, (he x hx).2.2⟩⟩
  obtain ⟨_, ⟨_, _, hd, hc⟩, hb⟩ := hg g hgm
  refine ⟨hd, fun x hx => ?_, fun c hcm => ?_⟩
  · have := wf_u8 (hb x hx)
    omega
  · obtain ⟨⟨_, _, h2, h3⟩, hh⟩ := hc c hcm
    exact ⟨wf_i64 h2.2.1, wf_i64 h3.2.1, hh⟩
theorem kMn_open {w : World} {m : Mn} {cs : List Value} (h : kMn.K w m cs) : ∃ As ns Ag ng Al nl Ae ne, cs = (mnCells m As ns Ag ng Al nl Ae ne).toList ∧ MnC w m As ns Ag ng Al nl Ae ne := by
  obtain ⟨_, _, rfl, rfl, ⟨_, _, rfl, rfl, ⟨_, _, rfl, ⟨As, ns, rfl, s1, s2⟩, ⟨_, _, rfl, rfl, ⟨_, _, rfl, ⟨Ag, ng, rfl, g1, g2⟩, ⟨_, _, rfl, ⟨Al, nl, rfl, l1, l2⟩, ⟨Ae, ne, rfl, e1, e2⟩⟩⟩⟩⟩⟩⟩ := h
  exact ⟨As, ns, Ag, ng, Al, nl, Ae, ne, rfl, ⟨s2, s1, g2, g1, l2, l1, e2, e1⟩⟩
end Go.Proofs.YtjmhiklmlgbifaaGreatDoor.PMan
end
section
namespace Go.Proofs.YtjmhiklmlgbifaaGreatDoor.PMan
open Go.RowKit Go.Proofs.YtjmhiklmlgbifaaGreatDoorW.PrintWords Go.Proofs.YtjmhiklmlgbifaaGreatDoorW.PrintLast Go.Proofs.YtjmhiklmlgbifaaGreatDoorW.PrintMore
attribute [local go_sem] max2_int min2_int max_two min_two max_three min_three max_four min_four   -- for this text's walks alone
set_option linter.unusedVariables false
set_option linter.unusedSimpArgs false
mutual
def estreatref01_look.l0 : Nat → List Int → Int → Int → Option (Int × Int × Int)
  | 0, _, _, _ => none
  | k + 1, x0, x5, x6 => if x6 < (x0.length : Int) then (if 0 ≤ x6 then (if x6 > 9 then (estreatref01_look.j1 k x0 x5 x6 (IntKind.u64.wrap (Int.tmod (rd x0 x6) 128)) true) else (if x6 = 9 then (if (IntKind.u64.wrap (Int.tmod (rd x0 x6) 128)) > 1 then (estreatref01_look.j1 k x0 x5 x6 (IntKind.u64.wrap (Int.tmod (rd x0 x6) 128)) true) else (if x6 > 0 then (estreatref01_look.j1 k x0 x5 x6 (IntKind.u64.wrap (Int.tmod (rd x0 x6) 128)) ((rd x0 x6) == 0)) else (estreatref01_look.j1 k x0 x5 x6 (IntKind.u64.wrap (Int.tmod (rd x0 x6) 128)) false))) else (if x6 > 0 then (estreatref01_look.j1 k x0 x5 x6 (IntKind.u64.wrap (Int.tmod (rd x0 x6) 128)) ((rd x0 x6) == 0)) else (estreatref01_look.j1 k x0 x5 x6 (IntKind.u64.wrap (Int.tmod (rd x0 x6) 128)) false)))) else (none)) else (some (0, 0, 2))
def estreatref01_look.j1 : Nat → List Int → Int → Int → Int → Bool → Option (Int × Int × Int)
  | 0, _, _, _, _, _ => none
  | k + 1, x0, x5, x6, x7, x42 => if x42 = true then (some (0, 0, 4)) else (estreatref01_look.l1 k x0 x5 x6 x7 1 0)
def estreatref01_look.l1 : Nat → List Int → Int → Int → Int → Int → Int → Option (Int × Int × Int)
  | 0, _, _, _, _, _, _ => none
  | k + 1, x0, x5, x6, x7, x8, x9 => if x9 < x6 then (estreatref01_look.l1 k x0 x5 x6 x7 (IntKind.u64.wrap (x8 * 128)) (wrap64 (x9 + 1))) else (if 0 ≤ x6 then (if x6 < (x0.length : Int) then (if (rd x0 x6) < 128 then (some (IntKind.u64.wrap (x5 + (IntKind.u64.wrap (x7 * x8))), wrap64 (x6 + 1), 0)) else (estreatref01_look.l0 k x0 (IntKind.u64.wrap (x5 + (IntKind.u64.wrap (x7 * x8)))) (wrap64 (x6 + 1)))) else (none)) else (none))
end
def estreatref01_look.f (k : Nat) (l0 : List Int) : Option (Int × Int × Int) := estreatref01_look.l0 k l0 0 0
/-- A state of type 109 at block g of W; what its slices lead to came in by w0. -/
def IsS109 (w0 W : World) (g : Nat) (f0 : List Int) (f1 : Int) (f2 : Int) (f3 : Int) : Prop := ∃ A0 c0, W.heap[g]? = some (.cells #[.slice A0 f0.length c0, .int .i64 f1, .int .i64 f2, .int .i64 f3] 109 (0, 0)) ∧ w0.heap.size ≤ g ∧ Kd.C (Kd.int .u8) w0 A0 f0.length f0
theorem IsS109.grown {w0 W : World} {g : Nat} {f0 : List Int} {f1 : Int} {f2 : Int} {f3 : Int} {W1 : World} {row : Option Nat} (h : IsS109 w0 W g f0 f1 f2 f3) (hw : W.grownBy W1 row) (hne : some g ≠ row) : IsS109 w0 W1 g f0 f1 f2 f3 := by
  obtain ⟨A0, c0, hb, hg, hr0⟩ := h
  exact ⟨A0, c0, blk_grown hb hw hne, hg, hr0⟩
theorem IsS109.kept {w0 W : World} {g : Nat} {f0 : List Int} {f1 : Int} {f2 : Int} {f3 : Int} {W1 : World} {S : Nat → Prop} (h : IsS109 w0 W g f0 f1 f2 f3) (hk : Kept W W1 S) (hne : ¬ S g) : IsS109 w0 W1 g f0 f1 f2 f3 := by
  obtain ⟨A0, c0, hb, hg, hr0⟩ := h
  exact ⟨A0, c0, blk_kept hb hk hne, hg, hr0⟩
theorem IsS109.below {w0 W : World} {g : Nat} {f0 : List Int} {f1 : Int} {f2 : Int} {f3 : Int} {W1 : World} (h : IsS109 w0 W g f0 f1 f2 f3) (hw : Below W.heap.size W W1) : IsS109 w0 W1 g f0 f1 f2 f3 := h.grown (grown_of_below hw none) (by simp)
theorem IsS109.alloc {w0 W : World} {g : Nat} {f0 : List Int} {f1 : Int} {f2 : Int} {f3 : Int} (h : IsS109 w0 W g f0 f1 f2 f3) (o : Obj) : IsS109 w0 (W.alloc o) g f0 f1 f2 f3 := h.below (below_alloc (Below.refl _ _) o)
theorem IsS109.drewN {w0 W : World} {g : Nat} {f0 : List Int} {f1 : Int} {f2 : Int} {f3 : Int} (h : IsS109 w0 W g f0 f1 f2 f3) (m : Nat) : IsS109 w0 (W.drewN m) g f0 f1 f2 f3 := h
theorem IsS109.drew {w0 W : World} {g : Nat} {f0 : List Int} {f1 : Int} {f2 : Int} {f3 : Int} (h : IsS109 w0 W g f0 f1 f2 f3) : IsS109 w0 W.drew g f0 f1 f2 f3 := h
theorem IsS109.new (w0 W : World) (A0 : Option Addr) (c0 : Nat) (f0 : List Int) (f1 : Int) (f2 : Int) (f3 : Int) (hB : Below w0.heap.size w0 W) (hr0 : Kd.C (Kd.int .u8) w0 A0 f0.length f0) : IsS109 w0 (W.alloc (.cells #[.slice A0 f0.length c0, .int .i64 f1, .int .i64 f2, .int .i64 f3] 109)) W.heap.size f0 f1 f2 f3 := ⟨A0, c0, by simpa using heap_alloc_new W _, hB.size, hr0⟩
end Go.Proofs.YtjmhiklmlgbifaaGreatDoor.PMan
end
