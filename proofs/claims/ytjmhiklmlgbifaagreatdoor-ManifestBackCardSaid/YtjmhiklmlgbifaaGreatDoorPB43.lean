/- Texts of this proof, put into one, without what it does not use: MxD, GetB, MyD. -/
import Derived.Test.YtjmhiklmlgbifaaGreatDoorPB42
import Derived.Test.YtjmhiklmlgbifaaGreatDoorPB17
import Derived.Test.YtjmhiklmlgbifaaGreatDoorPB18
import Derived.Test.YtjmhiklmlgbifaaGreatDoorPB24
import Derived.Test.YtjmhiklmlgbifaaGreatDoorPB29
import Derived.Test.YtjmhiklmlgbifaaGreatDoorPB41
import Derived.Test.YtjmhiklmlgbifaaGreatDoorPB28
section
namespace Go.Proofs.YtjmhiklmlgbifaaGreatDoor.PMan
open Go.RowKit Go.Proofs.YtjmhiklmlgbifaaGreatDoorW.PrintWords Go.Proofs.YtjmhiklmlgbifaaGreatDoorW.PrintLast Go.Proofs.YtjmhiklmlgbifaaGreatDoorW.PrintMore
set_option linter.unusedVariables false
set_option linter.unusedSimpArgs false
def R64 (v : S68) : Prop := -9223372036854775808 ≤ v.f1 ∧ v.f1 ≤ 9223372036854775807
theorem zero_of {v : S68} (h : zeroV v = true) : v = z68 := by
  obtain ⟨a, n, t⟩ := v
  unfold zeroV at h
  simp only [Bool.and_eq_true, beq_iff_eq] at h
  obtain ⟨rfl, rfl, e⟩ := h
  rw [empty_of (t := t) (by simpa using e)]
  rfl
theorem rightV_of {k : Int} {v : S68} (h : rightP k v = true) (hr : R64 v) : ValC v := by
  unfold rightP at h
  simp only [Bool.and_eq_true, beq_iff_eq] at h
  exact (rowP_vals h.2 (fun x hx => by rw [List.mem_singleton.1 hx]; exact hr)).2 v (List.mem_singleton.2 rfl)
theorem zone_at {s0 : List Int} {q : St} {z : S70} {r : List Int} {rows k : Int} (h : At s0 q (varP z.f0 ++ (zoneF z ++ r))) (hz : zoneP z rows k = true) (hr : rows ≤ 65536) (h2 : R64 z.f2) (h3 : R64 z.f3) : ∃ q', zoneQ s0 q = (z, q') ∧ At s0 q' r := by
  unfold zoneP at hz
  by_cases k0 : z.f0 < 0
  · rw [if_pos k0] at hz; cases hz
  rw [if_neg k0] at hz
  by_cases k1 : z.f0 > rows
  · rw [if_pos k1] at hz; cases hz
  rw [if_neg k1] at hz
  by_cases k2 : (z.f1 != decide (z.f0 < rows)) = true
  · rw [if_pos k2] at hz; cases hz
  rw [if_neg k2] at hz
  obtain ⟨q1, e1, h1⟩ := num_at (lim := 65536) h (by omega) (by omega) (by decide)
  unfold zoneQ
  rw [e1]
  dsimp only
  obtain ⟨a, u, x, y⟩ := z
  dsimp only at *
  cases u with
  | true =>
    rw [if_pos rfl] at hz
    simp only [Bool.and_eq_true] at hz
    obtain ⟨_, hx, hy, _⟩ := hz
    have h4 : At s0 q1 (1 :: (valP x ++ (valP y ++ r))) := by
      have := h1
      unfold zoneF at this
      rw [if_pos rfl, List.cons_append, List.append_assoc] at this
      exact this
    obtain ⟨q2, e2, h5⟩ := fix_at h4
    obtain ⟨q3, e3, h6⟩ := val_at h5 (rightV_of hx h2)
    obtain ⟨q4, e4, h7⟩ := val_at h6 (rightV_of hy h3)
    refine ⟨q4, ?_, h7⟩
    rw [e2]
    dsimp only
    rw [if_pos rfl, e3]
    dsimp only
    rw [e4]
  | false =>
    rw [if_neg (by decide)] at hz
    simp only [Bool.and_eq_true] at hz
    have h4 : At s0 q1 (0 :: r) := by
      have := h1
      unfold zoneF at this
      rw [if_neg (by simp)] at this
      exact this
    obtain ⟨q2, e2, h5⟩ := fix_at h4
    refine ⟨q2, ?_, h5⟩
    rw [e2]
    dsimp only
    rw [if_neg (by decide), if_pos rfl, zero_of hz.1, zero_of hz.2]
theorem ch_at {s0 : List Int} {q : St} {c : CH} {r : List Int} {rows k : Int} (h : At s0 q (colF c ++ r)) (hz : zoneP c.z rows k = true) (hr : rows ≤ 65536) (h2 : R64 c.z.f2) (h3 : R64 c.z.f3) (h4 : c.h.length = 32) : ∃ q', chQ s0 q = (c, q') ∧ At s0 q' r := by
  unfold colF at h
  rw [List.append_assoc, List.append_assoc] at h
  obtain ⟨q1, e1, h1⟩ := zone_at h hz hr h2 h3
  obtain ⟨q2, e2, h5⟩ := hash_at h1 h4
  refine ⟨q2, ?_, h5⟩
  unfold chQ
  rw [e1]
  dsimp only
  rw [e2]
theorem chs_at {s0 : List Int} {rows : Int} (hr : rows ≤ 65536) : ∀ (cols : List CH) (s : List S123) (l : List CH) (q : St) (r : List Int), At s0 q (colsF cols ++ r) → cols.length = s.length → colsP rows cols s = true → (∀ c ∈ cols, R64 c.z.f2 ∧ R64 c.z.f3 ∧ c.h.length = 32) → ∃ q', chsQ s0 s.length l q = (l ++ cols, q') ∧ At s0 q' r
  | [], [], l, q, r, h, _, _, _ => ⟨q, by rw [List.length_nil, chsQ, List.append_nil], h⟩
  | [], _ :: _, _, _, _, _, hl, _, _ => by simp at hl
  | _ :: _, [], _, _, _, _, hl, _, _ => by simp at hl
  | c :: t, x :: s, l, q, r, h, hl, hp, hv => by
    rw [colsF, List.append_assoc] at h
    rw [colsP] at hp
    by_cases k1 : zoneP c.z rows x.f0 = true
    · rw [if_pos k1] at hp
      have hp2 : colsP rows t s = true := by
        by_cases k2 : c.z.f0 > 0
        · rw [if_pos k2] at hp
          by_cases k3 : x.f1 = true
          · rw [if_pos k3] at hp; exact hp
          · rw [if_neg k3] at hp; cases hp
        · rw [if_neg k2] at hp; exact hp
      obtain ⟨v1, v2, v3⟩ := hv c (List.mem_cons_self ..)
      obtain ⟨q1, e1, h1⟩ := ch_at h k1 hr v1 v2 v3
      obtain ⟨q2, e2, h2⟩ := chs_at hr t s (l ++ [c]) q1 r h1 (by simpa using hl) hp2 (fun y hy => hv y (List.mem_cons_of_mem _ hy))
      refine ⟨q2, ?_, h2⟩
      rw [List.length_cons, chsQ, if_pos h.ok, e1]
      dsimp only
      rw [e2, List.append_assoc]
      rfl
    · rw [if_neg k1] at hp; cases hp
theorem head_at {s0 : List Int} {q : St} {x : Hd} {s : List S123} {r : List Int} (h : At s0 q (headP x ++ r)) (hs : soundP x s = true) (hd : x.dead.length = 32) (hv : ∀ c ∈ x.cols, R64 c.z.f2 ∧ R64 c.z.f3 ∧ c.h.length = 32) : ∃ q', headQ s0 s q = (x, q') ∧ At s0 q' r := by
  have hs0 := hs
  unfold soundP at hs
  by_cases k1 : x.rows < 1
  · rw [if_pos k1] at hs; cases hs
  rw [if_neg k1] at hs
  by_cases k2 : x.rows > 65536
  · rw [if_pos k2] at hs; cases hs
  rw [if_neg k2] at hs
  by_cases k3 : x.live < 0
  · rw [if_pos k3] at hs; cases hs
  rw [if_neg k3] at hs
  by_cases k4 : x.live > x.rows
  · rw [if_pos k4] at hs; cases hs
  rw [if_neg k4] at hs
  by_cases k5 : (x.cols.length : Int) = (s.length : Int)
  · rw [if_pos k5] at hs
    unfold headP at h
    rw [List.append_assoc, List.append_assoc, List.append_assoc] at h
    obtain ⟨q1, e1, h1⟩ := num_at (lim := 65536) h (by omega) (by omega) (by decide)
    obtain ⟨q2, e2, h2⟩ := num_at (lim := 65536) h1 (by omega) (by omega) (by decide)
    obtain ⟨q3, e3, h3⟩ := hash_at h2 hd
    obtain ⟨q4, e4, h4⟩ := chs_at (by omega) x.cols s [] q3 r h3 (by omega) hs hv
    have e5 : headR s0 s q = (x, q4) := by
      unfold headR
      rw [e1]
      dsimp only
      rw [e2]
      dsimp only
      rw [e3]
      dsimp only
      rw [e4, List.nil_append]
    refine ⟨q4, ?_, h4⟩
    unfold headQ headE
    rw [e5]
    dsimp only
    rw [if_pos hs0, failQ_z, if_pos h4.ok]
  · rw [if_neg k5] at hs; cases hs
structure GrpOk (s : List S123) (next : Int) (g : Rf) : Prop where
  i0 : 0 ≤ g.id
  i1 : g.id ≤ next - 1
  so : soundP g.hd s = true
  de : (g.dead.length : Int) ≤ 65536
theorem grps_of (next most : Int) (s : List S123) : ∀ (l : List Rf), groupsL next most s l = 0 → ∀ g ∈ l, GrpOk s next g
  | [], _, g, hg => by cases hg
  | x :: l, h, g, hg => by
    rw [groupsL] at h
    by_cases k1 : 0 ≤ x.id ∧ x.id ≤ next - 1
    · rw [if_pos k1] at h
      by_cases k2 : soundP x.hd s = true ∧ x.hd.rows ≤ most ∧ (x.dead.length : Int) ≤ 65536
      · rw [if_pos k2] at h
        rcases List.mem_cons.1 hg with rfl | hg
        · exact ⟨k1.1, k1.2, k2.1, k2.2.2⟩
        · exact grps_of next most s l h g hg
      · rw [if_neg k2] at h
        exact absurd h (by decide)
    · rw [if_neg k1] at h
      exact absurd h (by decide)
def GrpV (g : Rf) : Prop := g.hd.dead.length = 32 ∧ ∀ c ∈ g.hd.cols, R64 c.z.f2 ∧ R64 c.z.f3 ∧ c.h.length = 32
theorem grp_at {s0 : List Int} {q : St} {g : Rf} {s : List S123} {next : Int} {r : List Int} (h : At s0 q (groupF g ++ r)) (hg : GrpOk s next g) (hn : next ≤ 1099511627776) (hv : GrpV g) : ∃ q', grpQ s0 s q = (g, q') ∧ At s0 q' r := by
  unfold groupF at h
  rw [List.append_assoc, List.append_assoc] at h
  have := hg.i1
  obtain ⟨q1, e1, h1⟩ := num_at (lim := 1099511627776) h hg.i0 (by omega) (by decide)
  obtain ⟨q2, e2, h2⟩ := head_at h1 hg.so hv.1 hv.2
  obtain ⟨q3, e3, h3⟩ := blob_at (most := 65536) h2 hg.de
  refine ⟨q3, ?_, h3⟩
  unfold grpQ
  rw [e1]
  dsimp only
  rw [e2]
  dsimp only
  rw [e3]
theorem grps_at {s0 : List Int} {s : List S123} {next : Int} (hn : next ≤ 1099511627776) : ∀ (gs : List Rf) (l : List Rf) (q : St) (r : List Int), At s0 q (groupsF gs ++ r) → (∀ g ∈ gs, GrpOk s next g ∧ GrpV g) → ∃ q', grpsQ s0 s gs.length l q = (l ++ gs, q') ∧ At s0 q' r
  | [], l, q, r, h, _ => ⟨q, by rw [List.length_nil, grpsQ, List.append_nil], h⟩
  | g :: t, l, q, r, h, hv => by
    rw [groupsF, List.append_assoc] at h
    obtain ⟨v1, v2⟩ := hv g (List.mem_cons_self ..)
    obtain ⟨q1, e1, h1⟩ := grp_at h v1 hn v2
    obtain ⟨q2, e2, h2⟩ := grps_at hn t (l ++ [g]) q1 r h1 (fun y hy => hv y (List.mem_cons_of_mem _ hy))
    refine ⟨q2, ?_, h2⟩
    rw [List.length_cons, grpsQ, if_pos h.ok, e1]
    dsimp only
    rw [e2, List.append_assoc]
    rfl
theorem entR_at {s0 : List Int} {q : St} {x : En} {r : List Int} (h : At s0 q (entP x ++ r)) (h1 : rightB x.g = true) (h2 : x.s.length = 32) (h3 : x.r.length = 32) : ∃ q', entQ s0 q = (x, q') ∧ At s0 q' r := by
  unfold rightB at h1
  simp only [Bool.and_eq_true, decide_eq_true_eq] at h1
  unfold entP at h
  rw [List.append_assoc, List.append_assoc] at h
  obtain ⟨q1, e1, k1⟩ := hash_at h h2
  obtain ⟨q2, e2, k2⟩ := var_at k1 h1.1 (by omega)
  obtain ⟨q3, e3, k3⟩ := hash_at k2 h3
  have e5 : entR s0 q = (x, q3) := by
    unfold entR
    rw [e1]
    dsimp only
    rw [e2]
    dsimp only
    rw [e3]
    dsimp only
    rw [if_neg (by omega)]
  refine ⟨q3, ?_, k3⟩
  unfold entQ
  rw [e5]
  dsimp only
  rw [if_pos k3.ok]
theorem ents_at {s0 : List Int} : ∀ (es : List En) (l : List En) (q : St) (r : List Int), At s0 q (entriesF es ++ r) → entriesL es = 0 → (∀ x ∈ es, x.s.length = 32 ∧ x.r.length = 32) → ∃ q', entsQ s0 es.length l q = (l ++ es, q') ∧ At s0 q' r
  | [], l, q, r, h, _, _ => ⟨q, by rw [List.length_nil, entsQ, List.append_nil], h⟩
  | x :: t, l, q, r, h, he, hv => by
    rw [entriesF, List.append_assoc] at h
    rw [entriesL] at he
    by_cases k1 : rightB x.g = true
    · rw [if_pos k1] at he
      obtain ⟨v1, v2⟩ := hv x (List.mem_cons_self ..)
      obtain ⟨q1, e1, h1⟩ := entR_at h k1 v1 v2
      obtain ⟨q2, e2, h2⟩ := ents_at t (l ++ [x]) q1 r h1 he (fun y hy => hv y (List.mem_cons_of_mem _ hy))
      refine ⟨q2, ?_, h2⟩
      rw [List.length_cons, entsQ, if_pos h.ok, e1]
      dsimp only
      rw [e2, List.append_assoc]
      rfl
    · rw [if_neg k1] at he
      exact absurd he (by decide)
theorem loose_of (s : List S123) : ∀ (l : List (List S68)), looseL s l = 0 → ∀ x ∈ l, rowP s x = 0
  | [], _, x, hx => by cases hx
  | y :: l, h, x, hx => by
    rw [looseL] at h
    by_cases k1 : rowP s y = 0
    · rw [if_pos k1] at h
      rcases List.mem_cons.1 hx with rfl | hx
      · exact k1
      · exact loose_of s l h x hx
    · rw [if_neg k1] at h
      exact absurd h k1
/-- What is put is read again. -/
theorem parse_put (m : Mn) (hck : checkP m = 0) (hl : ∀ x ∈ m.loose, ∀ v ∈ x, R64 v) (hg : ∀ g ∈ m.groups, GrpV g) (he : ∀ x ∈ m.entries, x.s.length = 32 ∧ x.r.length = 32) (hel : m.entries.length ≤ 1000000) (hby : ByteL (bodyP m)) (hlen : (bodyP m).length < 1000000000) :
    readM (bodyP m) = m ∧ goodM (bodyP m) := by
  have hck0 := hck
  unfold checkP at hck
  by_cases k1 : schemaP m.schema = 0
  case neg => rw [if_neg k1] at hck; exact absurd hck k1
  rw [if_pos k1] at hck
  by_cases k2 : rangesP m = true
  case neg => rw [if_neg k2] at hck; exact absurd hck (by decide)
  rw [if_pos k2] at hck
  by_cases k3 : groupsP m = 0
  case neg => rw [if_neg k3] at hck; exact absurd hck k3
  rw [if_pos k3] at hck
  by_cases k4 : looseL m.schema m.loose = 0
  case neg => rw [if_neg k4] at hck; exact absurd hck k4
  rw [if_pos k4] at hck
  by_cases k5 : (m.loose.length : Int) ≥ m.most
  case pos => rw [if_pos k5] at hck; exact absurd hck (by decide)
  rw [if_neg k5] at hck
  by_cases k6 : (m.entries.length : Int) = 0
  case pos => rw [if_pos k6] at hck; exact absurd hck (by decide)
  rw [if_neg k6] at hck
  unfold rangesP at k2
  simp only [Bool.and_eq_true, decide_eq_true_eq] at k2
  obtain ⟨⟨g0, g1⟩, ⟨n0, n1⟩, m0, m1⟩ := k2
  unfold groupsP at k3
  by_cases k7 : (m.groups.length : Int) > 1048576
  · rw [if_pos k7] at k3; exact absurd k3 (by decide)
  rw [if_neg k7] at k3
  have h0 : At (bodyP m) q0 (bodyP m ++ []) := ⟨in0 hby hlen, rfl, by rw [List.append_nil]; rfl⟩
  obtain ⟨s0, hs0⟩ : ∃ s0, s0 = bodyP m := ⟨_, rfl⟩
  rw [← hs0] at h0 hby hlen ⊢
  have h1 : At s0 q0 (varP m.gen ++ (varP m.next ++ (varP m.most ++ (schemaF m.schema ++ (varP m.groups.length ++ (groupsF m.groups ++ (rowsP m.loose ++ (varP m.entries.length ++ (entriesF m.entries ++ []))))))))) := by
    rw [List.append_nil] at h0 ⊢
    rw [hs0] at h0 ⊢
    exact h0
  clear h0
  obtain ⟨q1, e1, a1⟩ := num_at (lim := 1099511627776) h1 g0 g1 (by decide)
  obtain ⟨q2, e2, a2⟩ := num_at (lim := 1099511627776) a1 n0 n1 (by decide)
  obtain ⟨q3, e3, a3⟩ := num_at (lim := 1099511627776) a2 (by omega) (by omega) (by decide)
  obtain ⟨q4, e4, a4⟩ := schema_at a3 k1
  obtain ⟨q5, e5, a5⟩ := num_at (lim := 1099511627776) a4 (by omega) (by omega) (by decide)
  obtain ⟨q6, e6, a6⟩ := grps_at (s := m.schema) n1 m.groups [] q5 _ a5 (fun g hg' => ⟨grps_of _ _ _ _ k3 g hg', hg g hg'⟩)
  obtain ⟨q7, e7, a7⟩ := takeRows_at (s := m.schema) a6 (by omega) (fun x hx => ⟨loose_of _ _ k4 x hx, hl x hx⟩)
  obtain ⟨q8, e8, a8⟩ := num_at (lim := 1099511627776) a7 (by omega) (by omega) (by decide)
  obtain ⟨q9, e9, a9⟩ := ents_at m.entries [] q8 [] a8 hck he
  rw [List.nil_append] at e6 e9
  have f1 : genQ s0 = (m.gen, q1) := e1
  have f2 : nextQ s0 = (m.next, q2) := by unfold nextQ; rw [f1]; exact e2
  have f3 : mostQ s0 = (m.most, q3) := by unfold mostQ; rw [f2]; exact e3
  have f4 : mschQ s0 = (m.schema, q4) := by unfold mschQ; rw [f3]; exact e4
  have f5 : ngQ s0 = ((m.groups.length : Int), q5) := by unfold ngQ; rw [f4]; exact e5
  have f6 : mgrpQ s0 = (m.groups, q6) := by unfold mgrpQ; rw [f4, f5]; dsimp only; rw [Int.toNat_natCast]; exact e6
  have f7 : mrowQ s0 = (m.loose, q7) := by unfold mrowQ; rw [f4, f6]; exact e7
  have f8 : neQ s0 = ((m.entries.length : Int), q8) := by unfold neQ; rw [f7]; exact e8
  have f9 : mentQ s0 = (m.entries, q9) := by unfold mentQ; rw [f8]; dsimp only; rw [Int.toNat_natCast]; exact e9
  have hr : readM s0 = m := by unfold readM; rw [f1, f2, f3, f4, f6, f7, f9]
  refine ⟨hr, ?_, by rw [hr]; exact hck0⟩
  rw [f9]
  unfold endQ
  have hl9 := a9.len
  rw [List.length_nil] at hl9
  dsimp only
  rw [if_pos a9.ok, if_neg (by omega)]
end Go.Proofs.YtjmhiklmlgbifaaGreatDoor.PMan
end
section
namespace Go.Proofs.YtjmhiklmlgbifaaGreatDoor.FrameMath
open Go.RowKit Go.Proofs.YtjmhiklmlgbifaaGreatDoor.PMan Go.Proofs.YtjmhiklmlgbifaaGreatDoorW.PrintWords Go.Proofs.YtjmhiklmlgbifaaGreatDoorW.PrintLast
open Go.Proofs.YtjmhiklmlgbifaaGreatDoor.CrcMath
/-- Four bytes as a number, the lowest first. -/
def le4 (a b c d : Int) : Nat := a.toNat + 256 * b.toNat + 65536 * c.toNat + 16777216 * d.toNat
def B1 (x : Int) : Prop := 0 ≤ x ∧ x < 256
theorem u64_or (i : Nat) (hi : i ≤ 40) (x y : Int) (h0 : 0 ≤ x) (hx : x % 2 ^ i = 0) (h1 : x < 2 ^ 40) (k0 : 0 ≤ y) (k1 : y < 2 ^ i) : Go.bits .or .u64 x y = x + y := by
  have : (2 : Int) ^ i ≤ 2 ^ 40 := by exact_mod_cast Nat.pow_le_pow_right (n := 2) (by decide) hi
  exact bits_join .u64 40 (by decide) (fun n h0 h1 => wrap_u64 n h0 (by have : (2 : Int) ^ 40 = 1099511627776 := by decide
                                                                        omega)) i x y h0 hx h1 k0 k1 (by omega)
theorem fixv_is (a b c d : Int) (ha : B1 a) (hb : B1 b) (hc : B1 c) (hd : B1 d) : fixv [a, b, c, d] = some ((le4 a b c d : Nat) : Int) := by
  obtain ⟨a0, a1⟩ := ha
  obtain ⟨b0, b1⟩ := hb
  obtain ⟨c0, c1⟩ := hc
  obtain ⟨d0, d1⟩ := hd
  show some _ = some _
  unfold le4
  rw [wrap_u64 a (by omega) (by omega), wrap_u64 b (by omega) (by omega), wrap_u64 c (by omega) (by omega), wrap_u64 d (by omega) (by omega)]
  rw [wrap_u64 (d * 16777216) (by omega) (by omega), wrap_u64 (c * 65536) (by omega) (by omega), wrap_u64 (b * 256) (by omega) (by omega)]
  have e40 : (2 : Int) ^ 40 = 1099511627776 := by decide
  have e24 : (2 : Int) ^ 24 = 16777216 := by decide
  have e16 : (2 : Int) ^ 16 = 65536 := by decide
  have e8 : (2 : Int) ^ 8 = 256 := by decide
  rw [u64_or 40 (by omega) 0 (d * 16777216) (by omega) (by omega) (by omega) (by omega) (by omega)]
  rw [u64_or 24 (by omega) (0 + d * 16777216) (c * 65536) (by omega) (by omega) (by omega) (by omega) (by omega)]
  rw [u64_or 16 (by omega) (0 + d * 16777216 + c * 65536) (b * 256) (by omega) (by omega) (by omega) (by omega) (by omega)]
  rw [u64_or 8 (by omega) (0 + d * 16777216 + c * 65536 + b * 256) a (by omega) (by omega) (by omega) (by omega) (by omega)]
  congr 1
  omega
theorem fix_a (x0 x1 x2 x3 x4 x5 x6 x7 : Int) (h0 : B1 x0) (h1 : B1 x1) (h2 : B1 x2) (h3 : B1 x3) :
    num_Reader_Fix.f [x0, x1, x2, x3, x4, x5, x6, x7] 0 0 0 4 = some (((le4 x0 x1 x2 x3 : Nat) : Int), 4, 0, 0) := by
  unfold num_Reader_Fix.f num_Reader_Take.f
  simp only [List.length_cons, List.length_nil]
  rw [if_pos (by decide), if_pos (by decide), if_neg (by decide), if_pos (by decide), if_pos (by decide), if_neg (by decide), if_pos (by decide)]
  simp only [Option.bind_some]
  rw [show (List.take (Int.toNat (0 + 4)) [x0, x1, x2, x3, x4, x5, x6, x7]).drop (Int.toNat 0) = [x0, x1, x2, x3] from rfl, fixv_is x0 x1 x2 x3 h0 h1 h2 h3]
  rfl
theorem fix_b (x0 x1 x2 x3 x4 x5 x6 x7 : Int) (h4 : B1 x4) (h5 : B1 x5) (h6 : B1 x6) (h7 : B1 x7) :
    num_Reader_Fix.f [x0, x1, x2, x3, x4, x5, x6, x7] 4 0 0 4 = some (((le4 x4 x5 x6 x7 : Nat) : Int), 8, 0, 0) := by
  unfold num_Reader_Fix.f num_Reader_Take.f
  simp only [List.length_cons, List.length_nil]
  rw [if_pos (by decide), if_pos (by decide), if_neg (by decide), if_pos (by decide), if_pos (by decide), if_neg (by decide), if_pos (by decide)]
  simp only [Option.bind_some]
  rw [show (List.take (Int.toNat (4 + 4)) [x0, x1, x2, x3, x4, x5, x6, x7]).drop (Int.toNat 4) = [x4, x5, x6, x7] from rfl, fixv_is x4 x5 x6 x7 h4 h5 h6 h7]
  rfl
/-- Of eight bytes and more. -/
theorem get_long (x0 x1 x2 x3 x4 x5 x6 x7 : Int) (r : List Int) (h : Byte (x0 :: x1 :: x2 :: x3 :: x4 :: x5 :: x6 :: x7 :: r)) (hr : r.length ≤ 1099511627776) :
    frame_Get.f (x0 :: x1 :: x2 :: x3 :: x4 :: x5 :: x6 :: x7 :: r) = some (
      if 16777216 < le4 x0 x1 x2 x3 then ([], 0, 12) else if r.length < le4 x0 x1 x2 x3 then ([], 0, 2)
      else if le4 x4 x5 x6 x7 = (sum 0#32 ([x0, x1, x2, x3] ++ r.take (le4 x0 x1 x2 x3))).toNat then (r.take (le4 x0 x1 x2 x3), ((8 + le4 x0 x1 x2 x3 : Nat) : Int), 0) else ([], 0, 6)) := by
  have hb : ∀ x ∈ (x0 :: x1 :: x2 :: x3 :: x4 :: x5 :: x6 :: x7 :: r), B1 x := h
  have h0 := hb x0 (by simp)
  have h1 := hb x1 (by simp)
  have h2 := hb x2 (by simp)
  have h3 := hb x3 (by simp)
  have h4 := hb x4 (by simp)
  have h5 := hb x5 (by simp)
  have h6 := hb x6 (by simp)
  have h7 := hb x7 (by simp)
  have hR : Byte r := fun x hx => h x (by simp [hx])
  have hs : le4 x4 x5 x6 x7 < 4294967296 := by obtain ⟨_, _⟩ := h4; obtain ⟨_, _⟩ := h5; obtain ⟨_, _⟩ := h6; obtain ⟨_, _⟩ := h7; unfold le4; omega
  have hF : Byte [x0, x1, x2, x3] := fun x hx => hb x (by simp only [List.mem_cons, List.not_mem_nil, or_false] at hx ⊢; rcases hx with h | h | h | h <;> simp [h])
  unfold frame_Get.f frame_read.f
  rw [show List.take 8 (x0 :: x1 :: x2 :: x3 :: x4 :: x5 :: x6 :: x7 :: r) = [x0, x1, x2, x3, x4, x5, x6, x7] from rfl, fix_a x0 x1 x2 x3 x4 x5 x6 x7 h0 h1 h2 h3]
  simp only [Option.bind_some]
  rw [fix_b x0 x1 x2 x3 x4 x5 x6 x7 h4 h5 h6 h7]
  simp only [Option.bind_some, List.length_cons]
  generalize hn : le4 x0 x1 x2 x3 = n
  by_cases q1 : 16777216 < n
  · rw [if_pos (by omega), if_pos q1]
    rfl
  · rw [if_neg (by omega), if_pos trivial, if_pos (by omega), if_neg q1]
    by_cases q2 : r.length < n
    · rw [if_pos (by omega), if_pos q2]
      rfl
    · rw [if_neg (by omega), if_neg q2]
      rw [show (8 + (n : Int)).toNat = 8 + n from by omega]
      rw [show (List.take (8 + n) (x0 :: x1 :: x2 :: x3 :: x4 :: x5 :: x6 :: x7 :: r)).drop 8 = r.take n from by rw [show 8 + n = n + 1 + 1 + 1 + 1 + 1 + 1 + 1 + 1 from by omega]; rfl]
      rw [show List.take 4 (x0 :: x1 :: x2 :: x3 :: x4 :: x5 :: x6 :: x7 :: r) = [x0, x1, x2, x3] from rfl, sum_is _ hF]
      simp only [Option.bind_some]
      rw [more_is _ _ (fun x hx => hR x (List.mem_of_mem_take hx)), sum_append]
      simp only [Option.bind_some]
      have hlen : (r.take n).length = n := by rw [List.length_take]; omega
      have e1 : ((le4 x4 x5 x6 x7 : Nat) : Int) % 4294967296 = ((le4 x4 x5 x6 x7 : Nat) : Int) := by omega
      rw [e1]
      by_cases q3 : le4 x4 x5 x6 x7 = (sum 0#32 ([x0, x1, x2, x3] ++ r.take n)).toNat
      · rw [if_pos (by unfold I; exact_mod_cast q3), if_pos q3]
        simp only [Option.bind_some]
        rw [if_pos trivial, hlen]
        have : wrap64 (8 + (n : Int)) = ((8 + n : Nat) : Int) := by unfold wrap64; omega
        rw [this]
      · rw [if_neg (by unfold I; exact_mod_cast q3), if_neg q3]
        rfl
theorem get_tiny (l : List Int) (hl : l.length < 4) : frame_Get.f l = some ([], 0, 2) := by
  have h8 : List.take 8 l = l := List.take_of_length_le (by omega)
  have ha : num_Reader_Fix.f l 0 0 0 4 = some (0, 0, 2, 0) := by
    unfold num_Reader_Fix.f num_Reader_Take.f
    rw [if_pos (by decide), if_pos (by decide), if_neg (by decide), if_pos (by decide), if_pos (by omega), if_pos (by omega)]
    rfl
  have hb : num_Reader_Fix.f l 0 2 0 4 = some (0, 0, 2, 0) := by
    unfold num_Reader_Fix.f num_Reader_Take.f
    rw [if_pos (by decide), if_neg (by decide)]
    rfl
  unfold frame_Get.f frame_read.f
  rw [h8, ha, Option.bind_some]
  dsimp only
  rw [hb, Option.bind_some]
  dsimp only
  rw [if_neg (by omega), if_neg (by decide)]
  rfl
theorem get_mid (x0 x1 x2 x3 : Int) (t : List Int) (ht : t.length < 4) (h0 : B1 x0) (h1 : B1 x1) (h2 : B1 x2) (h3 : B1 x3) :
    frame_Get.f (x0 :: x1 :: x2 :: x3 :: t) = some ([], 0, if 16777216 < le4 x0 x1 x2 x3 then 12 else 2) := by
  have h8 : List.take 8 (x0 :: x1 :: x2 :: x3 :: t) = x0 :: x1 :: x2 :: x3 :: t := List.take_of_length_le (by simp only [List.length_cons]; omega)
  have ha : num_Reader_Fix.f (x0 :: x1 :: x2 :: x3 :: t) 0 0 0 4 = some (((le4 x0 x1 x2 x3 : Nat) : Int), 4, 0, 0) := by
    unfold num_Reader_Fix.f num_Reader_Take.f
    simp only [List.length_cons]
    rw [if_pos (by decide), if_pos (by decide), if_neg (by decide), if_pos (by decide), if_pos (by omega), if_neg (by omega), if_pos (by omega), Option.bind_some]
    dsimp only
    rw [show (List.take (Int.toNat (0 + 4)) (x0 :: x1 :: x2 :: x3 :: t)).drop (Int.toNat 0) = [x0, x1, x2, x3] from rfl, fixv_is x0 x1 x2 x3 h0 h1 h2 h3]
    rfl
  have hb : num_Reader_Fix.f (x0 :: x1 :: x2 :: x3 :: t) 4 0 0 4 = some (0, 4, 2, 4) := by
    unfold num_Reader_Fix.f num_Reader_Take.f
    simp only [List.length_cons]
    rw [if_pos (by decide), if_pos (by decide), if_neg (by decide), if_pos (by decide), if_pos (by omega), if_pos (by omega)]
    rfl
  unfold frame_Get.f frame_read.f
  rw [h8, ha, Option.bind_some]
  dsimp only
  rw [hb, Option.bind_some]
  dsimp only
  simp only [List.length_cons]
  by_cases q : 16777216 < le4 x0 x1 x2 x3
  · rw [if_pos (by omega), if_pos q]
    rfl
  · rw [if_neg (by omega), if_neg (by decide), if_neg q]
    rfl
/-- What one's own frame is read as. -/
theorem get_own (p c : List Int) (hp : Byte p) (hc : Byte c) (hpl : p.length ≤ 1000000) (hcl : c.length ≤ 2000000) : frame_Get.f (frameP p ++ c) = some (p, ((8 + p.length : Nat) : Int), 0) := by
  have hfr : frameP p ++ c = ((p.length % 256 : Nat) : Int) :: ((p.length / 256 % 256 : Nat) : Int) :: ((p.length / 65536 % 256 : Nat) : Int) :: ((p.length / 16777216 % 256 : Nat) : Int) :: (((fsum p).toNat % 256 : Nat) : Int) :: (((fsum p).toNat / 256 % 256 : Nat) : Int) :: (((fsum p).toNat / 65536 % 256 : Nat) : Int) :: (((fsum p).toNat / 16777216 % 256 : Nat) : Int) :: (p ++ c) := rfl
  have hs := (fsum p).isLt
  have hB : Byte (frameP p ++ c) := Byte.app (frameP_byte p hp) hc
  have e4 : ∀ n : Nat, n < 4294967296 → le4 ((n % 256 : Nat) : Int) ((n / 256 % 256 : Nat) : Int) ((n / 65536 % 256 : Nat) : Int) ((n / 16777216 % 256 : Nat) : Int) = n := by
    intro n hn
    unfold le4
    simp only [Int.toNat_natCast]
    omega
  have ht : (p ++ c).take p.length = p := by rw [List.take_append_of_le_length (by omega), List.take_length]
  rw [hfr] at hB ⊢
  rw [get_long _ _ _ _ _ _ _ _ _ hB (by rw [List.length_append]; omega), e4 p.length (by omega), e4 _ hs, ht, if_neg (by omega), if_neg (by rw [List.length_append]; omega)]
  exact congrArg some (if_pos rfl)
theorem byte_take {b : List Int} (h : Byte b) (n : Nat) : Byte (b.take n) := fun x hx => h x (List.mem_of_mem_take hx)
theorem le4_fix (n : Nat) (hn : n < 4294967296) : le4 ((n % 256 : Nat) : Int) ((n / 256 % 256 : Nat) : Int) ((n / 65536 % 256 : Nat) : Int) ((n / 16777216 % 256 : Nat) : Int) = n := by
  unfold le4
  simp only [Int.toNat_natCast]
  omega
/-- A frame that is cut off is too short. -/
theorem get_cut (p : List Int) (hp : Byte p) (hpl : p.length ≤ 1000000) (k : Nat) (hk : k < (frameP p).length) : frame_Get.f ((frameP p).take k) = some ([], 0, 2) := by
  have hlen := frameP_length p
  have hB : Byte ((frameP p).take k) := byte_take (frameP_byte p hp) k
  obtain ⟨d, hd⟩ : ∃ d, d = fix4 (fsum p).toNat ++ p := ⟨_, rfl⟩
  have hdl : d.length = 4 + p.length := by rw [hd, List.length_append, fix4_length]
  have hfr : frameP p = ((p.length % 256 : Nat) : Int) :: ((p.length / 256 % 256 : Nat) : Int) :: ((p.length / 65536 % 256 : Nat) : Int) :: ((p.length / 16777216 % 256 : Nat) : Int) :: d := by rw [hd]; rfl
  have e4 := le4_fix p.length (by omega)
  by_cases k4 : k < 4
  · exact get_tiny _ (by rw [List.length_take]; omega)
  obtain ⟨j, rfl⟩ : ∃ j, k = j + 4 := ⟨k - 4, by omega⟩
  have ht : (frameP p).take (j + 4) = ((p.length % 256 : Nat) : Int) :: ((p.length / 256 % 256 : Nat) : Int) :: ((p.length / 65536 % 256 : Nat) : Int) :: ((p.length / 16777216 % 256 : Nat) : Int) :: d.take j := by rw [hfr]; rfl
  rw [ht] at hB ⊢
  have b1 : ∀ x ∈ (((p.length % 256 : Nat) : Int) :: ((p.length / 256 % 256 : Nat) : Int) :: ((p.length / 65536 % 256 : Nat) : Int) :: ((p.length / 16777216 % 256 : Nat) : Int) :: d.take j), B1 x := hB
  by_cases j4 : j < 4
  · rw [get_mid _ _ _ _ _ (by rw [List.length_take]; omega) (b1 _ (by simp)) (b1 _ (by simp)) (b1 _ (by simp)) (b1 _ (by simp)), e4, if_neg (by omega)]
  obtain ⟨i, rfl⟩ : ∃ i, j = i + 4 := ⟨j - 4, by omega⟩
  have ht2 : d.take (i + 4) = (((fsum p).toNat % 256 : Nat) : Int) :: (((fsum p).toNat / 256 % 256 : Nat) : Int) :: (((fsum p).toNat / 65536 % 256 : Nat) : Int) :: (((fsum p).toNat / 16777216 % 256 : Nat) : Int) :: p.take i := by rw [hd]; rfl
  rw [ht2] at hB ⊢
  rw [get_long _ _ _ _ _ _ _ _ _ hB (by rw [List.length_take]; omega), e4, if_neg (by omega), if_pos (by rw [List.length_take]; omega)]
end Go.Proofs.YtjmhiklmlgbifaaGreatDoor.FrameMath
end
section
namespace Go.Proofs.YtjmhiklmlgbifaaGreatDoor.PMan
open Go.RowKit Go.Proofs.YtjmhiklmlgbifaaGreatDoorW.PrintWords Go.Proofs.YtjmhiklmlgbifaaGreatDoorW.PrintLast Go.Proofs.YtjmhiklmlgbifaaGreatDoorW.PrintMore
open Go.Proofs.YtjmhiklmlgbifaaGreatDoor.CrcMath Go.Proofs.YtjmhiklmlgbifaaGreatDoor.FrameMath
set_option linter.unusedVariables false
set_option linter.unusedSimpArgs false
theorem pick_calls (n : Int) (L : Nat) (hL : 0 < L) (hL2 : L < 1000000000) (w : World) :
    Calls Tryz.prog 21 #[.int .i64 n, .int .i64 (L : Int)] w fun e w' => ∃ k : Nat, e = .returned (.int .i64 (k : Int)) ∧ k < L ∧ w' = w := by
  have h1 := Int.tmod_lt_of_pos n (show 0 < (L : Int) by omega)
  have h2 := Int.lt_tmod_of_pos n (show 0 < (L : Int) by omega)
  have h0 : ¬ (L : Int) < 1 := by omega
  have hz : ¬ (L : Int) = 0 := by omega
  obtain ⟨t, ht⟩ : ∃ t, t = Int.tmod n L := ⟨_, rfl⟩
  rw [← ht] at h1 h2
  have hw : wrap64 t = t := by unfold wrap64; omega
  have hw2 : t < 0 → wrap64 (t + L) = t + L := fun h => by unfold wrap64; omega
  rw [ht] at hw
  go_enter Tryz.func21, Tryz.ntmps21
  by_cases hn : t < 0
  · have h3 := hw2 hn
    have hn' := hn
    rw [ht] at h3 hn'
    go_wp2
    go_ret
    exact ⟨(t + L).toNat, by rw [Int.toNat_of_nonneg (by omega), ht]; rfl, by omega, rfl⟩
  · have hn' := hn
    rw [ht] at hn'
    go_wp2
    go_ret
    exact ⟨t.toNat, by rw [Int.toNat_of_nonneg (by omega), ht]; rfl, by omega, rfl⟩
end Go.Proofs.YtjmhiklmlgbifaaGreatDoor.PMan
end
