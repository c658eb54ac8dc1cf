/- Texts of this proof, put into one, without what it does not use: MuA, MuB, MuC. -/
import Derived.Test.YtjmhiklmlgbifaaGreatDoorPB32
import Derived.Laws.CopyRow
import Derived.Lib.Zigzag
section
namespace Go.Proofs.YtjmhiklmlgbifaaGreatDoor.PMan
open Go.RowKit Go.Proofs.YtjmhiklmlgbifaaGreatDoorW.PrintWords Go.Proofs.YtjmhiklmlgbifaaGreatDoorW.PrintLast Go.Proofs.YtjmhiklmlgbifaaGreatDoorW.PrintMore
set_option linter.unusedVariables false
set_option linter.unusedSimpArgs false
def zagP (v : Int) : Int := if v % 2 = 0 then v / 2 else -(v / 2) - 1
/-- A value taken. -/
def valQ (s0 : List Int) (q : St) : S68 × St :=
  if (fixQ s0 q).1 = 1 then (if (varQ s0 (fixQ s0 q).2).2.2.1 = 0 then ⟨1, zagP (varQ s0 (fixQ s0 q).2).1, z68.f2⟩ else z68, (varQ s0 (fixQ s0 q).2).2)
  else if (fixQ s0 q).1 = 2 then (if (blobQ s0 65536 (fixQ s0 q).2).2.2.1 = 0 then ⟨2, 0, strOfNums (blobQ s0 65536 (fixQ s0 q).2).1⟩ else z68, (blobQ s0 65536 (fixQ s0 q).2).2)
  else if (fixQ s0 q).1 = 0 then (z68, (fixQ s0 q).2) else (z68, failQ 4 (fixQ s0 q).2)
/-- A column taken. -/
def colQ (s0 : List Int) (q : St) : S123 × St :=
  (⟨(fixQ s0 q).1, (fixQ s0 (fixQ s0 q).2).1 == 1, (fixQ s0 (fixQ s0 (fixQ s0 q).2).2).1 - 1⟩, if (fixQ s0 (fixQ s0 q).2).1 > 1 then failQ 4 (fixQ s0 (fixQ s0 (fixQ s0 q).2).2).2 else (fixQ s0 (fixQ s0 (fixQ s0 q).2).2).2)
def colsQ (s0 : List Int) : Nat → List S123 → St → List S123 × St
  | 0, l, q => (l, q)
  | n + 1, l, q => if q.2.1 = 0 then colsQ s0 n (l ++ [(colQ s0 q).1]) (colQ s0 q).2 else (l, q)
/-- What is told of a list where there is no error. -/
def okL {α : Type} (e : Int) (r : List α × St) : List α × St := if (failQ e r.2).2.1 = 0 then (r.1, failQ e r.2) else ([], failQ e r.2)
/-- A schema taken. -/
def schQ (s0 : List Int) (q : St) : List S123 × St := okL (schemaP (colsQ s0 (fixQ s0 q).1.toNat [] (fixQ s0 q).2).1) (colsQ s0 (fixQ s0 q).1.toNat [] (fixQ s0 q).2)
def rowQ (s0 : List Int) : Nat → List S68 → St → List S68 × St
  | 0, l, q => (l, q)
  | n + 1, l, q => rowQ s0 n (l ++ [(valQ s0 q).1]) (valQ s0 q).2
def rowsQ (s0 : List Int) (s : List S123) : Nat → List (List S68) → St → List (List S68) × St
  | 0, l, q => (l, q)
  | n + 1, l, q => if q.2.1 = 0 then rowsQ s0 s n (l ++ [(rowQ s0 s.length [] q).1]) (failQ (rowP s (rowQ s0 s.length [] q).1) (rowQ s0 s.length [] q).2) else (l, q)
/-- How many rows, taken. -/
def rowsN (s0 : List Int) (q : St) : Int × St := ((varQ s0 q).1, if (varQ s0 q).1 > 65536 then failQ 12 (varQ s0 q).2 else (varQ s0 q).2)
/-- Rows taken. -/
def takeRowsQ (s0 : List Int) (s : List S123) (q : St) : List (List S68) × St := okL 0 (rowsQ s0 s (rowsN s0 q).1.toNat [] (rowsN s0 q).2)
def zH : List Int := List.replicate 32 0
/-- A digest taken. -/
def hashQ (s0 : List Int) (q : St) : List Int × St := (if (takeQ s0 32 q).2.2.1 = 0 then (takeQ s0 32 q).1 else zH, (takeQ s0 32 q).2)
/-- A zone taken. -/
def zoneQ (s0 : List Int) (q : St) : S70 × St :=
  if (fixQ s0 (numQ 65536 s0 q).2).1 = 1 then
    (⟨(numQ 65536 s0 q).1, true, (valQ s0 (fixQ s0 (numQ 65536 s0 q).2).2).1, (valQ s0 (valQ s0 (fixQ s0 (numQ 65536 s0 q).2).2).2).1⟩, (valQ s0 (valQ s0 (fixQ s0 (numQ 65536 s0 q).2).2).2).2)
  else (⟨(numQ 65536 s0 q).1, false, z68, z68⟩, if (fixQ s0 (numQ 65536 s0 q).2).1 = 0 then (fixQ s0 (numQ 65536 s0 q).2).2 else failQ 4 (fixQ s0 (numQ 65536 s0 q).2).2)
/-- A column's head taken. -/
def chQ (s0 : List Int) (q : St) : CH × St := (⟨(zoneQ s0 q).1, (hashQ s0 (zoneQ s0 q).2).1⟩, (hashQ s0 (zoneQ s0 q).2).2)
def chsQ (s0 : List Int) : Nat → List CH → St → List CH × St
  | 0, l, q => (l, q)
  | n + 1, l, q => if q.2.1 = 0 then chsQ s0 n (l ++ [(chQ s0 q).1]) (chQ s0 q).2 else (l, q)
def zHead : Hd := ⟨0, 0, zH, []⟩
/-- A header as it stands, not looked at yet. -/
def headR (s0 : List Int) (s : List S123) (q : St) : Hd × St :=
  (⟨(numQ 65536 s0 q).1, (numQ 65536 s0 (numQ 65536 s0 q).2).1, (hashQ s0 (numQ 65536 s0 (numQ 65536 s0 q).2).2).1, (chsQ s0 s.length [] (hashQ s0 (numQ 65536 s0 (numQ 65536 s0 q).2).2).2).1⟩, (chsQ s0 s.length [] (hashQ s0 (numQ 65536 s0 (numQ 65536 s0 q).2).2).2).2)
/-- What is wrong with a header. -/
def headE (s0 : List Int) (s : List S123) (q : St) : Int := if soundP (headR s0 s q).1 s = true then 0 else 4
/-- A header taken. -/
def headQ (s0 : List Int) (s : List S123) (q : St) : Hd × St :=
  (if (failQ (headE s0 s q) (headR s0 s q).2).2.1 = 0 then (headR s0 s q).1 else zHead, failQ (headE s0 s q) (headR s0 s q).2)
def zEnt : En := ⟨zH, 0, zH⟩
/-- An entry as it stands. -/
def entR (s0 : List Int) (q : St) : En × St :=
  (⟨(hashQ s0 q).1, (varQ s0 (hashQ s0 q).2).1, (hashQ s0 (varQ s0 (hashQ s0 q).2).2).1⟩, if (varQ s0 (hashQ s0 q).2).1 > 1048576 then failQ 5 (hashQ s0 (varQ s0 (hashQ s0 q).2).2).2 else (hashQ s0 (varQ s0 (hashQ s0 q).2).2).2)
/-- An entry taken. -/
def entQ (s0 : List Int) (q : St) : En × St := (if (entR s0 q).2.2.1 = 0 then (entR s0 q).1 else zEnt, (entR s0 q).2)
/-- A group taken. -/
def grpQ (s0 : List Int) (s : List S123) (q : St) : Rf × St :=
  (⟨(numQ 1099511627776 s0 q).1, (headQ s0 s (numQ 1099511627776 s0 q).2).1, (blobQ s0 65536 (headQ s0 s (numQ 1099511627776 s0 q).2).2).1⟩, (blobQ s0 65536 (headQ s0 s (numQ 1099511627776 s0 q).2).2).2)
def grpsQ (s0 : List Int) (s : List S123) : Nat → List Rf → St → List Rf × St
  | 0, l, q => (l, q)
  | n + 1, l, q => if q.2.1 = 0 then grpsQ s0 s n (l ++ [(grpQ s0 s q).1]) (grpQ s0 s q).2 else (l, q)
def entsQ (s0 : List Int) : Nat → List En → St → List En × St
  | 0, l, q => (l, q)
  | n + 1, l, q => if q.2.1 = 0 then entsQ s0 n (l ++ [(entQ s0 q).1]) (entQ s0 q).2 else (l, q)
def q0 : St := (0, 0, 0)
def genQ (s0 : List Int) : Int × St := numQ 1099511627776 s0 q0
def nextQ (s0 : List Int) : Int × St := numQ 1099511627776 s0 (genQ s0).2
def mostQ (s0 : List Int) : Int × St := numQ 1099511627776 s0 (nextQ s0).2
def mschQ (s0 : List Int) : List S123 × St := schQ s0 (mostQ s0).2
def ngQ (s0 : List Int) : Int × St := numQ 1099511627776 s0 (mschQ s0).2
def mgrpQ (s0 : List Int) : List Rf × St := grpsQ s0 (mschQ s0).1 (ngQ s0).1.toNat [] (ngQ s0).2
def mrowQ (s0 : List Int) : List (List S68) × St := takeRowsQ s0 (mschQ s0).1 (mgrpQ s0).2
def neQ (s0 : List Int) : Int × St := numQ 1099511627776 s0 (mrowQ s0).2
def mentQ (s0 : List Int) : List En × St := entsQ s0 (neQ s0).1.toNat [] (neQ s0).2
/-- A manifest as it stands in its frame. -/
def readM (s0 : List Int) : Mn := ⟨(genQ s0).1, (nextQ s0).1, (mschQ s0).1, (mostQ s0).1, (mgrpQ s0).1, (mrowQ s0).1, (mentQ s0).1⟩
/-- The error at the end. -/
def endQ (s0 : List Int) (q : St) : Int := if q.2.1 = 0 then (if q.1 < s0.length then 3 else 0) else q.2.1
def zMn : Mn := ⟨0, 0, [], 0, [], [], []⟩
/-- A frame's bytes are a manifest? -/
def goodM (s0 : List Int) : Prop := endQ s0 (mentQ s0).2 = 0 ∧ checkP (readM s0) = 0
instance (s0 : List Int) : Decidable (goodM s0) := by unfold goodM; infer_instance
theorem failQ_err {e : Int} {q : St} (h : q.2.1 ≠ 0) : failQ e q = q := by unfold failQ; rw [if_neg h]
theorem failQ_ne {e : Int} (q : St) (h : e ≠ 0) : (failQ e q).2.1 ≠ 0 := by
  unfold failQ
  rw [if_neg h]
  split
  · exact h
  · assumption
theorem failQ_zero (q : St) : failQ 0 q = q := by
  unfold failQ
  split
  · rw [if_pos rfl]
  · rfl
theorem takeQ_err {s0 : List Int} {n : Int} {q : St} (h : q.2.1 ≠ 0) : takeQ s0 n q = ([], q) := by unfold takeQ; rw [if_neg h]
theorem fixQ_err {s0 : List Int} {q : St} (h : q.2.1 ≠ 0) : fixQ s0 q = (0, q) := by unfold fixQ; rw [takeQ_err h]; rfl
theorem varQ_err {s0 : List Int} {q : St} (h : q.2.1 ≠ 0) : varQ s0 q = (0, q) := by unfold varQ varS; rw [if_neg h]
theorem numQ_err {s0 : List Int} {lim : Int} {q : St} (hl : 0 ≤ lim) (h : q.2.1 ≠ 0) : numQ lim s0 q = (0, q) := by unfold numQ; rw [varQ_err h]; unfold upN; rw [if_neg (by dsimp only; omega)]
theorem hashQ_err {s0 : List Int} {q : St} (h : q.2.1 ≠ 0) : hashQ s0 q = (zH, q) := by unfold hashQ; rw [takeQ_err h]; dsimp only; rw [if_neg h]
theorem colsQ_err {s0 : List Int} {n : Nat} {l : List S123} {q : St} (h : q.2.1 ≠ 0) : colsQ s0 n l q = (l, q) := by
  cases n with
  | zero => rfl
  | succ n => rw [colsQ, if_neg h]
theorem zoneQ_err {s0 : List Int} {q : St} (h : q.2.1 ≠ 0) : (zoneQ s0 q).2 = q := by
  unfold zoneQ
  rw [numQ_err (by decide) h]
  dsimp only
  rw [fixQ_err h]
  dsimp only
  rw [if_neg (by decide), if_pos rfl]
theorem chQ_err {s0 : List Int} {q : St} (h : q.2.1 ≠ 0) : (chQ s0 q).2 = q := by
  have hz := zoneQ_err (s0 := s0) h
  unfold chQ
  dsimp only
  rw [hz, hashQ_err h]
theorem chsQ_err {s0 : List Int} {n : Nat} {l : List CH} {q : St} (h : q.2.1 ≠ 0) : chsQ s0 n l q = (l, q) := by
  cases n with
  | zero => rfl
  | succ n => rw [chsQ, if_neg h]
theorem rowsQ_err {s0 : List Int} {s : List S123} {n : Nat} {l : List (List S68)} {q : St} (h : q.2.1 ≠ 0) : rowsQ s0 s n l q = (l, q) := by
  cases n with
  | zero => rfl
  | succ n => rw [rowsQ, if_neg h]
theorem numQ_in {lim : Int} {s0 : List Int} {q : St} (h : In s0 q) : In s0 (numQ lim s0 q).2 := varQ_in h
theorem numQ_range {lim : Int} {s0 : List Int} {q : St} (hl : 0 ≤ lim) (h : In s0 q) : 0 ≤ (numQ lim s0 q).1 ∧ (numQ lim s0 q).1 ≤ lim + 1 := by
  have hv := varQ_range h
  show 0 ≤ upN lim (varQ s0 q).1 ∧ upN lim (varQ s0 q).1 ≤ lim + 1
  unfold upN
  split
  · omega
  · omega
theorem valQ_in {s0 : List Int} {q : St} (h : In s0 q) : In s0 (valQ s0 q).2 := by
  unfold valQ
  split
  · exact varQ_in (fixQ_in h)
  · split
    · exact blobQ_in _ (fixQ_in h)
    · split
      · exact fixQ_in h
      · exact failQ_in _ (fixQ_in h)
theorem colQ_in {s0 : List Int} {q : St} (h : In s0 q) : In s0 (colQ s0 q).2 := by
  unfold colQ
  dsimp only
  split
  · exact failQ_in _ (fixQ_in (fixQ_in (fixQ_in h)))
  · exact fixQ_in (fixQ_in (fixQ_in h))
theorem colsQ_in {s0 : List Int} : ∀ (n : Nat) (l : List S123) (q : St), In s0 q → In s0 (colsQ s0 n l q).2
  | 0, _, _, h => h
  | n + 1, l, q, h => by
    rw [colsQ]
    split
    · exact colsQ_in n _ _ (colQ_in h)
    · exact h
theorem okL_in {α : Type} {s0 : List Int} {e : Int} {r : List α × St} (h : In s0 r.2) : In s0 (okL e r).2 := by
  unfold okL
  split
  · exact failQ_in _ h
  · exact failQ_in _ h
theorem schQ_in {s0 : List Int} {q : St} (h : In s0 q) : In s0 (schQ s0 q).2 := okL_in (colsQ_in _ _ _ (fixQ_in h))
theorem rowQ_in {s0 : List Int} : ∀ (n : Nat) (l : List S68) (q : St), In s0 q → In s0 (rowQ s0 n l q).2
  | 0, _, _, h => h
  | n + 1, l, q, h => by rw [rowQ]; exact rowQ_in n _ _ (valQ_in h)
theorem rowsQ_in {s0 : List Int} {s : List S123} : ∀ (n : Nat) (l : List (List S68)) (q : St), In s0 q → In s0 (rowsQ s0 s n l q).2
  | 0, _, _, h => h
  | n + 1, l, q, h => by
    rw [rowsQ]
    split
    · exact rowsQ_in n _ _ (failQ_in _ (rowQ_in _ _ _ h))
    · exact h
theorem rowsN_in {s0 : List Int} {q : St} (h : In s0 q) : In s0 (rowsN s0 q).2 := by
  unfold rowsN
  dsimp only
  split
  · exact failQ_in _ (varQ_in h)
  · exact varQ_in h
theorem takeRowsQ_in {s0 : List Int} {s : List S123} {q : St} (h : In s0 q) : In s0 (takeRowsQ s0 s q).2 := okL_in (rowsQ_in _ _ _ (rowsN_in h))
theorem hashQ_in {s0 : List Int} {q : St} (h : In s0 q) : In s0 (hashQ s0 q).2 := takeQ_in 32 (by decide) h
theorem hashQ_len {s0 : List Int} {q : St} (h : In s0 q) : (hashQ s0 q).1.length = 32 := by
  have hl := takeQ_len 32 (by decide) h
  unfold hashQ
  dsimp only
  split
  · rename_i e
    rcases hl with ⟨h1, _⟩ | ⟨_, h2⟩
    · exact h1
    · exact absurd e h2
  · rfl
theorem zoneQ_in {s0 : List Int} {q : St} (h : In s0 q) : In s0 (zoneQ s0 q).2 := by
  unfold zoneQ
  split
  · exact valQ_in (valQ_in (fixQ_in (numQ_in h)))
  · dsimp only
    split
    · exact fixQ_in (numQ_in h)
    · exact failQ_in _ (fixQ_in (numQ_in h))
theorem chQ_in {s0 : List Int} {q : St} (h : In s0 q) : In s0 (chQ s0 q).2 := hashQ_in (zoneQ_in h)
theorem chsQ_in {s0 : List Int} : ∀ (n : Nat) (l : List CH) (q : St), In s0 q → In s0 (chsQ s0 n l q).2
  | 0, _, _, h => h
  | n + 1, l, q, h => by
    rw [chsQ]
    split
    · exact chsQ_in n _ _ (chQ_in h)
    · exact h
theorem headR_in {s0 : List Int} {s : List S123} {q : St} (h : In s0 q) : In s0 (headR s0 s q).2 := chsQ_in _ _ _ (hashQ_in (numQ_in (numQ_in h)))
theorem headQ_in {s0 : List Int} {s : List S123} {q : St} (h : In s0 q) : In s0 (headQ s0 s q).2 := failQ_in _ (headR_in h)
theorem headR_dead {s0 : List Int} {s : List S123} {q : St} (h : In s0 q) : (headR s0 s q).1.dead.length = 32 := hashQ_len (numQ_in (numQ_in h))
theorem headQ_dead {s0 : List Int} {s : List S123} {q : St} (h : In s0 q) : (headQ s0 s q).1.dead.length = 32 := by
  unfold headQ
  dsimp only
  split
  · exact headR_dead h
  · rfl
theorem entR_in {s0 : List Int} {q : St} (h : In s0 q) : In s0 (entR s0 q).2 := by
  unfold entR
  dsimp only
  split
  · exact failQ_in _ (hashQ_in (varQ_in (hashQ_in h)))
  · exact hashQ_in (varQ_in (hashQ_in h))
theorem entQ_in {s0 : List Int} {q : St} (h : In s0 q) : In s0 (entQ s0 q).2 := entR_in h
theorem grpQ_in {s0 : List Int} {s : List S123} {q : St} (h : In s0 q) : In s0 (grpQ s0 s q).2 := blobQ_in _ (headQ_in (numQ_in h))
theorem grpsQ_in {s0 : List Int} {s : List S123} : ∀ (n : Nat) (l : List Rf) (q : St), In s0 q → In s0 (grpsQ s0 s n l q).2
  | 0, _, _, h => h
  | n + 1, l, q, h => by
    rw [grpsQ]
    split
    · exact grpsQ_in n _ _ (grpQ_in h)
    · exact h
theorem entsQ_in {s0 : List Int} : ∀ (n : Nat) (l : List En) (q : St), In s0 q → In s0 (entsQ s0 n l q).2
  | 0, _, _, h => h
  | n + 1, l, q, h => by
    rw [entsQ]
    split
    · exact entsQ_in n _ _ (entQ_in h)
    · exact h
end Go.Proofs.YtjmhiklmlgbifaaGreatDoor.PMan
end
section
namespace Go.Proofs.YtjmhiklmlgbifaaGreatDoor.PMan
open Go.RowKit Go.Proofs.YtjmhiklmlgbifaaGreatDoorW.PrintWords Go.Proofs.YtjmhiklmlgbifaaGreatDoorW.PrintLast Go.Proofs.YtjmhiklmlgbifaaGreatDoorW.PrintMore
set_option linter.unusedVariables false
set_option linter.unusedSimpArgs false
section
variable {α : Type} {d : Kd α} {e base : Nat} {ok : Nat → Prop} {w0 w W w1 : World} {g : Nat} {s0 : List Int} {q : St} {v : Value} {xs : List α}
/-- A made row, past a call that turns the reader alone. -/
theorem R_past (h : d.R e W base ok v xs) (hb : g < base) (hk : KeepBut W w1 g none) : d.R e w1 base ok v xs :=
  Kd.R_mono (Kd.R_keep (Kd.R_bound h) hk (fun k hk => by have := hk.2.1; omega)) (fun _ h => h.1)
/-- The reader, past an append to a made row. -/
theorem Rs.grown (h : Rs w0 W g s0 q) (hv : d.R e W base ok v xs) (hb : g < base) (hle : base ≤ W.heap.size) (he : e ≠ 184) (hg : W.grownBy w1 v.ownBlock) : Rs w0 w1 g s0 q := by
  obtain ⟨⟨A, c, ev, k1, k2, k3, k4, k5⟩, hbel, herr, hin⟩ := h
  have hne : ∀ i, i < base → some i ≠ v.ownBlock := fun i hi e => by have := Kd.R_base hv i e.symm; omega
  refine ⟨⟨A, c, ev, (hg.block g (blk_lt k1) (hne g hb)).trans k1, k2, k3, k4, k5.move fun k _ cs hk => hg.block k (blk_lt hk) (Kd.R_ne hv hk he)⟩, hbel.grown hg hbel.size (fun k hk => ?_), herr, hin⟩
  have := Kd.R_base hv k hk
  omega
theorem KeepBut.grown (h : KeepBut w W g none) (hv : d.R e W base ok v xs) (hb : w.heap.size ≤ base) (hg : W.grownBy w1 v.ownBlock) : KeepBut w w1 g none :=
  ⟨Nat.le_trans h.1 hg.size, fun i hi h1 h2 => (hg.block i (Nat.lt_of_lt_of_le hi h.1) (fun e => by have := Kd.R_base hv i e.symm; omega)).trans (h.2 i hi h1 h2)⟩
/-- The reader, past a store into a block that is neither its own nor of its bytes nor of its fault: a block that is newer than the reader and of another type. -/
theorem Rs.lt (h : Rs w0 W g s0 q) : g < W.heap.size := h.rd.lt
theorem Rs.ge (h : Rs w0 W g s0 q) : w0.heap.size ≤ g := by
  obtain ⟨⟨A, c, ev, k1, k2, k3, k4, k5⟩, _, _, _⟩ := h
  exact k2
theorem Rs.other (h : Rs w0 W g s0 q) {b t : Nat} {cs : Array Value} (hx : W.heap[b]? = some (.cells cs t (0, 0))) (ht : t ≠ 184) (hb : g < b) (hos : w1.os = W.os) (htp : w1.tape = W.tape) (hou : w1.output = W.output) (hsz : W.heap.size ≤ w1.heap.size)
    (hw : ∀ i, i < W.heap.size → i ≠ b → w1.heap[i]? = W.heap[i]?) : Rs w0 w1 g s0 q := by
  have hge := h.ge
  obtain ⟨⟨A, c, ev, k1, k2, k3, k4, k5⟩, hbel, herr, hin⟩ := h
  refine ⟨⟨A, c, ev, (hw g (blk_lt k1) (by omega)).trans k1, k2, k3, k4, k5.move fun k _ cs' hk => hw k (blk_lt hk) (fun e => ?_)⟩, ⟨hos.trans hbel.os, htp.trans hbel.tape, hou.trans hbel.output, Nat.le_trans hbel.size hsz, fun k hk => (hw k (Nat.lt_of_lt_of_le hk hbel.size) (by omega)).trans (hbel.block k hk)⟩, herr, hin⟩
  subst e
  rw [hx] at hk
  injection hk with hk
  injection hk with _ hk
  exact ht hk
theorem Rs.setRow (h : Rs w0 W g s0 q) {b t : Nat} {cs : Array Value} (hx : W.heap[b]? = some (.cells cs t (0, 0))) (ht : t ≠ 184) (hb : g < b) (c : Array Value) : Rs w0 (W.setRow b c) g s0 q :=
  h.other hx ht hb rfl rfl rfl (by rw [setRow_size]; exact Nat.le_refl _) (fun i _ hi => setRow_other W b i c hi)
theorem Rs.setCell (h : Rs w0 W g s0 q) {b t : Nat} {cs : Array Value} (hx : W.heap[b]? = some (.cells cs t (0, 0))) (ht : t ≠ 184) (hb : g < b) (o : Nat) (u : Value) : Rs w0 (W.setCell ⟨b, o, none⟩ u) g s0 q :=
  h.other hx ht hb rfl rfl rfl (by simp [World.setCell]) (fun i _ hi => Below.heap_setCell W _ _ i hi)
theorem KeepBut.row (h : KeepBut w W g none) {b : Nat} (hb : w.heap.size ≤ b) (c : Array Value) : KeepBut w (W.setRow b c) g none :=
  ⟨by rw [setRow_size]; exact h.1, fun i hi h1 h2 => (setRow_other W b i c (by omega)).trans (h.2 i hi h1 h2)⟩
theorem KeepBut.cell (h : KeepBut w W g none) {b : Nat} (hb : w.heap.size ≤ b) (o : Nat) (u : Value) : KeepBut w (W.setCell ⟨b, o, none⟩ u) g none :=
  ⟨by simpa [World.setCell] using h.1, fun i hi h1 h2 => (Below.heap_setCell W _ _ i (by show i ≠ b; omega)).trans (h.2 i hi h1 h2)⟩
/-- Another block, past a call that turns the reader alone. -/
theorem KeepBut.at_ {o : Obj} (hk : KeepBut W w1 g none) {b : Nat} (hb : W.heap[b]? = some o) (hne : b ≠ g) : w1.heap[b]? = some o := (hk.2 b (blk_lt hb) hne (by simp)).trans hb
end
end Go.Proofs.YtjmhiklmlgbifaaGreatDoor.PMan
end
section
namespace Go.Proofs.YtjmhiklmlgbifaaGreatDoor.PMan
open Go.RowKit Go.Proofs.YtjmhiklmlgbifaaGreatDoorW.PrintWords Go.Proofs.YtjmhiklmlgbifaaGreatDoorW.PrintLast Go.Proofs.YtjmhiklmlgbifaaGreatDoorW.PrintMore
attribute [local go_sem] max2_int min2_int max_two min_two
set_option linter.unusedVariables false
set_option linter.unusedSimpArgs false
theorem xor_i64_0 (x : Int) (h0 : 0 ≤ x) (h1 : x < 9223372036854775808) : bits .xor .i64 x 0 = x := by
  obtain ⟨n, rfl⟩ := Int.eq_ofNat_of_zero_le h0
  show IntKind.i64.wrap ((BitVec.ofInt 64 (n : Int) ^^^ BitVec.ofInt 64 0).toNat : Int) = _
  have h2 : (BitVec.ofInt 64 (n : Int)).toNat = n := by
    rw [BitVec.ofInt_natCast, BitVec.toNat_ofNat]; exact Nat.mod_eq_of_lt (by omega)
  rw [show BitVec.ofInt 64 0 = 0#64 from rfl, BitVec.xor_zero, h2, IntKind.wrap_i64]
  omega
theorem xor_i64_1 (x : Int) (h0 : 0 ≤ x) (h1 : x < 9223372036854775808) : bits .xor .i64 x (-1) = -x - 1 := by
  obtain ⟨n, rfl⟩ := Int.eq_ofNat_of_zero_le h0
  rw [← Lib.i64_not n (by omega)]
  show IntKind.i64.wrap ((BitVec.ofInt 64 (n : Int) ^^^ BitVec.ofInt 64 (-1)).toNat : Int) = IntKind.i64.wrap ((BitVec.ofInt 64 (-1) ^^^ BitVec.ofInt 64 (n : Int)).toNat : Int)
  rw [BitVec.xor_comm]
theorem zag_bits (v : Int) (h0 : 0 ≤ v) (h1 : v < 18446744073709551616) : bits .xor .i64 (v / 2) (wrap64 (-wrap64 (v % 2))) = zagP v := by
  unfold zagP
  have a0 : 0 ≤ v / 2 := by omega
  have a1 : v / 2 < 9223372036854775808 := by omega
  by_cases h : v % 2 = 0
  · rw [if_pos h, h, show wrap64 (-wrap64 0) = 0 from by unfold wrap64; omega]
    exact xor_i64_0 (v / 2) a0 a1
  · rw [if_neg h, show v % 2 = 1 by omega, show wrap64 (-wrap64 1) = -1 from by unfold wrap64; omega]
    exact xor_i64_1 (v / 2) a0 a1
set_option maxHeartbeats 1600000 in
set_option maxRecDepth 100000 in
theorem zag_calls (v : Int) (h0 : 0 ≤ v) (h1 : v < 18446744073709551616) (w : World) : Calls Tryz.prog 142 #[.int .u64 v] w fun e w' => e = .returned (.int .i64 (zagP v)) ∧ w' = w := by
  have e := zag_bits v h0 h1
  have ea := Lib.u64_and1 v h0 h1
  rw [← ea] at e
  have HE := Aside0.mk e
  clear e ea
  go_enter Tryz.func142, Tryz.ntmps142
  go_wp2
  go_ret
  rw [← HE.out]
  exact ⟨rfl, rfl⟩
def vCells (v : S68) : Array Value := #[.int .i64 v.f0, .int .i64 v.f1, .string v.f2]
theorem vCells_all (v : S68) : (vCells v).all (·.oneCell') = true := by simp [vCells, Value.oneCell']
theorem fix_wrap {s0 : List Int} {q : St} (h : In s0 q) : wrap64 (fixQ s0 q).1 = (fixQ s0 q).1 := by
  have := fixQ_range h
  unfold wrap64
  omega
abbrev vObj (v : S68) : Obj := .cells (vCells v) 68 (0, 0)
set_option maxHeartbeats 4000000 in
set_option maxRecDepth 100000 in
theorem qVal (w0 w : World) (g : Nat) (s0 : List Int) (q : St) (h : Rs w0 w g s0 q) :
    Calls Tryz.prog 128 #[.pointer (some ⟨g, 0, none⟩)] w fun e w' => e = .returned (.agg (vCells (valQ s0 q).1)) ∧ Rs w0 w' g s0 (valQ s0 q).2 ∧ KeepBut w w' g none := by
  have HR := Aside0.mk h
  have hlt := h.lt
  have hfr := fixQ_range h.inn
  have hfw := fix_wrap h.inn
  obtain ⟨r, hr⟩ : ∃ r, r = valQ s0 q := ⟨_, rfl⟩
  rw [← hr]
  unfold valQ at hr
  have hF := fun W (H : Rs w0 W g s0 q) => qFix w0 W g s0 q H
  clear h
  obtain ⟨k, q1, hkq⟩ : ∃ k q1, fixQ s0 q = (k, q1) := ⟨_, _, rfl⟩
  rw [hkq] at hr hfr hfw
  simp only [hkq] at hF
  dsimp only at hr hfr hfw
  clear hkq
  obtain ⟨k0, k1⟩ := hfr
  have HRES := Aside0.mk hr
  have HFX := Aside0.mk hF
  have HFW := Aside0.mk hfw
  clear hr hF hfw
  go_enter Tryz.func128, Tryz.ntmps128
  go_wp2_with fail
  have hx0 : (w.alloc (.cells #[.int .i64 0, .int .i64 0, .string ⟨#[]⟩] 68)).heap[w.heap.size]? = some (vObj z68) := heap_alloc_new w _
  have hb0 : Below w.heap.size w (w.alloc (.cells #[.int .i64 0, .int .i64 0, .string ⟨#[]⟩] 68)) := below_alloc (Below.refl _ _) _
  generalize w.alloc (.cells #[.int .i64 0, .int .i64 0, .string ⟨#[]⟩] 68) = W0 at *
  refine (HFX.out W0 (HR.out.below hb0)).mono ?_
  rintro e w1 ⟨rfl, hr1, hk1⟩
  have HR1 := Aside0.mk hr1
  have HK1 := Aside0.mk (keep_then (KeepBut.of_below hb0 g none) hk1)
  have HX1 : Aside0 (w1.heap[w.heap.size]? = some (vObj z68)) := Aside0.mk (KeepBut.at_ hk1 hx0 (by omega))
  clear hb0 hx0 hr1 hk1 HFX HR
  have hfw := HFW.out
  by_cases e1 : k = 1
  · subst e1
    have hr := HRES.out
    rw [if_pos rfl] at hr
    have HRR := Aside0.mk hr
    have hvr := varQ_range HR1.out.inn
    have hF := fun H => qVar w0 w1 g s0 q1 H
    obtain ⟨v, q2, hvq⟩ : ∃ v q2, varQ s0 q1 = (v, q2) := ⟨_, _, rfl⟩
    rw [hvq] at HRR hvr hF
    dsimp only at HRR hvr hF
    have HFX := Aside0.mk hF
    have HVR := Aside0.mk hvr
    clear hr hvq hF hvr hfw
    go_wp2_with fail
    refine (HFX.out HR1.out).mono ?_
    rintro e w2 ⟨rfl, hr2, hk2⟩
    have HR2 := Aside0.mk hr2
    have HK2 := Aside0.mk (keep_then HK1.out hk2)
    have HX2 := Aside0.mk (KeepBut.at_ hk2 HX1.out (by omega))
    clear hr2 hk2
    go_wp2_with fail
    refine (zag_calls v HVR.out.1 HVR.out.2 w2).mono ?_
    rintro e w3 ⟨rfl, hw⟩
    rw [hw]
    clear hw w3
    go_wp2_with (refine wpList_store_row rfl 68 (.tmp 2) (.tmp 18) rfl w.heap.size (vCells ⟨1, zagP v, z68.f2⟩) rfl rfl 68 _ HX2.out (by kernel_rfl) rfl (vCells_all _) ?_)
    have HR3 := Aside0.mk (HR2.out.setRow HX2.out (by decide) hlt (vCells ⟨1, zagP v, z68.f2⟩))
    have HX3 := Aside0.mk (setRow_heap w2 w.heap.size _ (vCells ⟨1, zagP v, z68.f2⟩) _ _ HX2.out)
    have HK3 := Aside0.mk (KeepBut.row HK2.out (Nat.le_refl _) (vCells ⟨1, zagP v, z68.f2⟩))
    generalize w2.setRow w.heap.size (vCells ⟨1, zagP v, z68.f2⟩) = W3 at *
    refine (qGood w0 _ g s0 q2 HR3.out).mono ?_
    rintro e w4 ⟨rfl, hb4⟩
    have HR4 := Aside0.mk (HR3.out.below hb4)
    have HK4 := Aside0.mk (KeepBut.below_ HK3.out hb4)
    have HX4 : Aside0 (w4.heap[w.heap.size]? = some (vObj ⟨1, zagP v, z68.f2⟩)) := Aside0.mk ((hb4.block _ (blk_lt HX3.out)).trans HX3.out)
    clear hb4
    by_cases e2 : q2.2.1 = 0
    · have e2' : (q2.2.1 == 0) = true := by simpa using e2
      have HE2 := Aside0.mk e2
      clear e2
      go_wp2_with (first | (refine wpList_load_row rfl 68 (.tmp 2) rfl w.heap.size rfl 68 (vCells ⟨1, zagP v, z68.f2⟩) (0, 0) _ HX4.out Tryz.underlying68 rfl (by kernel_rfl) ?_) | (refine wpList_store_row rfl 68 (.tmp 2) (.tmp 30) rfl w.heap.size (vCells ⟨1, zagP v, z68.f2⟩) rfl rfl 68 _ HX4.out (by kernel_rfl) rfl (vCells_all _) ?_))
      rw [setRow_self w4 w.heap.size _ _ _ HX4.out]
      refine bodyPost_ret (v := .agg (vCells ⟨1, zagP v, z68.f2⟩)) (results_cell_row rfl _ _ w.heap.size 68 (vCells ⟨1, zagP v, z68.f2⟩) (0, 0) _ rfl HX4.out Tryz.underlying68 rfl (by kernel_rfl)) rfl ?_
      rw [HRR.out, if_pos HE2.out]
      exact ⟨rfl, HR4.out, HK4.out⟩
    · have e2' : (q2.2.1 == 0) = false := beq_eq_false_iff_ne.2 e2
      have HE2 := Aside0.mk e2
      clear e2
      go_wp2_with (refine wpList_store_row rfl 68 (.tmp 2) (.tmp 29) rfl w.heap.size (vCells z68) rfl rfl 68 _ HX4.out (by kernel_rfl) rfl (vCells_all _) ?_)
      refine bodyPost_ret (v := .agg (vCells z68)) (results_cell_row rfl _ _ w.heap.size 68 (vCells z68) (0, 0) _ rfl (setRow_heap w4 w.heap.size _ _ _ _ HX4.out) Tryz.underlying68 rfl (by kernel_rfl)) rfl ?_
      rw [HRR.out, if_neg HE2.out]
      exact ⟨rfl, HR4.out.setRow HX4.out (by decide) hlt _, KeepBut.row HK4.out (Nat.le_refl _) _⟩
  by_cases e2 : k = 2
  · subst e2
    have hr := HRES.out
    rw [if_neg (by decide), if_pos rfl] at hr
    have HRR := Aside0.mk hr
    have hF := fun H => qBlob 65536 (by decide) (by decide) w0 w1 g s0 q1 H
    obtain ⟨v, q2, hvq⟩ : ∃ v q2, blobQ s0 65536 q1 = (v, q2) := ⟨_, _, rfl⟩
    rw [hvq] at HRR hF
    dsimp only at HRR hF
    have HFX := Aside0.mk hF
    clear hr hvq hF hfw e1
    go_wp2_with fail
    refine (HFX.out HR1.out).mono ?_
    rintro e w2 ⟨vv, rfl, hv2, hr2, hk2⟩
    obtain ⟨A, c, rfl⟩ := Kd.R_slice hv2
    have hst := Kd.C_string (P := Tryz.prog) (src := 30) (dst := 9) (c := c) Tryz.underlying30 Tryz.underlying5 Tryz.underlying9 (Kd.R_reads' hv2).2.2
    have HR2 := Aside0.mk hr2
    have HK2 := Aside0.mk (keep_then HK1.out hk2)
    have HX2 := Aside0.mk (KeepBut.at_ hk2 HX1.out (by omega))
    clear hr2 hk2 hv2
    go_wp2_with (refine wpList_store_row rfl 68 (.tmp 2) (.tmp 25) rfl w.heap.size (vCells ⟨2, 0, strOfNums v⟩) rfl rfl 68 _ HX2.out (by kernel_rfl) rfl (vCells_all _) ?_)
    have HR3 := Aside0.mk (HR2.out.setRow HX2.out (by decide) hlt (vCells ⟨2, 0, strOfNums v⟩))
    have HX3 := Aside0.mk (setRow_heap w2 w.heap.size _ (vCells ⟨2, 0, strOfNums v⟩) _ _ HX2.out)
    have HK3 := Aside0.mk (KeepBut.row HK2.out (Nat.le_refl _) (vCells ⟨2, 0, strOfNums v⟩))
    generalize w2.setRow w.heap.size (vCells ⟨2, 0, strOfNums v⟩) = W3 at *
    refine (qGood w0 _ g s0 q2 HR3.out).mono ?_
    rintro e w4 ⟨rfl, hb4⟩
    have HR4 := Aside0.mk (HR3.out.below hb4)
    have HK4 := Aside0.mk (KeepBut.below_ HK3.out hb4)
    have HX4 : Aside0 (w4.heap[w.heap.size]? = some (vObj ⟨2, 0, strOfNums v⟩)) := Aside0.mk ((hb4.block _ (blk_lt HX3.out)).trans HX3.out)
    clear hb4
    by_cases e2 : q2.2.1 = 0
    · have e2' : (q2.2.1 == 0) = true := by simpa using e2
      have HE2 := Aside0.mk e2
      clear e2
      go_wp2_with (first | (refine wpList_load_row rfl 68 (.tmp 2) rfl w.heap.size rfl 68 (vCells ⟨2, 0, strOfNums v⟩) (0, 0) _ HX4.out Tryz.underlying68 rfl (by kernel_rfl) ?_) | (refine wpList_store_row rfl 68 (.tmp 2) (.tmp 30) rfl w.heap.size (vCells ⟨2, 0, strOfNums v⟩) rfl rfl 68 _ HX4.out (by kernel_rfl) rfl (vCells_all _) ?_))
      rw [setRow_self w4 w.heap.size _ _ _ HX4.out]
      refine bodyPost_ret (v := .agg (vCells ⟨2, 0, strOfNums v⟩)) (results_cell_row rfl _ _ w.heap.size 68 (vCells ⟨2, 0, strOfNums v⟩) (0, 0) _ rfl HX4.out Tryz.underlying68 rfl (by kernel_rfl)) rfl ?_
      rw [HRR.out, if_pos HE2.out]
      exact ⟨rfl, HR4.out, HK4.out⟩
    · have e2' : (q2.2.1 == 0) = false := beq_eq_false_iff_ne.2 e2
      have HE2 := Aside0.mk e2
      clear e2
      go_wp2_with (refine wpList_store_row rfl 68 (.tmp 2) (.tmp 29) rfl w.heap.size (vCells z68) rfl rfl 68 _ HX4.out (by kernel_rfl) rfl (vCells_all _) ?_)
      refine bodyPost_ret (v := .agg (vCells z68)) (results_cell_row rfl _ _ w.heap.size 68 (vCells z68) (0, 0) _ rfl (setRow_heap w4 w.heap.size _ _ _ _ HX4.out) Tryz.underlying68 rfl (by kernel_rfl)) rfl ?_
      rw [HRR.out, if_neg HE2.out]
      exact ⟨rfl, HR4.out.setRow HX4.out (by decide) hlt _, KeepBut.row HK4.out (Nat.le_refl _) _⟩
  by_cases e3 : k = 0
  · subst e3
    have hr := HRES.out
    rw [if_neg (by decide), if_neg (by decide), if_pos rfl] at hr
    have HRR := Aside0.mk hr
    have HR3 := HR1
    have HX3 := HX1
    have HK3 := HK1
    clear hr hfw e1 e2
    go_wp2_with fail
    refine (qGood w0 _ g s0 q1 HR3.out).mono ?_
    rintro e w4 ⟨rfl, hb4⟩
    have HR4 := Aside0.mk (HR3.out.below hb4)
    have HK4 := Aside0.mk (KeepBut.below_ HK3.out hb4)
    have HX4 : Aside0 (w4.heap[w.heap.size]? = some (vObj z68)) := Aside0.mk ((hb4.block _ (blk_lt HX3.out)).trans HX3.out)
    clear hb4
    by_cases e2 : q1.2.1 = 0
    · have e2' : (q1.2.1 == 0) = true := by simpa using e2
      have HE2 := Aside0.mk e2
      clear e2
      go_wp2_with (first | (refine wpList_load_row rfl 68 (.tmp 2) rfl w.heap.size rfl 68 (vCells z68) (0, 0) _ HX4.out Tryz.underlying68 rfl (by kernel_rfl) ?_) | (refine wpList_store_row rfl 68 (.tmp 2) (.tmp 30) rfl w.heap.size (vCells z68) rfl rfl 68 _ HX4.out (by kernel_rfl) rfl (vCells_all _) ?_))
      rw [setRow_self w4 w.heap.size _ _ _ HX4.out]
      refine bodyPost_ret (v := .agg (vCells z68)) (results_cell_row rfl _ _ w.heap.size 68 (vCells z68) (0, 0) _ rfl HX4.out Tryz.underlying68 rfl (by kernel_rfl)) rfl ?_
      rw [HRR.out]
      exact ⟨rfl, HR4.out, HK4.out⟩
    · have e2' : (q1.2.1 == 0) = false := beq_eq_false_iff_ne.2 e2
      have HE2 := Aside0.mk e2
      clear e2
      go_wp2_with (refine wpList_store_row rfl 68 (.tmp 2) (.tmp 29) rfl w.heap.size (vCells z68) rfl rfl 68 _ HX4.out (by kernel_rfl) rfl (vCells_all _) ?_)
      refine bodyPost_ret (v := .agg (vCells z68)) (results_cell_row rfl _ _ w.heap.size 68 (vCells z68) (0, 0) _ rfl (setRow_heap w4 w.heap.size _ _ _ _ HX4.out) Tryz.underlying68 rfl (by kernel_rfl)) rfl ?_
      rw [HRR.out]
      exact ⟨rfl, HR4.out.setRow HX4.out (by decide) hlt _, KeepBut.row HK4.out (Nat.le_refl _) _⟩
  · have hr := HRES.out
    rw [if_neg e1, if_neg e2, if_neg e3] at hr
    have HRR := Aside0.mk hr
    have b1 : (k == 1) = false := beq_eq_false_iff_ne.2 e1
    have b2 : (k == 2) = false := beq_eq_false_iff_ne.2 e2
    have b3 : (k == 0) = false := beq_eq_false_iff_ne.2 e3
    clear hr e1 e2 e3
    go_wp2_with fail
    refine (qFail 4 w0 w1 g s0 q1 HR1.out).mono ?_
    rintro e w2 ⟨rfl, hr2, hk2⟩
    have hq2 := failQ_ne (e := 4) q1 (by decide)
    generalize failQ 4 q1 = q2 at *
    have HR3 := Aside0.mk hr2
    have HK3 := Aside0.mk (keep_then HK1.out hk2)
    have HX3 := Aside0.mk (KeepBut.at_ hk2 HX1.out (by omega))
    clear hr2 hk2 hq2
    go_wp2_with fail
    refine (qGood w0 _ g s0 q2 HR3.out).mono ?_
    rintro e w4 ⟨rfl, hb4⟩
    have HR4 := Aside0.mk (HR3.out.below hb4)
    have HK4 := Aside0.mk (KeepBut.below_ HK3.out hb4)
    have HX4 : Aside0 (w4.heap[w.heap.size]? = some (vObj z68)) := Aside0.mk ((hb4.block _ (blk_lt HX3.out)).trans HX3.out)
    clear hb4
    by_cases e2 : q2.2.1 = 0
    · have e2' : (q2.2.1 == 0) = true := by simpa using e2
      have HE2 := Aside0.mk e2
      clear e2
      go_wp2_with (first | (refine wpList_load_row rfl 68 (.tmp 2) rfl w.heap.size rfl 68 (vCells z68) (0, 0) _ HX4.out Tryz.underlying68 rfl (by kernel_rfl) ?_) | (refine wpList_store_row rfl 68 (.tmp 2) (.tmp 30) rfl w.heap.size (vCells z68) rfl rfl 68 _ HX4.out (by kernel_rfl) rfl (vCells_all _) ?_))
      rw [setRow_self w4 w.heap.size _ _ _ HX4.out]
      refine bodyPost_ret (v := .agg (vCells z68)) (results_cell_row rfl _ _ w.heap.size 68 (vCells z68) (0, 0) _ rfl HX4.out Tryz.underlying68 rfl (by kernel_rfl)) rfl ?_
      rw [HRR.out]
      exact ⟨rfl, HR4.out, HK4.out⟩
    · have e2' : (q2.2.1 == 0) = false := beq_eq_false_iff_ne.2 e2
      have HE2 := Aside0.mk e2
      clear e2
      go_wp2_with (refine wpList_store_row rfl 68 (.tmp 2) (.tmp 29) rfl w.heap.size (vCells z68) rfl rfl 68 _ HX4.out (by kernel_rfl) rfl (vCells_all _) ?_)
      refine bodyPost_ret (v := .agg (vCells z68)) (results_cell_row rfl _ _ w.heap.size 68 (vCells z68) (0, 0) _ rfl (setRow_heap w4 w.heap.size _ _ _ _ HX4.out) Tryz.underlying68 rfl (by kernel_rfl)) rfl ?_
      rw [HRR.out]
      exact ⟨rfl, HR4.out.setRow HX4.out (by decide) hlt _, KeepBut.row HK4.out (Nat.le_refl _) _⟩
end Go.Proofs.YtjmhiklmlgbifaaGreatDoor.PMan
end
