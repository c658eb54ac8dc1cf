/- Shorter steps through a region that draws. -/
import Derived.Test.YtjmhiklmlgbifaaGreatDoorPT1
import Derived.Test.YtjmhiklmlgbifaaGreatDoorPT2
import Derived.Test.YtjmhiklmlgbifaaGreatDoorPT3
namespace Go.Proofs.YtjmhiklmlgbifaaGreatDoorW.PrintLast
section
variable {P : Program} {ops : Array Oper} {Q : Exit → Act → World → Prop} {md : Region.Mode} {S : World → Prop} {ds : List Nat}
theorem pu (i : Nat) (N : Option Tmp) (v : Value) (a' : Act) {oi : Oper} {fuel : Nat} {l : Array Bool} {a : Act} {w : World} (hy : ∀ w, (execOp a.eval oi).run P w = .ok (.value v) w) (ha : a.put N v = a')
    (h : wpAnyLast P md ops Q S ds fuel (l.setIfInBounds i true) a' w) (hi : ops[i]? = some oi := by rfl) (hN : oi.dst = N := by rfl) (hc : anyB md ops l (l.setIfInBounds i true) i = true := by kernel_rfl)
    (hQ : ∀ c a w, Q (.panic c) (a.put oi.dst v) w → Q (.panic c) a w := by exact fun _ _ _ h => h) (hw : Region.wanted oi (yielded ops a.tmps) = true := by rfl) : wpAnyLast P md ops Q S ds (fuel + 1) l a w := pure_ _ hi hN hc hQ (Or.inl ⟨hw, hy⟩) ha h
theorem tk (i : Nat) (N : Option Tmp) (v : Value) (a' : Act) {oi : Oper} {fuel : Nat} {l : Array Bool} {a : Act} {w : World} (hS : S w) (hy : ∀ w, S w → (execOp a.eval oi).run P w = .ok (.value v) w) (ha : a.put N v = a')
    (h : wpAnyLast P md ops Q S ds fuel (l.setIfInBounds i true) a' w) (hi : ops[i]? = some oi := by rfl) (hN : oi.dst = N := by rfl) (hc : takeB md ops ds l (l.setIfInBounds i true) i = true := by kernel_rfl)
    (hQ : ∀ c a w, Q (.panic c) (a.put oi.dst v) w → Q (.panic c) a w := by exact fun _ _ _ h => h) (hw : Region.wanted oi (yielded ops a.tmps) = true := by rfl) : wpAnyLast P md ops Q S ds (fuel + 1) l a w := take_ _ hi hN hc hQ (Or.inl ⟨hw, hy⟩) hS ha h
theorem on {i : Nat} {N : Option Tmp} {oi : Oper} {fuel : Nat} {l : Array Bool} {a : Act} {w : World} (hi : ops[i]? = some oi) (hN : oi.dst = N) (hc : readyB md ops l (l.setIfInBounds i true) i = true) (hd : i ∉ ds)
    (h : ∀ K : Act → World → Prop, Shut (∀ a' w', S w' → (S w' → wpAnyLast P md ops Q S ds fuel (l.setIfInBounds i true) a' w') → K a' w') → if Region.wanted oi (yielded ops a.tmps) = true then Oper.wp P oi a w K Q else K (a.put N undef) w) :
    wpAnyLast P md ops Q S ds (fuel + 1) l a w := one_ _ hi hN hc hd h
open Go.Proofs.YtjmhiklmlgbifaaGreatDoorW.PrintWords in
theorem am {p : Prop} (h : p) : Aside0 p := Aside0.mk h
theorem sA1 {α : Type} (l : List α) (i : Nat) (a : α) : l.toArray.setIfInBounds i a = (l.set i a).toArray := by simp
theorem sA2 {α : Type} (a b : α) (l : List α) : (a :: l).set 0 b = b :: l := rfl
theorem sA3 {α : Type} (a b : α) (l : List α) (n : Nat) : (a :: l).set (n + 1) b = a :: l.set n b := rfl
end
end Go.Proofs.YtjmhiklmlgbifaaGreatDoorW.PrintLast
