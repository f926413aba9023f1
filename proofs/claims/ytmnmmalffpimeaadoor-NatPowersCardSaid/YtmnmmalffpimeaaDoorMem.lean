/- Words for memory: a value that reads as a list of limbs, and what a call leaves behind; over the printed words. -/
import Derived.Test.YtmnmmalffpimeaaDoorGNatx1
import Derived.Test.YtmnmmalffpimeaaDoorNum
import Derived.Lib.Hide
set_option linter.unusedVariables false
set_option linter.unusedSimpArgs false
namespace Go.Proofs.YtmnmmalffpimeaaDoor
open Go.RowKit Go.Proofs.YtmnmmalffpimeaaDoorW.PrintWords Go.Proofs.YtmnmmalffpimeaaDoorW.PrintLast Go.Proofs.YtmnmmalffpimeaaDoorW.PrintMore

/-- the value is a slice of limbs that reads as the list -/
def RdN (w : World) (v : Value) (l : List Int) : Prop := ∃ A c, v = .slice A l.length c ∧ l.length ≤ c ∧ Kd.C (Kd.int .u32) w A l.length l
theorem RdN.below {w w1 : World} {v : Value} {l : List Int} (h : RdN w v l) (hb : Below w.heap.size w w1) : RdN w1 v l := by
  obtain ⟨A, c, e, hc, hC⟩ := h
  exact ⟨A, c, e, hc, Kd.C_below hC hb⟩
theorem RdN.of_V {w : World} {b : Nat} {ok : Nat → Prop} {t : Nat} {v : Value} {l : List Int} (h : Kd.V (Kd.int .u32) t w b ok v l) : RdN w v l := by
  obtain ⟨A, c, e, hc, hF⟩ := h
  exact ⟨A, c, e, hc, Kd.F_now hF⟩
theorem RdN.of_R {w : World} {b : Nat} {ok : Nat → Prop} {t : Nat} {v : Value} {l : List Int} (h : Kd.R (Kd.int .u32) t w b ok v l) : RdN w v l := by
  obtain ⟨A, c, e, hc, hC⟩ := Kd.R_reads h
  exact ⟨A, c, e, hc, hC⟩
theorem RdN.nil (w : World) (c : Nat) : RdN w (.slice none 0 c) [] := ⟨none, c, rfl, Nat.zero_le _, Kd.C_nil _ _⟩

/-- likewise, in memory from block b on -/
def FrN (b : Nat) (w : World) (v : Value) (l : List Int) : Prop := Kd.V (Kd.int .u32) 74 w 0 (fun k => b ≤ k) v l
theorem FrN.rd {b : Nat} {w : World} {v : Value} {l : List Int} (h : FrN b w v l) : RdN w v l := RdN.of_V h
theorem FrN.below {b : Nat} {w w1 : World} {v : Value} {l : List Int} (h : FrN b w v l) (hb : Below w.heap.size w w1) : FrN b w1 v l := Kd.V_below h hb
theorem FrN.lower {b b' : Nat} {w : World} {v : Value} {l : List Int} (h : FrN b w v l) (hb : b' ≤ b) : FrN b' w v l := Kd.V_mono h (fun k hk => Nat.le_trans hb hk)
theorem FrN.nil (b : Nat) (w : World) : FrN b w (.slice none 0 0) [] := Kd.V_nil _ _ _ _ _
theorem FrN.of_R {b base : Nat} {w : World} {ok : Nat → Prop} {g n c : Nat} {l : List Int} (h : Kd.R (Kd.int .u32) 74 w base ok (.slice (some ⟨g, 0, none⟩) n c) l) (hg : b ≤ g) : FrN b w (.slice (some ⟨g, 0, none⟩) n c) l :=
  Kd.V_mono (Kd.R_V (Kd.R_tight rfl h)) (fun k hk => by
    have : k = g := by simpa [Value.ownBlock] using hk
    omega)
theorem FrN.take {b : Nat} {w : World} {A : Option Addr} {n c m : Nat} {l : List Int} (h : FrN b w (.slice A n c) l) (hm : m ≤ l.length) : FrN b w (.slice A (l.take m).length c) (l.take m) := by
  obtain ⟨h1, h2, h3⟩ := Kd.V_at h
  subst h1
  exact Kd.V_mk (by rw [List.length_take]; omega) (Kd.F_take h3 hm)
theorem FrN.trimmed {b : Nat} {w : World} {A : Option Addr} {n c : Nat} {l : List Int} (h : FrN b w (.slice A n c) l) : FrN b w (.slice A (trim l).length c) (trim l) := by
  have h1 := h.take (trim_length_le l)
  rwa [trim_take] at h1

/-- what a call that answers a normal number leaves -/
def NatRes (w : World) (x : Int) (e : Ending) (w' : World) : Prop := ∃ v r, e = .returned v ∧ FrN w.heap.size w' v r ∧ Nrm r ∧ val r = x ∧ Below w.heap.size w w'

theorem nrm_length {r : List Int} {k : Nat} (h : Nrm r) (hv : val r < 4294967296 ^ k) : r.length ≤ k := by
  induction r generalizing k with
  | nil => simp
  | cons x xs ih =>
    have h1 := h.1.head
    have h0 := val_nonneg h.1.tail
    simp only [val] at hv
    cases k with
    | zero =>
      exfalso
      simp at hv
      have hz : xs = [] := Nrm.zero h.tail (by omega)
      subst hz
      have := h.2
      simp only [Tip, val] at this hv
      omega
    | succ k =>
      rw [Int.pow_succ] at hv
      have := ih h.tail (k := k) (by omega)
      simp only [List.length_cons]; omega
end Go.Proofs.YtmnmmalffpimeaaDoor
