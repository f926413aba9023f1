/- edenlaw04.RuleSteps returns true whatever rule and words are handed in. (Part 1 of 3: Num, Mem, Norm, Kn, Nats, Err, ErrAs, Env, Frame, FrameS2, Is, Errs, Idx, Fr, WrongRule, Rule, FrameR, LentI, Ints, RuleChk.) -/
import Derived.Test.YtefhlonipglboaaDoorGNatx0
import Derived.Lib.Hide
import Derived.IntWalk
import Derived.Outline
import Derived.LaidEql
import Derived.Stop.Asserts
import Derived.RowKitTokens
import Derived.Test.YtefhlonipglboaaDoorRows
import Derived.Below
import Derived.ChangeSame
import Derived.ChangeVars
import Derived.JoinedOf
import Derived.WideKeyArgs
import Derived.Stop.LaidErr
import Derived.LaidLaws
import Derived.LaidHandle
import Derived.LaidMore
import Derived.OpenShut
import Derived.ProofKit
import Derived.Stop.Joined
import GoSem.PinnedTables
import Derived.Test.YtefhlonipglboaaDoorPedenrawNew
import Derived.Deep.RegionWith
import Derived.Lib.SmallJoins
import Derived.SizedLaws
import Derived.Deep.QuietTactic
import Derived.BigQuiet
/- Plain facts on natural numbers as lists of limbs of 32 bits, the lowest first; no program is named here. -/
namespace Go.Proofs.YtefhlonipglboaaDoor

/-- what a list of limbs is worth -/
def val : List Int → Int
  | [] => 0
  | x :: xs => x + 4294967296 * val xs
/-- each limb is one -/
def Limbs (l : List Int) : Prop := ∀ x ∈ l, 0 ≤ x ∧ x < 4294967296
/-- no limb 0 at the end -/
def Tip : List Int → Prop
  | [] => True
  | [x] => x ≠ 0
  | _ :: y :: ys => Tip (y :: ys)
def Nrm (l : List Int) : Prop := Limbs l ∧ Tip l
/-- without limbs 0 at the end -/
def trim : List Int → List Int
  | [] => []
  | x :: xs => if trim xs = [] then (if x = 0 then [] else [x]) else x :: trim xs

theorem Limbs.tail {x : Int} {xs : List Int} (h : Limbs (x :: xs)) : Limbs xs := fun y hy => h y (List.mem_cons_of_mem _ hy)
theorem Limbs.head {x : Int} {xs : List Int} (h : Limbs (x :: xs)) : 0 ≤ x ∧ x < 4294967296 := h x List.mem_cons_self
theorem Limbs.nil : Limbs [] := fun _ h => by cases h
theorem Limbs.cons {x : Int} {xs : List Int} (hx : 0 ≤ x ∧ x < 4294967296) (h : Limbs xs) : Limbs (x :: xs) := by
  intro y hy
  rcases List.mem_cons.1 hy with rfl | hy
  · exact hx
  · exact h y hy
theorem Limbs.append {l m : List Int} (h : Limbs l) (k : Limbs m) : Limbs (l ++ m) := by
  intro x hx
  rcases List.mem_append.1 hx with hx | hx
  · exact h x hx
  · exact k x hx
theorem Limbs.take {l : List Int} (h : Limbs l) (n : Nat) : Limbs (l.take n) := fun x hx => h x (List.mem_of_mem_take hx)
theorem Limbs.drop {l : List Int} (h : Limbs l) (n : Nat) : Limbs (l.drop n) := fun x hx => h x (List.mem_of_mem_drop hx)
theorem Limbs.getD {l : List Int} (h : Limbs l) (i : Nat) : 0 ≤ l.getD i 0 ∧ l.getD i 0 < 4294967296 := by
  by_cases hi : i < l.length
  · rw [List.getD_eq_getElem?_getD, List.getElem?_eq_getElem hi]; exact h _ (List.getElem_mem hi)
  · rw [List.getD_eq_getElem?_getD, List.getElem?_eq_none (by omega)]; exact ⟨by decide, by decide⟩
theorem Limbs.replicate (n : Nat) : Limbs (List.replicate n 0) := by
  intro x hx
  rw [(List.mem_replicate.1 hx).2]
  exact ⟨by decide, by decide⟩

theorem val_nonneg : ∀ {l : List Int}, Limbs l → 0 ≤ val l
  | [], _ => by simp [val]
  | x :: xs, h => by
    have := val_nonneg h.tail
    have := h.head
    simp only [val]; omega
theorem Nrm.tail {x : Int} {xs : List Int} (h : Nrm (x :: xs)) : Nrm xs := by
  refine ⟨h.1.tail, ?_⟩
  cases xs with
  | nil => trivial
  | cons y ys => exact h.2
theorem Nrm.zero : ∀ {l : List Int}, Nrm l → val l = 0 → l = []
  | [], _, _ => rfl
  | x :: xs, h, hv => by
    exfalso
    have h0 := val_nonneg h.1.tail
    have h1 := h.1.head
    simp only [val] at hv
    have hx : xs = [] := Nrm.zero h.tail (by omega)
    subst hx
    have := h.2
    simp only [Tip, val] at this hv
    omega
/-- two normal lists of one worth are one -/
theorem Nrm.inj : ∀ {l m : List Int}, Nrm l → Nrm m → val l = val m → l = m
  | [], m, _, hm, hv => (Nrm.zero hm (by simpa [val] using hv.symm)).symm
  | x :: xs, [], hl, _, hv => by
    have := Nrm.zero hl (by simpa [val] using hv)
    cases this
  | x :: xs, y :: ys, hl, hm, hv => by
    have h1 := hl.1.head
    have h2 := hm.1.head
    simp only [val] at hv
    have hx : x = y := by omega
    have ht : val xs = val ys := by omega
    rw [hx, Nrm.inj hl.tail hm.tail ht]

theorem trim_limbs : ∀ {l : List Int}, Limbs l → Limbs (trim l)
  | [], _ => Limbs.nil
  | x :: xs, h => by
    simp only [trim]
    split
    · split
      · exact Limbs.nil
      · exact Limbs.cons h.head Limbs.nil
    · exact Limbs.cons h.head (trim_limbs h.tail)
theorem trim_tip : ∀ (l : List Int), Tip (trim l)
  | [] => trivial
  | x :: xs => by
    have ih := trim_tip xs
    simp only [trim]
    split
    · split
      · trivial
      · rename_i h; exact h
    · rename_i h
      match ht : trim xs, h with
      | y :: ys, _ => rw [ht] at ih; exact ih
theorem trim_nrm {l : List Int} (h : Limbs l) : Nrm (trim l) := ⟨trim_limbs h, trim_tip l⟩
theorem trim_val : ∀ (l : List Int), val (trim l) = val l
  | [] => rfl
  | x :: xs => by
    have ih := trim_val xs
    simp only [trim]
    split
    · rename_i h
      rw [h] at ih
      split
      · rename_i hx; simp only [val] at ih ⊢; omega
      · simp only [val] at ih ⊢; omega
    · simp only [val]; rw [ih]
theorem trim_of_tip : ∀ {l : List Int}, Tip l → trim l = l
  | [], _ => rfl
  | [x], h => by simp only [trim, if_pos trivial]; rw [if_neg h]
  | x :: y :: ys, h => by
    have ih := trim_of_tip (l := y :: ys) h
    rw [trim, ih, if_neg (by simp)]
theorem trim_length_le : ∀ (l : List Int), (trim l).length ≤ l.length
  | [] => Nat.le_refl _
  | x :: xs => by
    have := trim_length_le xs
    simp only [trim]
    split
    · split <;> simp
    · simp only [List.length_cons]; omega
theorem trim_take : ∀ (l : List Int), l.take (trim l).length = trim l
  | [] => rfl
  | x :: xs => by
    have ih := trim_take xs
    simp only [trim]
    split
    · split
      · rfl
      · rfl
    · simp only [List.length_cons, List.take_succ_cons]; rw [ih]
theorem trim_append_zero : ∀ (l : List Int), trim (l ++ [0]) = trim l
  | [] => by simp [trim]
  | x :: xs => by simp only [List.cons_append, trim]; rw [trim_append_zero xs]
theorem tip_append_ne : ∀ (l : List Int) {x : Int}, x ≠ 0 → Tip (l ++ [x])
  | [], _, h => h
  | [y], _, h => h
  | y :: z :: zs, _, h => by
    have := tip_append_ne (z :: zs) h
    exact this
theorem take_snoc_int (l : List Int) (k : Nat) (h : k < l.length) : l.take (k + 1) = l.take k ++ [l.getD k 0] := by
  rw [List.take_succ_eq_append_getElem h, List.getD_eq_getElem?_getD, List.getElem?_eq_getElem h]; rfl
/-- norm's loop: the last limb is 0 -/
theorem trim_step {l : List Int} {k : Nat} (h : k < l.length) (h0 : l.getD k 0 = 0) : trim (l.take (k + 1)) = trim (l.take k) := by
  rw [take_snoc_int l k h, h0, trim_append_zero]
/-- .. or not -/
theorem trim_done {l : List Int} {k : Nat} (h : k < l.length) (h0 : l.getD k 0 ≠ 0) : trim (l.take (k + 1)) = l.take (k + 1) := by
  rw [take_snoc_int l k h]; exact trim_of_tip (tip_append_ne _ h0)

theorem val_append : ∀ (l m : List Int), val (l ++ m) = val l + 4294967296 ^ l.length * val m
  | [], m => by simp [val]
  | x :: xs, m => by
    simp only [List.cons_append, val, List.length_cons, val_append xs m]
    rw [Int.pow_succ]; grind
theorem val_snoc (l : List Int) (x : Int) : val (l ++ [x]) = val l + 4294967296 ^ l.length * x := by
  rw [val_append]; simp [val]
theorem val_replicate (n : Nat) : val (List.replicate n 0) = 0 := by
  induction n with
  | zero => rfl
  | succ n ih => rw [List.replicate_succ]; simp only [val, ih]; rfl
theorem val_lt : ∀ {l : List Int}, Limbs l → val l < 4294967296 ^ l.length
  | [], _ => by simp [val]
  | x :: xs, h => by
    have := val_lt h.tail
    have := h.head
    simp only [val, List.length_cons]
    rw [Int.pow_succ]; omega
theorem val_take_succ (l : List Int) (k : Nat) (h : k < l.length) : val (l.take (k + 1)) = val (l.take k) + 4294967296 ^ k * l.getD k 0 := by
  rw [take_snoc_int l k h, val_snoc, List.length_take, Nat.min_eq_left (by omega)]

end Go.Proofs.YtefhlonipglboaaDoor

/- Words for memory: a value that reads as a list of limbs, and what a call leaves behind; over the printed words. -/
set_option linter.unusedVariables false
set_option linter.unusedSimpArgs false
namespace Go.Proofs.YtefhlonipglboaaDoor
open Go.RowKit Go.Proofs.YtefhlonipglboaaDoorW.PrintWords Go.Proofs.YtefhlonipglboaaDoorW.PrintLast Go.Proofs.YtefhlonipglboaaDoorW.PrintMore

/-- the value is a slice of limbs that reads as the list -/
def RdN (w : World) (v : Value) (l : List Int) : Prop := ∃ A c, v = .slice A l.length c ∧ l.length ≤ c ∧ Kd.C (Kd.int .u32) w A l.length l
theorem RdN.below {w w1 : World} {v : Value} {l : List Int} (h : RdN w v l) (hb : Below w.heap.size w w1) : RdN w1 v l := by
  obtain ⟨A, c, e, hc, hC⟩ := h
  exact ⟨A, c, e, hc, Kd.C_below hC hb⟩
theorem RdN.of_V {w : World} {b : Nat} {ok : Nat → Prop} {t : Nat} {v : Value} {l : List Int} (h : Kd.V (Kd.int .u32) t w b ok v l) : RdN w v l := by
  obtain ⟨A, c, e, hc, hF⟩ := h
  exact ⟨A, c, e, hc, Kd.F_now hF⟩
theorem RdN.of_R {w : World} {b : Nat} {ok : Nat → Prop} {t : Nat} {v : Value} {l : List Int} (h : Kd.R (Kd.int .u32) t w b ok v l) : RdN w v l := by
  obtain ⟨A, c, e, hc, hC⟩ := Kd.R_reads h
  exact ⟨A, c, e, hc, hC⟩
theorem RdN.nil (w : World) (c : Nat) : RdN w (.slice none 0 c) [] := ⟨none, c, rfl, Nat.zero_le _, Kd.C_nil _ _⟩

/-- likewise, in memory from block b on -/
def FrN (b : Nat) (w : World) (v : Value) (l : List Int) : Prop := Kd.V (Kd.int .u32) 152 w 0 (fun k => b ≤ k) v l
theorem FrN.rd {b : Nat} {w : World} {v : Value} {l : List Int} (h : FrN b w v l) : RdN w v l := RdN.of_V h
theorem FrN.below {b : Nat} {w w1 : World} {v : Value} {l : List Int} (h : FrN b w v l) (hb : Below w.heap.size w w1) : FrN b w1 v l := Kd.V_below h hb
theorem FrN.lower {b b' : Nat} {w : World} {v : Value} {l : List Int} (h : FrN b w v l) (hb : b' ≤ b) : FrN b' w v l := Kd.V_mono h (fun k hk => Nat.le_trans hb hk)
theorem FrN.nil (b : Nat) (w : World) : FrN b w (.slice none 0 0) [] := Kd.V_nil _ _ _ _ _
theorem FrN.of_R {b base : Nat} {w : World} {ok : Nat → Prop} {g n c : Nat} {l : List Int} (h : Kd.R (Kd.int .u32) 152 w base ok (.slice (some ⟨g, 0, none⟩) n c) l) (hg : b ≤ g) : FrN b w (.slice (some ⟨g, 0, none⟩) n c) l :=
  Kd.V_mono (Kd.R_V (Kd.R_tight rfl h)) (fun k hk => by
    have : k = g := by simpa [Value.ownBlock] using hk
    omega)
theorem FrN.take {b : Nat} {w : World} {A : Option Addr} {n c m : Nat} {l : List Int} (h : FrN b w (.slice A n c) l) (hm : m ≤ l.length) : FrN b w (.slice A (l.take m).length c) (l.take m) := by
  obtain ⟨h1, h2, h3⟩ := Kd.V_at h
  subst h1
  exact Kd.V_mk (by rw [List.length_take]; omega) (Kd.F_take h3 hm)
theorem FrN.trimmed {b : Nat} {w : World} {A : Option Addr} {n c : Nat} {l : List Int} (h : FrN b w (.slice A n c) l) : FrN b w (.slice A (trim l).length c) (trim l) := by
  have h1 := h.take (trim_length_le l)
  rwa [trim_take] at h1

/-- what a call that answers a normal number leaves -/
def NatRes (w : World) (x : Int) (e : Ending) (w' : World) : Prop := ∃ v r, e = .returned v ∧ FrN w.heap.size w' v r ∧ Nrm r ∧ val r = x ∧ Below w.heap.size w w'

theorem nrm_length {r : List Int} {k : Nat} (h : Nrm r) (hv : val r < 4294967296 ^ k) : r.length ≤ k := by
  induction r generalizing k with
  | nil => simp
  | cons x xs ih =>
    have h1 := h.1.head
    have h0 := val_nonneg h.1.tail
    simp only [val] at hv
    cases k with
    | zero =>
      exfalso
      simp at hv
      have hz : xs = [] := Nrm.zero h.tail (by omega)
      subst hz
      have := h.2
      simp only [Tip, val] at this hv
      omega
    | succ k =>
      rw [Int.pow_succ] at hv
      have := ih h.tail (k := k) (by omega)
      simp only [List.length_cons]; omega
end Go.Proofs.YtefhlonipglboaaDoor

/- What nat.norm and bits.Add32 compute: the same slice, cut to what is without limbs 0 at the end; a sum and its carry. -/
namespace Go.Proofs.YtefhlonipglboaaDoor
open Go.RowKit Go.Proofs.YtefhlonipglboaaDoorW.PrintWords Go.Proofs.YtefhlonipglboaaDoorW.PrintLast Go.Proofs.YtefhlonipglboaaDoorW.PrintMore
set_option linter.unusedVariables false
set_option linter.unusedSimpArgs false

theorem info_u32 : (Tryd.prog.info? 152).map (fun i => (i.zero, i.size, i.bytes)) = some (some (.int .u32 0), 1, 4) := by kernel_rfl

def sliceLen : Value → Nat
  | .slice _ n _ => n
  | _ => 0

set_option maxHeartbeats 2000000 in
set_option maxRecDepth 100000 in
theorem norm_calls (A : Option Addr) (c : Nat) (l : List Int) (w : World) (hr : Kd.C (Kd.int .u32) w A l.length l) (hc : l.length ≤ c) :
    Calls Tryd.prog 101 #[.slice A l.length c] w fun e w' => e = .returned (.slice A (trim l).length c) ∧ w = w' := by
  have HR := Aside0.mk hr
  have HC := Aside0.mk hc
  have hlen : l.length ≤ 9223372036854775807 := Kd.C_max hr
  clear hr hc
  go_enter Tryd.func101, Tryd.ntmps101
  go_wp2
  go_loop [0] (fun v => ∃ k : Nat, v = .slice A k c ∧ k ≤ l.length ∧ Aside0 (trim (l.take k) = trim l)) (fun v => sliceLen v)
  case atStart => exact ⟨l.length, rfl, Nat.le_refl _, ⟨by rw [List.take_length]⟩⟩
  case round =>
    obtain ⟨k, rfl, hk, HT⟩ := hrel
    cases k with
    | zero =>
      go_wp2
      go_ret
      exact ⟨by rw [← HT.out]; rfl, rfl⟩
    | succ k =>
      obtain ⟨ad, e, hx⟩ := Kd.at_int HR.out (k : Int) (by omega) (by omega)
      cases e
      simp only [Int.toNat_natCast] at hx
      have hck : k + 1 ≤ c := by have := HC.out; omega
      by_cases h0 : rd l (k : Int) = 0
      · have HZ := Aside0.mk h0
        have h0b : (rd l (k : Int) == 0) = true := beq_iff_eq.mpr h0
        clear h0
        go_wp2
        go_round
        case rel => exact ⟨k, rfl, by omega, ⟨by rw [← HT.out]; exact (trim_step (by omega) (by have := HZ.out; simpa [rd] using this)).symm⟩⟩
        case measure => simp [sliceLen]
      · have HZ := Aside0.mk h0
        have h0b : (rd l (k : Int) == 0) = false := beq_eq_false_iff_ne.mpr h0
        clear h0
        go_wp2
        go_ret
        refine ⟨?_, rfl⟩
        have h1 := trim_done (l := l) (k := k) (by omega) (by have := HZ.out; simpa [rd] using this)
        rw [← HT.out, h1, List.length_take, Nat.min_eq_left hk]
        rfl

set_option maxHeartbeats 2000000 in
set_option maxRecDepth 100000 in
theorem add32_calls (x y c : Int) (w : World) (hx0 : 0 ≤ x) (hx : x < 4294967296) (hy0 : 0 ≤ y) (hy : y < 4294967296) (hc0 : 0 ≤ c) (hc : c ≤ 1) :
    Calls Tryd.prog 150 #[.int .u32 x, .int .u32 y, .int .u32 c] w fun e w' => e = .returned (.tuple #[.int .u32 ((x + y + c) % 4294967296), .int .u32 ((x + y + c) / 4294967296)]) ∧ w = w' := by
  have hm : (x + y + c) / 4294967296 % 4294967296 = (x + y + c) / 4294967296 := by omega
  have HM := Aside0.mk hm
  clear hm
  go_enter Tryd.func150, Tryd.ntmps150
  go_wp2
  go_ret2
  exact ⟨by first | rfl | (rw [HM.out]) | (simp [HM.out]), rfl⟩
end Go.Proofs.YtefhlonipglboaaDoor

/- Rows of slices that are read; the last limb of a number. -/
namespace Go.Proofs.YtefhlonipglboaaDoor
open Go.RowKit Go.Proofs.YtefhlonipglboaaDoorW.PrintWords Go.Proofs.YtefhlonipglboaaDoorW.PrintLast Go.Proofs.YtefhlonipglboaaDoorW.PrintMore
set_option linter.unusedVariables false
set_option linter.unusedSimpArgs false

abbrev KN : Kd (List Int) := Kd.slice 152 (Kd.int .u32)
theorem atRow {α : Type} {d : Kd α} {e : Nat} {w : World} {A : Option Addr} {xs : List (List α)} (h : Kd.C (Kd.slice e d) w A xs.length xs) (i : Nat) (hi : i < xs.length) :
    ∃ ad A0 c0, A = some ad ∧ w.cell? (ad.add i) = some (.slice A0 xs[i].length c0) ∧ xs[i].length ≤ c0 ∧ Kd.C d w A0 xs[i].length xs[i] := by
  obtain ⟨ad, c, e1, hc, hK, hcell⟩ := Kd.C_get h [] (i : Int) (by omega) (by omega)
  rw [Int.toNat_natCast] at hK hcell
  have hg : xs.getD i [] = xs[i] := by rw [List.getD_eq_getElem?_getD, List.getElem?_eq_getElem hi]; rfl
  rw [hg] at hK
  obtain ⟨A0, c0, rfl, hl, hC⟩ := hK
  refine ⟨ad, A0, c0, e1, ?_, hl, hC⟩
  have h1 := hcell 0 _ rfl
  rw [show i * (Kd.slice e d).sz + 0 = i from by show i * 1 + 0 = i; omega] at h1
  exact h1

theorem tip_last : ∀ {l : List Int}, Tip l → l ≠ [] → l.getD (l.length - 1) 0 ≠ 0
  | [], _, h => absurd rfl h
  | [x], h, _ => by simpa [Tip] using h
  | x :: y :: ys, h, _ => by
    have ih := tip_last (l := y :: ys) h (by simp)
    simpa using ih
end Go.Proofs.YtefhlonipglboaaDoor

/- edenraw.Nats at equal numbers; numbers written out. -/
namespace Go.Proofs.YtefhlonipglboaaDoor
open Go.RowKit Go.Proofs.YtefhlonipglboaaDoorW.PrintWords Go.Proofs.YtefhlonipglboaaDoorW.PrintLast Go.Proofs.YtefhlonipglboaaDoorW.PrintMore
set_option linter.unusedVariables false
set_option linter.unusedSimpArgs false

set_option maxHeartbeats 2000000 in
set_option maxRecDepth 100000 in
theorem nats_true (A0 A1 : Option Addr) (c0 c1 : Nat) (l : List Int) (w : World) (hr0 : Kd.C (Kd.int .u32) w A0 l.length l) (hr1 : Kd.C (Kd.int .u32) w A1 l.length l) :
    Calls Tryd.prog 49 #[.slice A0 l.length c0, .slice A1 l.length c1] w fun e w' => e = .returned (.bool true) ∧ Drawn0 w w' := by
  have HR0 := Aside0.mk hr0
  have HR1 := Aside0.mk hr1
  have hm := Kd.C_max hr0
  clear hr0 hr1
  go_enter Tryd.func49, Tryd.ntmps49
  go_wp2_with fail
  go_loopg [5] l.length (fun kq v3 w' => ∃ i : Nat, v3 = .int .i64 i ∧ kq + i = l.length ∧ Aside0 (Drawn0 w w'))
  case atStart => exact ⟨0, rfl, rfl, ⟨Drawn0.refl _⟩⟩
  case round =>
    obtain ⟨i, rfl, hk, HW⟩ := hrel
    cases gk with
    | zero =>
      obtain rfl : i = l.length := by omega
      go_wp2_with fail
      go_ret
      exact ⟨rfl, HW.out⟩
    | succ k =>
      have hb := HW.out.below
      obtain ⟨ad0, e0, hx0⟩ := Kd.at_int (Kd.C_below HR0.out hb) (i : Int) (by omega) (by omega)
      obtain ⟨ad1, e1, hx1⟩ := Kd.at_int (Kd.C_below HR1.out hb) (i : Int) (by omega) (by omega)
      subst e0
      subst e1
      simp only [Int.toNat_natCast] at hx0 hx1
      have hi : i < l.length := by omega
      have hne : (rd l (i : Int) != rd l (i : Int)) = false := bne_self_eq_false _
      have HK : Aside0 (k + (i + 1) = l.length) := ⟨by omega⟩
      clear hb hk
      go_wp2_with fail
      go_quiet (fail)
      go_wp2_with fail
      go_roundg k
      case measure => omega
      case rel => exact ⟨i + 1, by go_num, HK.out, ⟨by repeat (first | exact HW.out | apply Drawn0.step)⟩⟩

theorem C_lit (W : World) (xs : List Int) (hm : xs.length ≤ 9223372036854775807) : Kd.C (Kd.int .u32) (W.alloc (.cells (nums .u32 xs).toArray 152)) (some ⟨W.heap.size, 0, none⟩) xs.length xs := by
  refine Kd.C_of_reads (d := 0) ⟨rfl, hm, fun _ => ⟨_, rfl, fun j hj => ?_⟩⟩
  rw [add_plain, cell_of_row _ W.heap.size j _ 152 (0, 0) (heap_alloc_new W _)]
  simp [nums, List.getElem?_eq_getElem hj, List.getD_eq_getElem?_getD, rdOf]
theorem C_litg (W : World) (g : Nat) (xs : List Int) (hg : g = W.heap.size) (hm : xs.length ≤ 9223372036854775807) : Kd.C (Kd.int .u32) (W.alloc (.cells (nums .u32 xs).toArray 152)) (some ⟨g, 0, none⟩) xs.length xs := by
  subst hg
  exact C_lit W xs hm
theorem limbs_lit {xs : List Int} (h : xs.all (fun x => decide (0 ≤ x ∧ x < 4294967296)) = true) : Limbs xs := by
  intro x hx
  have := List.all_eq_true.1 h x hx
  simpa using this
end Go.Proofs.YtefhlonipglboaaDoor

/- Errors: what fault.New and fault.Under make, and that errors.Is finds the error at the end of a chain of Faults. -/
namespace Go.Proofs.YtefhlonipglboaaDoor
open Go.RowKit Go.Extern.Stop Go.Stop Go.Extern Go.Proofs.YtefhlonipglboaaDoorW.PrintWords Go.Proofs.YtefhlonipglboaaDoorW.PrintLast Go.Proofs.YtefhlonipglboaaDoorW.PrintMore
set_option linter.unusedVariables false
set_option linter.unusedSimpArgs false

/-- an error value: a chain of Faults, at its end the n-th of the errors themselves -/
def ErrAt (S : Nat → Addr) (w : World) (n : Nat) : List (ByteArray × Int) → Value → Prop
  | [], v => v = .iface 260 (.pointer (some (S n)))
  | p :: rest, v => ∃ (b : Nat) (v' : Value), v = .iface 129 (.pointer (some ⟨b, 0, none⟩)) ∧ w.cell? ⟨b, 0, none⟩ = some (.string p.1) ∧ w.cell? ⟨b, 1, none⟩ = some (.int .i64 p.2) ∧ w.cell? ⟨b, 2, none⟩ = some v' ∧ ErrAt S w n rest v'
theorem ErrAt.below {S : Nat → Addr} {w w1 : World} {n : Nat} (hb : Below w.heap.size w w1) : ∀ {l : List (ByteArray × Int)} {v : Value}, ErrAt S w n l v → ErrAt S w1 n l v
  | [], _, h => h
  | p :: rest, v, ⟨b, v', h1, h2, h3, h4, h5⟩ => ⟨b, v', h1, pw_cell_below hb h2, pw_cell_below hb h3, pw_cell_below hb h4, ErrAt.below hb h5⟩
theorem ErrAt.form {S : Nat → Addr} {w : World} {n : Nat} : ∀ {l : List (ByteArray × Int)} {v : Value}, ErrAt S w n l v → ∃ t x, v = .iface t x
  | [], _, h => ⟨_, _, h⟩
  | p :: rest, v, ⟨b, v', h1, _⟩ => ⟨_, _, h1⟩

theorem isTypeOf (v : Value) (w : World) : (Extern.ReflectliteType.typeOf #[.iface 260 v]).run Tryd.prog w = .ok (.iface 235 (.agg #[.pointer (some ⟨14, 260, none⟩)])) w := by kernel_rfl
theorem isComp : (Tryd.prog.info? 260).map (·.comparable) = some true := by kernel_rfl
theorem isSize : (Tryd.prog.info? 280).map (·.size) = some 1 := by kernel_rfl
theorem noIsF (v : Value) (xT : TypeId) (w : World) : (Instr.typeAssert (.iface 129 v) xT 237 true).run Tryd.prog w = .ok (.tuple #[.nilIface, .bool false]) w := run_typeAssert_lacksB Tryd.underlying237 (by kernel_rfl) (by kernel_rfl) v xT w
theorem hasUnwrapF (v : Value) (xT : TypeId) (w : World) : (Instr.typeAssert (.iface 129 v) xT 240 true).run Tryd.prog w = .ok (.tuple #[.iface 129 v, .bool true]) w := run_typeAssert_hasB Tryd.underlying240 (by kernel_rfl) v xT w

theorem isComparable (w : World) : (callFunc 203 #[.agg #[.pointer (some ⟨14, 260, none⟩)]]).run Tryd.prog w = .ok (.value (.bool true)) w := by
  have h := @run_callFunc_extern Tryd.prog 203 _ (Extern.ReflectliteType.method fun t => do Extern.Rtype.noPackHeld "Comparable" t; pure (.bool (← typeInfo t).comparable)) Tryd.func203 (by kernel_rfl) (by kernel_rfl) (by kernel_rfl) (by kernel_rfl)
  have c : ((Extern.ReflectliteType.method fun t => do Extern.Rtype.noPackHeld "Comparable" t; pure (.bool (← typeInfo t).comparable)) #[.agg #[.pointer (some ⟨14, 260, none⟩)]]).run Tryd.prog w = .ok (.bool true) w := by kernel_rfl
  rw [h, c]; rfl
theorem isMethodComparable (v : Value) (w : World) : (Go.method 392 235 v "Comparable").run Tryd.prog w = .ok (203, v) w := by kernel_rfl
theorem methodUnwrap (v : Value) (w : World) : (Go.method 392 129 v "Unwrap").run Tryd.prog w = .ok (196, v) w := by kernel_rfl

theorem unwrap_calls (b : Nat) (v : Value) (w : World) (hc : w.cell? ⟨b, 2, none⟩ = some v) :
    Calls Tryd.prog 196 #[.pointer (some ⟨b, 0, none⟩)] w fun e w' => e = .returned v ∧ w = w' := by
  go_enter Tryd.func196, Tryd.ntmps196
  go_wp2
  go_ret
  exact ⟨rfl, rfl⟩


set_option maxHeartbeats 1000000 in
set_option maxRecDepth 100000 in
theorem is_loop (S : Nat → Addr) (n : Nat) (l : List (ByteArray × Int)) (v : Value) (w : World) (h : ErrAt S w n l v) :
    Calls Tryd.prog 132 #[v, .iface 260 (.pointer (some (S n))), .bool true] w fun e w' => e = .returned (.bool true) ∧ w = w' := by
  obtain ⟨i, hi, hcmp⟩ := Option.map_eq_some_iff.1 isComp
  obtain ⟨j, hj, hjs⟩ := Option.map_eq_some_iff.1 isSize
  obtain ⟨a, ha⟩ : ∃ a, S n = a := ⟨_, rfl⟩
  have heq := run_eql_iface_ptr_same (P := Tryd.prog) w a Tryd.underlying30 Tryd.underlying260 hi hcmp hj
  have hne := fun (x : Value) => run_eql_iface_types (P := Tryd.prog) 129 260 x (.pointer (some a)) Tryd.underlying30 (by decide) w
  have H := Aside0.mk h
  rw [ha]
  have HA := Aside0.mk ha
  clear h hjs ha hi hcmp hj
  have nF := noIsF
  have uF := hasUnwrapF
  have mU := methodUnwrap
  go_enter Tryd.func132, Tryd.ntmps132
  go_wp2_with fail
  go_loopg [0] l.length (fun kq v0 w' => ∃ rest : List (ByteArray × Int), Aside0 (ErrAt S w n rest v0) ∧ Aside0 (kq = rest.length) ∧ w = w')
  case atStart => exact ⟨l, H, ⟨rfl⟩, rfl⟩
  case round =>
    obtain ⟨rest, HE, HK, rfl⟩ := hrel
    cases rest with
    | nil =>
      have h0 := HE.out
      simp only [ErrAt] at h0
      rw [HA.out] at h0
      subst h0
      go_wp2
      go_ret
      exact ⟨rfl, rfl⟩
    | cons p rest =>
      obtain ⟨b, v', h1, h2, h3, h4, h5⟩ := HE.out
      subst h1
      obtain ⟨t, x, rfl⟩ := h5.form
      have H5 := Aside0.mk h5
      clear h5 heq h2 h3
      go_wp2_with (go_at_call 196; refine (unwrap_calls _ _ _ h4).mono ?_; rintro e w' ⟨rfl, rfl⟩)
      go_roundg rest.length
      case measure => have := HK.out; simp only [List.length_cons] at this; omega
      case rel => exact ⟨rest, H5, ⟨rfl⟩, rfl⟩
set_option maxHeartbeats 1000000 in
set_option maxRecDepth 100000 in
theorem is_calls (S : Nat → Addr) (n : Nat) (l : List (ByteArray × Int)) (v : Value) (w : World) (h : ErrAt S w n l v) :
    Calls Tryd.prog 73 #[v, .iface 260 (.pointer (some (S n)))] w fun e w' => e = .returned (.bool true) ∧ w = w' := by
  obtain ⟨i, hi, hcmp⟩ := Option.map_eq_some_iff.1 isComp
  obtain ⟨j, hj, hjs⟩ := Option.map_eq_some_iff.1 isSize
  obtain ⟨a, ha⟩ : ∃ a, S n = a := ⟨_, rfl⟩
  have heq := run_eql_iface_ptr_same (P := Tryd.prog) w a Tryd.underlying30 Tryd.underlying260 hi hcmp hj
  obtain ⟨t, x, rfl⟩ := h.form
  have H := Aside0.mk h
  have HA := Aside0.mk ha
  clear h hjs ha hi hcmp hj heq
  have h8 := @run_callFunc_extern Tryd.prog 131 _ Extern.ReflectliteType.typeOf Tryd.func131 (by kernel_rfl) (by kernel_rfl) (by kernel_rfl) (by kernel_rfl)
  have tT := isTypeOf
  have cT := isComparable
  have mR := isMethodComparable
  go_enter Tryd.func73, Tryd.ntmps73
  go_wp2_with (go_at_call 132; refine (is_loop S n l _ _ (by exact H.out)).mono ?_; rintro e w' ⟨rfl, rfl⟩)
  go_ret
  exact ⟨rfl, rfl⟩
end Go.Proofs.YtefhlonipglboaaDoor

/- errors.As at a Fault and the address of a variable for a pointer to a Fault: true; the variable holds the pointer. After the worked example ToyasAs. -/
namespace Go.Proofs.YtefhlonipglboaaDoor
open Go.RowKit Go.Extern.Stop Go.Stop Go.Extern Go.Proofs.YtefhlonipglboaaDoorW.PrintWords Go.Proofs.YtefhlonipglboaaDoorW.PrintLast Go.Proofs.YtefhlonipglboaaDoorW.PrintMore
set_option linter.unusedVariables false
set_option linter.unusedSimpArgs false

/-- errors.As(nil, target). -/
theorem as_nil (t : Value) (w : World) :
    Calls Tryd.prog 75 #[.nilIface, t] w fun e w' => e = .returned (.bool false) ∧ w' = w := by
  go_enter Tryd.func75, Tryd.ntmps75
  go_wp2
  go_ret
  exact ⟨rfl, rfl⟩

/-! ### CLOSED FACTS ON THE MODEL's ENTRIES FOR internal/reflectlite, at this program's types: 25: *p.E · 27: **p.E · 23: error · 45: reflectlite's rtype · 1: how many package-level variables the dump has -/
theorem asvalueOf27 (t : Addr) (w : World) : (ReflectliteValue.unpack (.iface 131 (.pointer (some t)))).run Tryd.prog w
    = .ok (.agg #[.pointer (some ⟨14, 131, none⟩), .pointer (some ⟨w.heap.size, 0, none⟩), .int .u64 150]) (w.alloc (.cells #[.pointer (some t)] 131)) := by kernel_rfl
theorem astype27 (a : Addr) (w : World) : (ReflectliteValue.methodAny (ReflectliteValue.valueError "reflectlite.Value.Type" 0) (fun t _ _ _ => ReflectliteType.toType t) #[.agg #[.pointer (some ⟨14, 131, none⟩), .pointer (some a), .int .u64 150]]).run Tryd.prog w
    = .ok (.iface 235 (.agg #[.pointer (some ⟨14, 131, none⟩)])) w := by kernel_rfl
theorem asmethodKind (h : Value) (w : World) : (Go.method 392 235 (.agg #[h]) "Kind").run Tryd.prog w = .ok (192, h) w := by kernel_rfl
theorem askind27 (w : World) : ((ReflectliteType.abiMethod fun t => (fun a : Nat => Value.int IntKind.u8 (a : Int)) <$> Rtype.kind t) #[.pointer (some ⟨14, 131, none⟩)]).run Tryd.prog w = .ok (.int .u8 22) w := by kernel_rfl
theorem askind25 (w : World) : ((ReflectliteType.abiMethod fun t => (fun a : Nat => Value.int IntKind.u8 (a : Int)) <$> Rtype.kind t) #[.pointer (some ⟨14, 129, none⟩)]).run Tryd.prog w = .ok (.int .u8 22) w := by kernel_rfl

/-! ### THE ENTRIES THAT READ OR WRITE MEMORY: laws with a premise on the cell (after Derived/Lib/ReflectliteSlice.lean's manner: each unfolding a lemma of its own, by rfl) -/
theorem asRlm (z : Sem Value) (f : TypeId → Addr → Nat → Nat → Sem Value) (v : Value) :
    ReflectliteValue.method z f #[v] = (do match ← ReflectliteValue.parts v with | none => z | some (t, a, fl) => f t a fl (fl % 32)) := rfl
theorem asparts27 (a : Addr) (w : World) : (ReflectliteValue.parts (.agg #[.pointer (some ⟨14, 131, none⟩), .pointer (some a), .int .u64 150])).run Tryd.prog w = .ok (some (131, a, 150)) w := by kernel_rfl
/-- (Value).IsNil at the Value of a **p.E that is not nil. -/
theorem asisNil27 (a p : Addr) (W : World) (ha : W.cell? a = some (.pointer (some p))) :
    (ReflectliteValue.method (ReflectliteValue.valueError "reflectlite.Value.IsNil" 0) ReflectliteValue.isNil #[.agg #[.pointer (some ⟨14, 131, none⟩), .pointer (some a), .int .u64 150]]).run Tryd.prog W = .ok (.bool false) W := by
  rw [asRlm]
  simp only [Sem.run_bind, asparts27, Result.andThen]
  simp [ReflectliteValue.isNil, loadVar, isAgg, underlying, Tryd.underlying131, ha, Result.andThen]

theorem asmethodElem (h : Value) (w : World) : (Go.method 392 235 (.agg #[h]) "Elem").run Tryd.prog w = .ok (204, .agg #[h]) w := by kernel_rfl
theorem asmethodImplements (h : Value) (w : World) : (Go.method 392 235 (.agg #[h]) "Implements").run Tryd.prog w = .ok (205, .agg #[h]) w := by kernel_rfl
theorem asmethodAssignableTo (h : Value) (w : World) : (Go.method 392 235 (.agg #[h]) "AssignableTo").run Tryd.prog w = .ok (202, .agg #[h]) w := by kernel_rfl
theorem aselem27 (w : World) : (ReflectliteType.method ReflectliteType.elem #[.agg #[.pointer (some ⟨14, 131, none⟩)]]).run Tryd.prog w = .ok (.iface 235 (.agg #[.pointer (some ⟨14, 129, none⟩)])) w := by kernel_rfl
theorem asimplements25 (w : World) : (ReflectliteType.relation "Implements" ReflectliteType.implements_ #[.agg #[.pointer (some ⟨14, 129, none⟩)], .iface 235 (.agg #[.pointer (some ⟨14, 30, none⟩)])]).run Tryd.prog w = .ok (.bool true) w := by kernel_rfl
theorem astypeOf25 (v : Value) (w : World) : (ReflectliteType.typeOf #[.iface 129 v]).run Tryd.prog w = .ok (.iface 235 (.agg #[.pointer (some ⟨14, 129, none⟩)])) w := by kernel_rfl
theorem asassignable25 (w : World) : (ReflectliteType.relation "AssignableTo" ReflectliteType.assignableTo #[.agg #[.pointer (some ⟨14, 129, none⟩)], .iface 235 (.agg #[.pointer (some ⟨14, 129, none⟩)])]).run Tryd.prog w = .ok (.bool true) w := by kernel_rfl
theorem asvalueOf25 (e : Addr) (w : World) : (ReflectliteValue.unpack (.iface 129 (.pointer (some e)))).run Tryd.prog w
    = .ok (.agg #[.pointer (some ⟨14, 129, none⟩), .pointer (some ⟨w.heap.size, 0, none⟩), .int .u64 150]) (w.alloc (.cells #[.pointer (some e)] 129)) := by kernel_rfl

theorem aselemOf27 (w : World) : (Rtype.elem? 131).run Tryd.prog w = .ok (some 129) w := by kernel_rfl
theorem asmk25 (p : Addr) (w : World) : (ReflectliteValue.mk 129 p ReflectliteValue.flagAddr).run Tryd.prog w = .ok (.agg #[.pointer (some ⟨14, 129, none⟩), .pointer (some p), .int .u64 406]) w := by kernel_rfl
/-- (Value).Elem at the Value of a **p.E that is not nil: the Value of the *p.E variable that it points to, addressable. -/
theorem aselemV27 (a p : Addr) (W : World) (ha : W.cell? a = some (.pointer (some p))) :
    (ReflectliteValue.method (ReflectliteValue.valueError "reflectlite.Value.Elem" 0) ReflectliteValue.elem #[.agg #[.pointer (some ⟨14, 131, none⟩), .pointer (some a), .int .u64 150]]).run Tryd.prog W
      = .ok (.agg #[.pointer (some ⟨14, 129, none⟩), .pointer (some p), .int .u64 406]) W := by
  rw [asRlm]
  simp only [Sem.run_bind, asparts27, Result.andThen]
  simp [ReflectliteValue.elem, loadVar, isAgg, underlying, Tryd.underlying131, ha, Result.andThen, aselemOf27, asmk25]
theorem asRls (v x : Value) : ReflectliteValue.set #[v, x] = (do
    let (some (dst, a, fl), some (src, b, _)) := (← ReflectliteValue.parts v, ← ReflectliteValue.parts x)
      | unsupported (.noEntry "extern/(internal/reflectlite.Value).Set.zeroValue")
    if fl / ReflectliteValue.flagAddr % 2 == 0 then unsupported (.noEntry "extern/(internal/reflectlite.Value).Set.unaddressable")
    let val ← loadVar src b
    if ← Rtype.directlyAssignable dst src then storeVar dst a val
    else if ← Rtype.implements dst src then
      if (← Rtype.kind src) == 20 then
        match val with
        | .nilIface => unsupported (.noEntry "extern/reflectlite: a nil value of one interface type handed on as a value of another")
        | _ => storeVar dst a val
      else storeVar dst a (.iface src val)
    else panicString ("reflectlite.Set: value of type " ++ (← Rtype.spelt src) ++ " is not assignable to type " ++ (← Rtype.spelt dst))
    pure (.tuple #[])) := rfl
theorem asparts25a (a : Addr) (w : World) : (ReflectliteValue.parts (.agg #[.pointer (some ⟨14, 129, none⟩), .pointer (some a), .int .u64 406])).run Tryd.prog w = .ok (some (129, a, 406)) w := by kernel_rfl
theorem asparts25 (a : Addr) (w : World) : (ReflectliteValue.parts (.agg #[.pointer (some ⟨14, 129, none⟩), .pointer (some a), .int .u64 150])).run Tryd.prog w = .ok (some (129, a, 150)) w := by kernel_rfl
theorem asdirect25 (w : World) : (Rtype.directlyAssignable 129 129).run Tryd.prog w = .ok true w := by kernel_rfl
theorem assize25 (w : World) : (sizeOf 129).run Tryd.prog w = .ok 1 w := by kernel_rfl
/-- (Value).Set: the *p.E variable at 'ta' gets what the Value's own variable 'b' holds. -/
theorem asset25 (ta b e : Addr) (old : Value) (W : World) (hb : W.cell? b = some (.pointer (some e))) (ht : W.cell? ta = some old) (hf : W.frozen? ta = false) :
    (ReflectliteValue.set #[.agg #[.pointer (some ⟨14, 129, none⟩), .pointer (some ta), .int .u64 406], .agg #[.pointer (some ⟨14, 129, none⟩), .pointer (some b), .int .u64 150]]).run Tryd.prog W
      = .ok (.tuple #[]) (W.setCell ta (.pointer (some e))) := by
  rw [asRls]
  simp only [Sem.run_bind, asparts25a, asparts25, Result.andThen]
  simp [ReflectliteValue.flagAddr, loadVar, isAgg, underlying, Tryd.underlying129, hb, Result.andThen, asdirect25, storeVar, Value.cells, storeCells, Addr.add]
  rw [run_store Tryd.prog W ta _ _ (by rfl)]
  simp [ht, hf]

set_option maxHeartbeats 4000000 in
theorem as_hit (e t : Addr) (old : Value) (w : World) (hg : w.cell? ⟨12, 0, none⟩ = some (.iface 235 (.agg #[.pointer (some ⟨14, 30, none⟩)]))) (ht0 : w.cell? t = some old) (hf0 : w.frozen? t = false) :
    Calls Tryd.prog 75 #[.iface 129 (.pointer (some e)), .iface 131 (.pointer (some t))] w fun ev w' => ev = .returned (.bool true) ∧ w' = ((((w.alloc (.cells #[.pointer (some t)] 131)).alloc (.cells #[.pointer (some ⟨14, 131, none⟩), .pointer (some ⟨w.heap.size, 0, none⟩), .int .u64 150] 196)).alloc (.cells #[.pointer (some ⟨14, 131, none⟩), .pointer (some ⟨w.heap.size, 0, none⟩), .int .u64 150] 196)).alloc (.cells #[.pointer (some e)] 129)).setCell t (.pointer (some e)) := by
  have h6 := @run_callFunc_extern Tryd.prog 133 _ (fun args => ReflectliteValue.unpack (args.getD 0 (.tuple #[]))) Tryd.func133 (by kernel_rfl) (by kernel_rfl) (by kernel_rfl) (by kernel_rfl)
  have h7 := @run_callFunc_extern Tryd.prog 134 _ (ReflectliteValue.methodAny (ReflectliteValue.valueError "reflectlite.Value.Type" 0) (fun t _ _ _ => ReflectliteType.toType t)) Tryd.func134 (by kernel_rfl) (by kernel_rfl) (by kernel_rfl) (by kernel_rfl)
  have h8 := @run_callFunc_extern Tryd.prog 135 _ (ReflectliteValue.method (ReflectliteValue.valueError "reflectlite.Value.IsNil" 0) ReflectliteValue.isNil) Tryd.func135 (by kernel_rfl) (by kernel_rfl) (by kernel_rfl) (by kernel_rfl)
  have h27 := @run_callFunc_extern Tryd.prog 192 _ (ReflectliteType.abiMethod fun t => do pure (.int .u8 (← Rtype.kind t))) Tryd.func192 (by kernel_rfl) (by kernel_rfl) (by kernel_rfl) (by kernel_rfl)
  have h37 := @run_callFunc_extern Tryd.prog 204 _ (ReflectliteType.method ReflectliteType.elem) Tryd.func204 (by kernel_rfl) (by kernel_rfl) (by kernel_rfl) (by kernel_rfl)
  have h38 := @run_callFunc_extern Tryd.prog 205 _ (ReflectliteType.relation "Implements" ReflectliteType.implements_) Tryd.func205 (by kernel_rfl) (by kernel_rfl) (by kernel_rfl) (by kernel_rfl)
  have h10 := @run_callFunc_extern Tryd.prog 131 _ ReflectliteType.typeOf Tryd.func131 (by kernel_rfl) (by kernel_rfl) (by kernel_rfl) (by kernel_rfl)
  have h35 := @run_callFunc_extern Tryd.prog 202 _ (ReflectliteType.relation "AssignableTo" ReflectliteType.assignableTo) Tryd.func202 (by kernel_rfl) (by kernel_rfl) (by kernel_rfl) (by kernel_rfl)
  have h11 := @run_callFunc_extern Tryd.prog 165 _ (ReflectliteValue.method (ReflectliteValue.valueError "reflectlite.Value.Elem" 0) ReflectliteValue.elem) Tryd.func165 (by kernel_rfl) (by kernel_rfl) (by kernel_rfl) (by kernel_rfl)
  have h12 := @run_callFunc_extern Tryd.prog 166 _ ReflectliteValue.set Tryd.func166 (by kernel_rfl) (by kernel_rfl) (by kernel_rfl) (by kernel_rfl)
  have tO := astypeOf25
  have mA := asmethodAssignableTo
  have a25 := asassignable25
  have v25 := asvalueOf25
  have f6 := asvalueOf27
  have f7 := astype27
  have mK := asmethodKind
  have mE := asmethodElem
  have mI := asmethodImplements
  have k27 := askind27
  have k25 := askind25
  have e27 := aselem27
  have i25 := asimplements25
  have n8 := asisNil27 ⟨w.heap.size, 0, none⟩ t ((w.alloc (.cells #[.pointer (some t)] 131)).alloc (.cells #[.pointer (some ⟨14, 131, none⟩), .pointer (some ⟨w.heap.size, 0, none⟩), .int .u64 150] 196)) (by simp)
  have hlt : 12 < w.heap.size := World.block_lt_of_cell? w ⟨12, 0, none⟩ hg
  have hg2 : ((w.alloc (.cells #[.pointer (some t)] 131)).alloc (.cells #[.pointer (some ⟨14, 131, none⟩), .pointer (some ⟨w.heap.size, 0, none⟩), .int .u64 150] 196)).cell? ⟨12, 0, none⟩ = some (.iface 235 (.agg #[.pointer (some ⟨14, 30, none⟩)])) := by
    rw [World.cell?_alloc_lt _ _ ⟨12, 0, none⟩ (by simp; omega), World.cell?_alloc_lt _ _ ⟨12, 0, none⟩ hlt]; exact hg
  have htl : t.block < w.heap.size := by
    rcases Nat.lt_or_ge t.block w.heap.size with h | h
    · exact h
    · simp [World.cell?, Array.getElem?_eq_none h] at ht0
  have el := aselemV27 ⟨w.heap.size, 0, none⟩ t (((w.alloc (.cells #[.pointer (some t)] 131)).alloc (.cells #[.pointer (some ⟨14, 131, none⟩), .pointer (some ⟨w.heap.size, 0, none⟩), .int .u64 150] 196)).alloc (.cells #[.pointer (some ⟨14, 131, none⟩), .pointer (some ⟨w.heap.size, 0, none⟩), .int .u64 150] 196)) (by rw [World.cell?_alloc_lt _ _ ⟨w.heap.size, 0, none⟩ (by simp; omega)]; simp)
  have st := asset25 t ⟨w.heap.size + 1 + 1 + 1, 0, none⟩ e old ((((w.alloc (.cells #[.pointer (some t)] 131)).alloc (.cells #[.pointer (some ⟨14, 131, none⟩), .pointer (some ⟨w.heap.size, 0, none⟩), .int .u64 150] 196)).alloc (.cells #[.pointer (some ⟨14, 131, none⟩), .pointer (some ⟨w.heap.size, 0, none⟩), .int .u64 150] 196)).alloc (.cells #[.pointer (some e)] 129))
    (by rw [World.cell?_alloc_at _ _ _ _ (by simp)]; rfl)
    (by rw [World.cell?_alloc_lt _ _ t (by simp; omega), World.cell?_alloc_lt _ _ t (by simp; omega), World.cell?_alloc_lt _ _ t (by simp; omega), World.cell?_alloc_lt _ _ t htl]; exact ht0)
    (by rw [World.frozen?_alloc_old _ _ t (by simp; omega), World.frozen?_alloc_old _ _ t (by simp; omega), World.frozen?_alloc_old _ _ t (by simp; omega), World.frozen?_alloc_old _ _ t (Nat.ne_of_lt htl)]; exact hf0)
  go_enter Tryd.func75, Tryd.ntmps75
  go_wp2
  refine wp_loop_rounds 1 ?_
  rw [rounds_succ]
  go_wp2
  go_ret
  exact ⟨rfl, rfl⟩
end Go.Proofs.YtefhlonipglboaaDoor

/- The errors themselves in memory, and what fault.New, fault.Under, edenraw.New, edenraw.Root make of them. -/
namespace Go.Proofs.YtefhlonipglboaaDoor
open Go.RowKit Go.Extern.Stop Go.Stop Go.Extern Go.Proofs.YtefhlonipglboaaDoorW.PrintWords Go.Proofs.YtefhlonipglboaaDoorW.PrintLast Go.Proofs.YtefhlonipglboaaDoorW.PrintMore
set_option linter.unusedVariables false
set_option linter.unusedSimpArgs false

/-- the package-level errors lie where the program's text lays them -/
structure Env (S : Nat → Addr) (w : World) : Prop where
  g1 : w.cell? ⟨0, 0, none⟩ = some (.iface 260 (.pointer (some (S 1))))
  g2 : w.cell? ⟨1, 0, none⟩ = some (.iface 260 (.pointer (some (S 2))))
  g3 : w.cell? ⟨2, 0, none⟩ = some (.iface 260 (.pointer (some (S 3))))
  g4 : w.cell? ⟨3, 0, none⟩ = some (.iface 260 (.pointer (some (S 4))))
  g5 : w.cell? ⟨4, 0, none⟩ = some (.iface 260 (.pointer (some (S 5))))
  g6 : w.cell? ⟨5, 0, none⟩ = some (.iface 260 (.pointer (some (S 6))))
  g7 : w.cell? ⟨6, 0, none⟩ = some (.iface 260 (.pointer (some (S 7))))
  g8 : w.cell? ⟨7, 0, none⟩ = some (.iface 260 (.pointer (some (S 8))))
  g9 : w.cell? ⟨8, 0, none⟩ = some (.iface 260 (.pointer (some (S 9))))
  g10 : w.cell? ⟨9, 0, none⟩ = some (.iface 260 (.pointer (some (S 10))))
  g11 : w.cell? ⟨10, 0, none⟩ = some (.iface 260 (.pointer (some (S 11))))
  g12 : w.cell? ⟨11, 0, none⟩ = some (.iface 260 (.pointer (some (S 12))))
  et : w.cell? ⟨12, 0, none⟩ = some (.iface 235 (.agg #[.pointer (some ⟨14, 30, none⟩)]))
theorem Env.below {S : Nat → Addr} {w w1 : World} (h : Env S w) (hb : Below w.heap.size w w1) : Env S w1 :=
  ⟨pw_cell_below hb h.g1, pw_cell_below hb h.g2, pw_cell_below hb h.g3, pw_cell_below hb h.g4, pw_cell_below hb h.g5, pw_cell_below hb h.g6, pw_cell_below hb h.g7, pw_cell_below hb h.g8, pw_cell_below hb h.g9, pw_cell_below hb h.g10, pw_cell_below hb h.g11, pw_cell_below hb h.g12, pw_cell_below hb h.et⟩

/-- an error's number -/
def Num (n : Int) : Prop := n = 1 ∨ n = 2 ∨ n = 3 ∨ n = 4 ∨ n = 5 ∨ n = 6 ∨ n = 7 ∨ n = 8 ∨ n = 9 ∨ n = 10 ∨ n = 11

set_option maxHeartbeats 4000000 in
theorem root_calls (S : Nat → Addr) (n : Int) (hn : Num n) (w : World) (h : Env S w) :
    Calls Tryd.prog 74 #[.int .i64 n] w fun e w' => e = .returned (.iface 260 (.pointer (some (S n.toNat)))) ∧ w = w' := by
  obtain ⟨g1, g2, g3, g4, g5, g6, g7, g8, g9, g10, g11, g12, _⟩ := h
  rcases hn with rfl | rfl | rfl | rfl | rfl | rfl | rfl | rfl | rfl | rfl | rfl
  all_goals
    go_enter Tryd.func74, Tryd.ntmps74
    go_wp2
    go_ret
    exact ⟨rfl, rfl⟩
set_option maxHeartbeats 4000000 in
theorem froot_calls (S : Nat → Addr) (n : Int) (hn : Num n) (w : World) (h : Env S w) :
    Calls Tryd.prog 164 #[.int .i64 n] w fun e w' => e = .returned (.iface 260 (.pointer (some (S n.toNat)))) ∧ w = w' := by
  obtain ⟨g1, g2, g3, g4, g5, g6, g7, g8, g9, g10, g11, g12, _⟩ := h
  rcases hn with rfl | rfl | rfl | rfl | rfl | rfl | rfl | rfl | rfl | rfl | rfl
  all_goals
    go_enter Tryd.func164, Tryd.ntmps164
    go_wp2
    go_ret
    exact ⟨rfl, rfl⟩

/-- what a call that answers an error leaves -/
def ErrRes (S : Nat → Addr) (w : World) (n : Nat) (l : List (ByteArray × Int)) (e : Ending) (w' : World) : Prop := ∃ v, e = .returned v ∧ ErrAt S w' n l v ∧ Below w.heap.size w w'
set_option maxHeartbeats 1000000 in
theorem fnew_calls (S : Nat → Addr) (op : ByteArray) (pos n : Int) (hn : Num n) (w : World) (h : Env S w) :
    Calls Tryd.prog 126 #[.string op, .int .i64 pos, .int .i64 n] w (ErrRes S w n.toNat [(op, pos)]) := by
  have H := Aside0.mk h
  have HN := Aside0.mk hn
  have hnb : (n == 0) = false := by rw [beq_eq_false_iff_ne]; unfold Num at hn; omega
  clear h hn
  go_enter Tryd.func126, Tryd.ntmps126
  go_wp2_with (go_at_call 164; refine (froot_calls S n HN.out _ H.out).mono ?_; rintro e w' ⟨rfl, rfl⟩)
  go_ret
  exact ⟨_, rfl, ⟨w.heap.size, _, rfl, by simp, by simp, by simp, rfl⟩, below_alloc (Below.refl _ _) _⟩
set_option maxHeartbeats 1000000 in
theorem funder_calls (S : Nat → Addr) (op : ByteArray) (pos : Int) (n : Nat) (l : List (ByteArray × Int)) (v : Value) (w : World) (h : ErrAt S w n l v) :
    Calls Tryd.prog 137 #[.string op, .int .i64 pos, v] w (ErrRes S w n ((op, pos) :: l)) := by
  obtain ⟨t, x, rfl⟩ := h.form
  have H := Aside0.mk (h.below (below_alloc (Below.refl w.heap.size w) (.cells #[.string op, .int .i64 pos, .iface t x] 133)))
  clear h
  go_enter Tryd.func137, Tryd.ntmps137
  go_wp2
  go_ret
  exact ⟨_, rfl, ⟨w.heap.size, _, rfl, by simp, by simp, by simp, H.out⟩, below_alloc (Below.refl _ _) _⟩
set_option maxHeartbeats 1000000 in
theorem funder_nil (op : ByteArray) (pos : Int) (w : World) :
    Calls Tryd.prog 137 #[.string op, .int .i64 pos, .nilIface] w fun e w' => e = .returned .nilIface ∧ w = w' := by
  go_enter Tryd.func137, Tryd.ntmps137
  go_wp2
  go_ret
  exact ⟨rfl, rfl⟩
end Go.Proofs.YtefhlonipglboaaDoor

/- What the rows' condition gives a walk, a world in which the door stands, and the row's last step. -/
namespace Go.Proofs.YtefhlonipglboaaDoor
open Go.RowKit Go.WideShapes Go.ChangeShapes Go.ChangeAt Go.Extern.Stop Go.Proofs.YtefhlonipglboaaDoorW.PrintWords Go.Proofs.YtefhlonipglboaaDoorW.PrintLast Go.Proofs.YtefhlonipglboaaDoorW.PrintMore Go.Stop Go.Extern
set_option linter.unusedVariables false

theorem post_of_below {H : Type} {enc : TypeId × Value → H} {P : Program} {f : Func} {s : ChangeSpec} {apart fresh handsOn again : Bool} {W W' : World} {args : Array Value} {v : Value} {ds gs : List (DataW H)} {before pa pv : List MemPlace}
    (hW : DataW.Whole enc P f.params.toList s.vars apart W args.toList ds gs before)
    (hres : ∀ (b : Nat) (sp : Nat → Bool) (hd : Bool), DataW.TrodAll enc P W' b sp hd f.resultTypes.toList (v.resultList f.resultTypes.size) (s.fn H (ds ++ gs)).results [])
    (hargs : ∀ sp : Nat → Bool, (∀ p ∈ before, sp p.block = true) → DataW.TrodAll enc P W' 0 sp true f.params.toList args.toList (s.fn H (ds ++ gs)).args pa)
    (hvars : ∀ sp : Nat → Bool, (∀ p ∈ before, sp p.block = true) → DataW.TrodVars enc P W' sp s.vars (s.fn H (ds ++ gs)).vars pv)
    (hps : before = pa ++ pv) (hb : Below W.heap.size W W')
    (hok : ∀ (j : Nat) (t : TypeId) (r : Value), f.resultTypes[j]? = some t → (v.resultList f.resultTypes.size)[j]? = some r → Value.okWide P W' .any 0 t r) :
    s.post enc P f apart fresh handsOn again W args v W' := by
  have hlt : ∀ p ∈ before, p.block < W.heap.size := fun p hp => hW.lt p hp
  have hold : ∀ p ∈ before, (fun b => decide (b < W.heap.size)) p.block = true := fun p hp => by simpa using hlt p hp
  refine ⟨ds, gs, before, [], pa, pv, hW, hres _ _ _, hargs _ hold, hvars _ hold, World.keptBut_mono (fun p hp => ⟨hp, ?_⟩) (hb.frame (· ∈ before)), fun _ => ?_⟩
  · rw [hps, List.mem_append] at hp
    exact Or.inr hp
  · obtain ⟨_, _, _, _, _, hz, hn⟩ := hW
    refine ⟨hok, _, _, ([] ++ pa) ++ pv, ⟨[] ++ pa, pv, trodAll_append (hargs _ (fun _ _ => rfl)) (hres _ _ _), hvars _ (fun _ _ => rfl), rfl, ?_, ?_⟩, ?_⟩
    · intro b off hp
      have hin : MemPlace.cell b off ∈ before := by rw [hps]; simpa using hp
      rw [hb.frozen (hlt _ hin)]
      exact hz b off hin
    · intro ha
      have := hn ha
      rw [hps] at this
      simpa using this
    · intro p hp _
      rw [hps]
      simpa using hp

theorem laidOutP : laidOutB Tryd.prog = true := by kernel_rfl
theorem ownK : ownKnob Tryd.prog.godebug = none := by kernel_rfl

/-- arguments read again in a later world -/
theorem stays_all {H : Type} {enc : TypeId × Value → H} {W W' : World} {sp' : Nat → Bool} : ∀ {ts : List TypeId} {vs : List Value} {ds : List (DataW H)} {ps : List MemPlace},
    (∀ t ∈ ts, Tryd.prog.readableRec t = true ∧ t < Tryd.prog.types.size) → DataW.TrodAll enc Tryd.prog W 0 (fun _ => true) true ts vs ds ps → (∀ p ∈ ps, W.sameAt W' p) → (∀ p ∈ ps, sp' p.block = true) →
    DataW.TrodAll enc Tryd.prog W' 0 sp' true ts vs ds ps
  | [], vs, ds, ps, _, h, _, _ => by obtain ⟨rfl, rfl, rfl⟩ := trodAll_nil h; exact h
  | t :: ts, vs0, ds0, ps0, ht, h, hs, hp => by
    obtain ⟨v, vs, d, ds, p, q, rfl, rfl, rfl, hd, hr⟩ := trodAll_cons h
    exact trodAll_cons_mk (WideElems.Trod_stays laidOutP (ht t List.mem_cons_self).1 (ht t List.mem_cons_self).2 hd (fun x hx => hs x (List.mem_append_left _ hx)) (fun x hx => hp x (List.mem_append_left _ hx)))
      (stays_all (fun u hu => ht u (List.mem_cons_of_mem _ hu)) hr (fun x hx => hs x (List.mem_append_right _ hx)) (fun x hx => hp x (List.mem_append_right _ hx)))

theorem star_ : "*" ++ "errors.errorString" = "*errors.errorString" := by decide
theorem row_es (u : TypeId) (h : Tryd.prog.typeName? 3 u = some "*errors.errorString") : u = 260 :=
  typeName_ptr_named (nm := "errors.errorString") (by rw [star_]; kernel_rfl) (by kernel_rfl) (by decide) u (by rw [star_]; exact h)
theorem cells_es : Tryd.prog.cellsOf 280 = 1 := by kernel_rfl
theorem cells_st : Tryd.prog.cellsOf 9 = 1 := by kernel_rfl
theorem sent {n : String} {text : List UInt8} {r : List (String × DataW Unit)} {W : World} {g : Nat}
    (h : laidMet Tryd.prog ((n, .iface "*errors.errorString" (.ptr (.agg [.lit (.string text)]))) :: r) W) (hg : Tryd.prog.globalNamed n = some g) (ht : (Tryd.prog.globals[g]?).map (·.type) = some 30) :
    ∃ a, W.cell? ⟨g, 0, none⟩ = some (.iface 260 (.pointer (some a))) := by
  obtain ⟨a, s, hv, _⟩ := laid_sentinel h hg ht Tryd.underlying30 row_es Tryd.underlying260 Tryd.underlying280 rfl rfl Tryd.underlying9 cells_es cells_st
  exact ⟨a, by simpa using World.var?_cell hg hv 0⟩

theorem et_ : Tryd.prog.globalNamed "errors.errorType" = some 12 := by kernel_rfl
theorem rt_ : (Tryd.prog.cutTypes.find? (·.1 == "internal/reflectlite.rtype")).map (·.2) = some 235 := by kernel_rfl
theorem oneRow_ : ((List.range Tryd.prog.types.size).filter fun t => Tryd.prog.rowNamed t [101, 114, 114, 111, 114]) = [30] := by kernel_rfl
theorem handle_of {W : World} (h : handlesMet Tryd.prog [("errors.errorType", Rows.laid_errors_errorType)] W) : W.cell? ⟨12, 0, none⟩ = some (.iface 235 (.agg #[.pointer (some ⟨14, 30, none⟩)])) := by
  obtain ⟨name, u, ty, e1, e2, e3, e4, e5⟩ := h _ (List.mem_singleton.2 rfl)
  have en : name = [101, 114, 114, 111, 114] := (Option.some.inj e1).symm
  subst en
  obtain rfl := Option.some.inj (rt_.symm.trans e2)
  have hm : ty ∈ (List.range Tryd.prog.types.size).filter fun t => Tryd.prog.rowNamed t [101, 114, 114, 111, 114] := List.mem_filter.2 ⟨List.mem_range.2 e3, e4⟩
  rw [oneRow_] at hm
  obtain rfl := List.mem_singleton.1 hm
  have hh : typeHandle Tryd.prog 30 = .pointer (some ⟨14, 30, none⟩) := by kernel_rfl
  rw [hh] at e5
  simpa using World.var?_cell et_ e5 0

def sents (r : List (String × DataW Unit)) : List (String × DataW Unit) :=
  ("eden/api.BadRule", Rows.laid_eden_api_BadRule) :: ("eden/api.BadWord", Rows.laid_eden_api_BadWord) :: ("eden/api.BadArg", Rows.laid_eden_api_BadArg) :: ("eden/api.TooBig", Rows.laid_eden_api_TooBig) ::
  ("eden/api.NoBudget", Rows.laid_eden_api_NoBudget) :: ("eden/api.BadText", Rows.laid_eden_api_BadText) :: ("eden/api.BadPatch", Rows.laid_eden_api_BadPatch) :: ("eden/api.BadCert", Rows.laid_eden_api_BadCert) ::
  ("eden/api.NoInverse", Rows.laid_eden_api_NoInverse) :: ("eden/api.BadLine", Rows.laid_eden_api_BadLine) :: ("eden/api.BadState", Rows.laid_eden_api_BadState) :: ("eden/api.Unknown", Rows.laid_eden_api_Unknown) :: r
/-- WHAT THE CONDITION GIVES A WALK -/
theorem env_of {W : World} {r : List (String × DataW Unit)} (h0 : laidMet Tryd.prog (sents r) W) (hh : handlesMet Tryd.prog [("errors.errorType", Rows.laid_errors_errorType)] W) : ∃ S : Nat → Addr, Env S W := by
  unfold sents at h0
  have h1 := h0.tail
  have h2 := h1.tail
  have h3 := h2.tail
  have h4 := h3.tail
  have h5 := h4.tail
  have h6 := h5.tail
  have h7 := h6.tail
  have h8 := h7.tail
  have h9 := h8.tail
  have h10 := h9.tail
  have h11 := h10.tail
  obtain ⟨a1, g1⟩ := sent (g := 0) h0 (by kernel_rfl) (by kernel_rfl)
  obtain ⟨a2, g2⟩ := sent (g := 1) h1 (by kernel_rfl) (by kernel_rfl)
  obtain ⟨a3, g3⟩ := sent (g := 2) h2 (by kernel_rfl) (by kernel_rfl)
  obtain ⟨a4, g4⟩ := sent (g := 3) h3 (by kernel_rfl) (by kernel_rfl)
  obtain ⟨a5, g5⟩ := sent (g := 4) h4 (by kernel_rfl) (by kernel_rfl)
  obtain ⟨a6, g6⟩ := sent (g := 5) h5 (by kernel_rfl) (by kernel_rfl)
  obtain ⟨a7, g7⟩ := sent (g := 6) h6 (by kernel_rfl) (by kernel_rfl)
  obtain ⟨a8, g8⟩ := sent (g := 7) h7 (by kernel_rfl) (by kernel_rfl)
  obtain ⟨a9, g9⟩ := sent (g := 8) h8 (by kernel_rfl) (by kernel_rfl)
  obtain ⟨a10, g10⟩ := sent (g := 9) h9 (by kernel_rfl) (by kernel_rfl)
  obtain ⟨a11, g11⟩ := sent (g := 10) h10 (by kernel_rfl) (by kernel_rfl)
  obtain ⟨a12, g12⟩ := sent (g := 11) h11 (by kernel_rfl) (by kernel_rfl)
  exact ⟨fun n => match n with | 1 => a1 | 2 => a2 | 3 => a3 | 4 => a4 | 5 => a5 | 6 => a6 | 7 => a7 | 8 => a8 | 9 => a9 | 10 => a10 | 11 => a11 | _ => a12, g1, g2, g3, g4, g5, g6, g7, g8, g9, g10, g11, g12, handle_of hh⟩

theorem limbs_of {zs : List Int} (h : ∀ n ∈ zs, (Lit.int .u32 n).wf = true) (k : Nat) : Limbs (zs.take k) := by
  intro x hx
  obtain ⟨j, hj, e⟩ := List.mem_iff_getElem.1 (List.mem_of_mem_take hx)
  have := range_u32 h j
  rw [List.getElem?_eq_getElem hj] at this
  simp only [Option.getD_some] at this
  rw [← e]
  exact ⟨this.1, by omega⟩
set_option maxRecDepth 100000 in
/-- a number's slice, opened -/
theorem open_nat {H : Type} {enc : TypeId × Value → H} {W : World} {base : Nat} {v : Value} {d : DataW H} {p : List MemPlace} (hv : Value.okWide Tryd.prog W .any base 78 v) (h : DataW.Trod enc Tryd.prog W 0 (fun _ => true) true 78 v d p) :
    ∃ A c l, v = .slice A l.length c ∧ l.length ≤ c ∧ Limbs l ∧ Kd.C (Kd.int .u32) W A l.length l := by
  obtain ⟨fuel, hf⟩ := h
  have c74 : Tryd.prog.cellsOf 152 = 1 := by kernel_rfl
  obtain ⟨A0, n0, c0, rfl⟩ := okWide_slice Tryd.underlying78 hv
  rcases open_ints Tryd.underlying78 Tryd.underlying152 c74 hf with ⟨h1, _⟩ | ⟨a, len, cap, zs, h1, _, hl, hm, hz, _, hcell, hw⟩
  · simp [Value.cells] at h1
    obtain ⟨rfl, rfl, rfl⟩ := h1
    exact ⟨none, 0, [], rfl, Nat.le_refl _, (fun x hx => absurd hx List.not_mem_nil), Kd.C_nil _ _⟩
  · simp [Value.cells] at h1
    obtain ⟨rfl, rfl, rfl⟩ := h1
    simp only [if_true] at hz
    have hlen : (zs.take n0).length = n0 := by rw [List.length_take]; omega
    refine ⟨some a, c0, zs.take n0, by rw [hlen], by rw [hlen]; exact hl, limbs_of hw n0, ?_⟩
    refine Kd.C_of_reads (d := 0) ⟨rfl, by rw [hlen]; unfold maxLen at hm; omega, fun _ => ⟨a, rfl, fun j hj => ?_⟩⟩
    rw [hlen] at hj
    rw [hcell j (by omega)]
    simp [List.getD_eq_getElem?_getD, hj]
theorem u32_wf {n : Int} (h : (Lit.int .u32 n).wf = true) : 0 ≤ n ∧ n < 4294967296 := by
  have := range_u32 (zs := [n]) (by simpa using h) 0
  simp only [List.getElem?_cons_zero, Option.getD_some] at this
  omega
theorem i64_wf {n : Int} (h : (Lit.int .i64 n).wf = true) : -9223372036854775808 ≤ n ∧ n ≤ 9223372036854775807 := by
  have := range_i64 (zs := [n]) (by simpa using h) 0
  simp only [List.getElem?_cons_zero, Option.getD_some] at this
  exact this
end Go.Proofs.YtefhlonipglboaaDoor

/- A world in which the door stands. -/
namespace Go.Proofs.YtefhlonipglboaaDoor
open Go.RowKit Go.WideShapes Go.ChangeShapes Go.ChangeAt Go.Extern.Stop Go.Proofs.YtefhlonipglboaaDoorW.PrintWords Go.Proofs.YtefhlonipglboaaDoorW.PrintLast Go.Proofs.YtefhlonipglboaaDoorW.PrintMore Go.Stop Go.Extern
set_option linter.unusedVariables false
noncomputable def startW (os : Os) : World := World.doorLaid Tryd.prog 600 os
end Go.Proofs.YtefhlonipglboaaDoor

/- edenraw.Is: an error that is the wanted one is told to be. -/
namespace Go.Proofs.YtefhlonipglboaaDoor
open Go.RowKit Go.Extern.Stop Go.Stop Go.Extern Go.Proofs.YtefhlonipglboaaDoorW.PrintWords Go.Proofs.YtefhlonipglboaaDoorW.PrintLast Go.Proofs.YtefhlonipglboaaDoorW.PrintMore
set_option linter.unusedVariables false
set_option linter.unusedSimpArgs false

theorem as_calls (e t : Addr) (old : Value) (w : World) (hg : w.cell? ⟨12, 0, none⟩ = some (.iface 235 (.agg #[.pointer (some ⟨14, 30, none⟩)]))) (ht0 : w.cell? t = some old) (hf0 : w.frozen? t = false) :
    Calls Tryd.prog 75 #[.iface 129 (.pointer (some e)), .iface 131 (.pointer (some t))] w fun ev w' => ev = .returned (.bool true) ∧ ∃ w1, Below w.heap.size w w1 ∧ w' = w1.setCell t (.pointer (some e)) := by
  refine (as_hit e t old w hg ht0 hf0).mono fun ev w' ⟨h1, h2⟩ => ⟨h1, _, ?_, h2⟩
  exact below_alloc (below_alloc (below_alloc (below_alloc (Below.refl _ _) _) _) _) _

section
variable {P : Program} {ops : Array Oper} {Q : Exit → Act → World → Prop} {S : World → Prop} {ds : List Nat}
theorem start0_ {id n : Nat} {a : Act} {w : World} (S : World → Prop) (ds : List Nat) (l : Array Bool) (hm : P.follows .mixedOrders = true) (hn : ops.size = n) (hl : Array.replicate n false = l)
    (h : wpAnyLast P .any ops Q S ds n l a w.drew) : (Code.region id ops true).wp P Q a w := by
  subst hn
  subst hl
  exact wp_region_last hm h
end

/-- a reference's error: its number, the packages and the places -/
def WantAt (w : World) (v : Value) (n : Int) (l : List (ByteArray × Int)) : Prop :=
  ∃ Ao co Aa ca, v = .agg #[.int .i64 n, .slice Ao l.length co, .slice Aa l.length ca] ∧ Kd.C Kd.string w Ao l.length (l.map (·.1)) ∧ Kd.C (Kd.int .i64) w Aa l.length (l.map (·.2)) ∧ l.length ≤ co ∧ l.length ≤ ca
theorem WantAt.below {w w1 : World} {v : Value} {n : Int} {l : List (ByteArray × Int)} (h : WantAt w v n l) (hb : Below w.heap.size w w1) : WantAt w1 v n l := by
  obtain ⟨Ao, co, Aa, ca, e, h1, h2, h3⟩ := h
  exact ⟨Ao, co, Aa, ca, e, Kd.C_below h1 hb, Kd.C_below h2 hb, h3⟩
theorem new_calls (op : ByteArray) (pos n : Int) (w : World) :
    Calls Tryd.prog 68 #[.string op, .int .i64 pos, .int .i64 n] w fun e w' => ∃ v, e = .returned v ∧ WantAt w' v n [(op, pos)] ∧ Below w.heap.size w w' := by
  refine (GNat.edenraw_New.calls op pos n n [op] [pos] w rfl).mono ?_
  rintro e w' ⟨v1, v2, rfl, h1, h2, hb⟩
  obtain ⟨A1, c1, rfl, k1, r1⟩ := Kd.R_reads h1
  obtain ⟨A2, c2, rfl, k2, r2⟩ := Kd.R_reads h2
  exact ⟨_, rfl, ⟨A1, c1, A2, c2, rfl, r1, r2, k1, k2⟩, hb⟩

theorem isCompF : (Tryd.prog.info? 129).map (·.comparable) = some true := by kernel_rfl
theorem isSizeF : (Tryd.prog.info? 133).map (·.size) = some 3 := by kernel_rfl
theorem run_neq_iface_ptr_same {P : Program} (w : World) {ti tp te : TypeId} {ms : Array (String × TypeId)} {i j : TypeInfo} (a : Addr)
    (hi : P.underlying ti = some (.interface ms)) (hp : P.underlying tp = some (.pointer te)) (hinfo : P.info? tp = some i) (hcomp : i.comparable = true) (hte : P.info? te = some j) :
    (binOp .neq ti (.iface tp (.pointer (some a))) (.iface tp (.pointer (some a)))).run P w = .ok (.bool false) w := by
  simp only [binOp]
  simp [Op.equal, Op.maxDepth, run_equalIn_iface_ptr_same w 9998 a hi hp hinfo hcomp hte]
theorem neqFault (a : Addr) (w : World) : (binOp .neq 30 (.iface 129 (.pointer (some a))) (.iface 129 (.pointer (some a)))).run Tryd.prog w = .ok (.bool false) w := by
  obtain ⟨i, hi, hcmp⟩ := Option.map_eq_some_iff.1 isCompF
  obtain ⟨j, hj, hjs⟩ := Option.map_eq_some_iff.1 isSizeF
  exact run_neq_iface_ptr_same w a Tryd.underlying30 Tryd.underlying129 hi hcmp hj
theorem eqSent (a : Addr) (w : World) : (binOp .eql 30 (.iface 260 (.pointer (some a))) (.iface 260 (.pointer (some a)))).run Tryd.prog w = .ok (.bool true) w := by
  obtain ⟨i, hi, hcmp⟩ := Option.map_eq_some_iff.1 isComp
  obtain ⟨j, hj, hjs⟩ := Option.map_eq_some_iff.1 isSize
  exact run_eql_iface_ptr_same w a Tryd.underlying30 Tryd.underlying260 hi hcmp hj
theorem setCell_same_ {w : World} {a : Addr} {u v : Value} (h : w.cell? a = some u) : (w.setCell a v).cell? a = some v := by
  first | exact World.cell?_setCell_same h | exact World.cell?_setCell_same _ _ _ h | (rw [World.cell?_setCell_same h])
theorem atString {w : World} {A : Option Addr} {xs : List ByteArray} (h : Kd.C Kd.string w A xs.length xs) (i : Nat) (hi : i < xs.length) : ∃ ad, A = some ad ∧ w.cell? (ad.add i) = some (.string xs[i]) := by
  obtain ⟨ad, e, hc⟩ := Kd.at_string h (i : Int) (by omega) (by omega)
  refine ⟨ad, e, ?_⟩
  rw [Int.toNat_natCast] at hc
  rw [hc]
  simp [rdOf, List.getD_eq_getElem?_getD, List.getElem?_eq_getElem hi]

set_option maxHeartbeats 8000000 in
set_option maxRecDepth 100000 in
theorem isf_calls (S : Nat → Addr) (n : Int) (hn : Num n) (l : List (ByteArray × Int)) (v want : Value) (w : World) (hE : Env S w) (h : ErrAt S w n.toNat l v) (hw : WantAt w want n l) (hl : l.length < 1000000) :
    Calls Tryd.prog 18 #[v, want] w fun e w' => e = .returned (.bool true) ∧ Below w.heap.size w w' := by
  obtain ⟨Ao, co, Aa, ca, rfl, ho, ha, hco, hca⟩ := hw
  obtain ⟨t, x, rfl⟩ := h.form
  have HN := Aside0.mk hn
  have hnb : (n == 0) = false := by rw [beq_eq_false_iff_ne]; unfold Num at hn; omega
  have hB0 := below_alloc (Below.refl w.heap.size w) (.cells #[.int .i64 n, .slice Ao l.length co, .slice Aa l.length ca] 35)
  obtain ⟨w1, hw1⟩ : ∃ w1, w1 = w.alloc (.cells #[.int .i64 n, .slice Ao l.length co, .slice Aa l.length ca] 35) := ⟨_, rfl⟩
  have HB0 : Aside0 (Below w.heap.size w w1) := ⟨hw1 ▸ hB0⟩
  have HE1 := Aside0.mk (hE.below HB0.out)
  have HERR := Aside0.mk (h.below HB0.out)
  have HO := Aside0.mk (Kd.C_below ho HB0.out)
  have HA := Aside0.mk (Kd.C_below ha HB0.out)
  have b0 : w1.cell? ⟨w.heap.size, 0, none⟩ = some (.int .i64 n) := by rw [hw1]; simp
  have b1 : w1.cell? ⟨w.heap.size, 1, none⟩ = some (.slice Ao l.length co) := by rw [hw1]; simp
  have b2 : w1.cell? ⟨w.heap.size, 2, none⟩ = some (.slice Aa l.length ca) := by rw [hw1]; simp
  have HL := Aside0.mk hl
  have HC := Aside0.mk (And.intro hco hca)
  have HW1 := Aside0.mk hw1
  clear hn hE h ho ha hl hco hca hB0
  go_enter Tryd.func18, Tryd.ntmps18
  go_wp2_with fail
  rw [← hw1]
  clear hw1
  refine (root_calls S n HN.out _ HE1.out).mono ?_
  rintro e w' ⟨rfl, rfl⟩
  go_wp2_with fail
  refine (is_calls S n.toNat l _ _ HERR.out).mono ?_
  rintro e w' ⟨rfl, rfl⟩
  go_wp2_with fail
  go_loopg [0, 5] l.length (fun kq v0 v5 w' => ∃ i : Nat, v5 = .int .i64 i ∧ Aside0 (kq + i = l.length) ∧ Aside0 (ErrAt S w' n.toNat (l.drop i) v0) ∧ Aside0 (Below w1.heap.size w1 w'))
  case atStart => exact ⟨0, rfl, ⟨rfl⟩, HERR, ⟨Below.refl _ _⟩⟩
  case round =>
    obtain ⟨i, rfl, HK, HEr, HB⟩ := hrel
    replace b0 := (HB.out.cell (World.block_lt_of_cell? w1 _ b0)).trans b0
    replace b1 := (HB.out.cell (World.block_lt_of_cell? w1 _ b1)).trans b1
    replace b2 := (HB.out.cell (World.block_lt_of_cell? w1 _ b2)).trans b2
    have hib : i < 9223372036854775807 := by have := HK.out; have := HL.out; omega
    by_cases hlt : i < l.length
    · obtain ⟨k1, rfl⟩ : ∃ k1, gk = k1 + 1 := ⟨gk - 1, by have := HK.out; omega⟩
      obtain ⟨p, rest, hpr⟩ : ∃ p rest, l.drop i = p :: rest := ⟨l[i], l.drop (i + 1), List.drop_eq_getElem_cons hlt⟩
      have hp : p = l[i] := by have := List.drop_eq_getElem_cons hlt; rw [hpr] at this; exact (List.cons.inj this).1
      have hrest : rest = l.drop (i + 1) := by have := List.drop_eq_getElem_cons hlt; rw [hpr] at this; exact (List.cons.inj this).2
      rw [hpr] at HEr
      obtain ⟨b, v', rfl, c0, c1, c2, hrec⟩ := HEr.out
      have HREC := Aside0.mk (hrest ▸ hrec)
      obtain ⟨ado, eo, hos⟩ := atString (xs := l.map (·.1)) (by have := HO.out; simpa using this) i (by simpa using hlt)
      obtain ⟨ada, ea, has⟩ := Kd.at_int HA.out (i : Int) (by omega) (by omega)
      cases eo
      cases ea
      simp only [List.getElem_map] at hos
      rw [← hp] at hos
      have hrd : rd (l.map (·.2)) (i : Int) = p.2 := by simp [rd, List.getD_eq_getElem?_getD, List.getElem?_eq_getElem hlt, hp]
      rw [Int.toNat_natCast, hrd] at has
      replace hos := (HB.out.cell (World.block_lt_of_cell? w1 _ hos)).trans hos
      replace has := (HB.out.cell (World.block_lt_of_cell? w1 _ has)).trans has
      have HP := Aside0.mk hp
      clear hp hrest hpr hrec hrd HEr
      go_wp2_with fail
      refine start0_ (n := 38) (fun w' => w'.cell? ⟨wr.heap.size, 0, none⟩ = some (.pointer (some ⟨b, 0, none⟩)) ∧ w'.cell? ⟨b, 0, none⟩ = some (.string p.1) ∧ w'.cell? ⟨b, 1, none⟩ = some (.int .i64 p.2) ∧ w'.cell? ⟨w.heap.size, 1, none⟩ = some (.slice (some ado) l.length co) ∧ w'.cell? ⟨w.heap.size, 2, none⟩ = some (.slice (some ada) l.length ca) ∧ w'.cell? (ado.add i) = some (.string p.1) ∧ w'.cell? (ada.add i) = some (.int .i64 p.2)) [] #[false, false, false, false, false, false, false, false, false, false, false, false, false, false, false, false, false, false, false, false, false, false, false, false, false, false, false, false, false, false, false, false, false, false, false, false, false, false] (by kernel_rfl) rfl rfl ?_
      obtain ⟨w2, hw2⟩ : ∃ w2, w2 = (wr.alloc (.cells #[.pointer none] 129)).drew := ⟨_, rfl⟩
      rw [← hw2]
      have HB2 : Aside0 (Below wr.heap.size wr w2) := ⟨by rw [hw2]; exact below_drew (below_alloc (Below.refl _ _) _)⟩
      have HCF : Aside0 (w2.cell? ⟨wr.heap.size, 0, none⟩ = some (.pointer none)) := ⟨by rw [hw2]; simp⟩
      have HFZ : Aside0 (w2.frozen? ⟨wr.heap.size, 0, none⟩ = false) := ⟨by rw [hw2]; simp⟩
      have HET := Aside0.mk ((HE1.out.below HB.out).below HB2.out).et
      clear hw2
      have HSS : Aside0 (∀ w3 w' : World, Below w2.heap.size w2 w3 → w' = w3.setCell ⟨wr.heap.size, 0, none⟩ (.pointer (some ⟨b, 0, none⟩)) → Below wr.heap.size wr w' ∧ w'.cell? ⟨wr.heap.size, 0, none⟩ = some (.pointer (some ⟨b, 0, none⟩))) := ⟨by
        intro w3 w' h3 hw'
        have hb3 := below_step HB2.out h3
        refine ⟨?_, ?_⟩
        · rw [hw']; exact below_set hb3 (Nat.le_refl _)
        · rw [hw']; exact setCell_same_ ((h3.cell (World.block_lt_of_cell? w2 _ HCF.out)).trans HCF.out)⟩
      have HCELLS := Aside0.mk (And.intro c0 (And.intro c1 (And.intro b1 (And.intro b2 (And.intro hos has)))))
      have nF := neqFault ⟨b, 0, none⟩
      have hne1 : (p.2 != p.2) = false := bne_self_eq_false p.2
      refine pure_ (i := 0) (N := (some 29)) (v := ?_) (a' := ?_) #[true, false, false, false, false, false, false, false, false, false, false, false, false, false, false, false, false, false, false, false, false, false, false, false, false, false, false, false, false, false, false, false, false, false, false, false, false, false] rfl rfl (by kernel_rfl) (fun _ _ _ h => h) (Or.inl ⟨by rfl, ?_⟩) ?_ ?_
      rotate_left
      · intro w'
        go_simp
        with_reducible rfl
      rotate_left
      · simp only [Act.put, List.setIfInBounds_toArray, List.set_cons_zero, List.set_cons_succ, i64_w, i32_w]
        rfl
      refine pure_ (i := 1) (N := (some 30)) (v := ?_) (a' := ?_) #[true, true, false, false, false, false, false, false, false, false, false, false, false, false, false, false, false, false, false, false, false, false, false, false, false, false, false, false, false, false, false, false, false, false, false, false, false, false] rfl rfl (by kernel_rfl) (fun _ _ _ h => h) (Or.inl ⟨by rfl, ?_⟩) ?_ ?_
      rotate_left
      · intro w'
        go_simp
        with_reducible rfl
      rotate_left
      · simp only [Act.put, List.setIfInBounds_toArray, List.set_cons_zero, List.set_cons_succ, i64_w, i32_w]
        rfl
      refine one_ (i := 2) (N := (some 31)) #[true, true, true, false, false, false, false, false, false, false, false, false, false, false, false, false, false, false, false, false, false, false, false, false, false, false, false, false, false, false, false, false, false, false, false, false, false, false] rfl rfl (by kernel_rfl) (by decide) (fun K hK => ?_)
      have hcf : w2.cell? ⟨wr.heap.size, 0, none⟩ = some (.pointer none) := HCF.out
      refine goes_ Tryd.func75 (by kernel_rfl) rfl #[.iface 129 (.pointer (some ⟨b, 0, none⟩)), .iface 131 (.pointer (some ⟨wr.heap.size, 0, none⟩))] (by rfl) rfl rfl (by (try simp only [List.map_toArray, List.map_cons, List.map_nil]); first | done | rfl) ?_
      with_reducible refine (as_calls ⟨b, 0, none⟩ ⟨wr.heap.size, 0, none⟩ (.pointer none) _ HET.out hcf HFZ.out).mono ?_
      rintro e w' ⟨rfl, w3, hb3, hw'⟩
      refine ⟨_, rfl, ?_⟩
      have HW3 := Aside0.mk hw'
      have HB3 := Aside0.mk hb3
      clear hcf hw' hb3
      have HBW := Aside0.mk (HSS.out w3 w' HB3.out HW3.out).1
      have HTC := (HSS.out w3 w' HB3.out HW3.out).2
      refine hK.out _ _ ⟨HTC, pw_cell_below HBW.out HCELLS.out.1, pw_cell_below HBW.out HCELLS.out.2.1, pw_cell_below HBW.out HCELLS.out.2.2.1, pw_cell_below HBW.out HCELLS.out.2.2.2.1, pw_cell_below HBW.out HCELLS.out.2.2.2.2.1, pw_cell_below HBW.out HCELLS.out.2.2.2.2.2⟩ (fun hHeld => ?_)
      clear hK K HTC HSS HCELLS HW3 HB3
      refine norm_ (a' := ?_) ?_ ?_
      rotate_left
      · show Act.put _ (some 31) _ = _
        simp only [Act.put, List.setIfInBounds_toArray, List.set_cons_zero, List.set_cons_succ, i64_w, i32_w]
        rfl
      refine pure_ (i := 3) (N := (some 32)) (v := ?_) (a' := ?_) #[true, true, true, true, false, false, false, false, false, false, false, false, false, false, false, false, false, false, false, false, false, false, false, false, false, false, false, false, false, false, false, false, false, false, false, false, false, false] rfl rfl (by kernel_rfl) (fun _ _ _ h => h) (Or.inl ⟨by rfl, ?_⟩) ?_ ?_
      rotate_left
      · intro w'
        go_simp
        with_reducible rfl
      rotate_left
      · simp only [Act.put, List.setIfInBounds_toArray, List.set_cons_zero, List.set_cons_succ, i64_w, i32_w]
        rfl
      refine pure_ (i := 4) (N := (some 33)) (v := ?_) (a' := ?_) #[true, true, true, true, true, false, false, false, false, false, false, false, false, false, false, false, false, false, false, false, false, false, false, false, false, false, false, false, false, false, false, false, false, false, false, false, false, false] rfl rfl (by kernel_rfl) (fun _ _ _ h => h) (Or.inl ⟨by rfl, ?_⟩) ?_ ?_
      rotate_left
      · intro w'
        go_simp
        with_reducible rfl
      rotate_left
      · simp only [Act.put, List.setIfInBounds_toArray, List.set_cons_zero, List.set_cons_succ, i64_w, i32_w]
        rfl
      refine take_ (i := 5) (N := (some 34)) (v := ?_) (a' := ?_) #[true, true, true, true, true, true, false, false, false, false, false, false, false, false, false, false, false, false, false, false, false, false, false, false, false, false, false, false, false, false, false, false, false, false, false, false, false, false] rfl rfl (by kernel_rfl) (fun _ _ _ h => h) (Or.inl ⟨by rfl, ?_⟩) hHeld ?_ ?_
      rotate_left
      · rintro w' ⟨s0, s1, s2, s3, s4, s5, s6⟩
        go_simp
        with_reducible rfl
      rotate_left
      · simp only [Act.put, List.setIfInBounds_toArray, List.set_cons_zero, List.set_cons_succ, i64_w, i32_w]
        rfl
      refine pure_ (i := 6) (N := (some 35)) (v := ?_) (a' := ?_) #[true, true, true, true, true, true, true, false, false, false, false, false, false, false, false, false, false, false, false, false, false, false, false, false, false, false, false, false, false, false, false, false, false, false, false, false, false, false] rfl rfl (by kernel_rfl) (fun _ _ _ h => h) (Or.inl ⟨by rfl, ?_⟩) ?_ ?_
      rotate_left
      · intro w'
        go_simp
        with_reducible rfl
      rotate_left
      · simp only [Act.put, List.setIfInBounds_toArray, List.set_cons_zero, List.set_cons_succ, i64_w, i32_w]
        rfl
      refine pure_ (i := 7) (N := (some 36)) (v := ?_) (a' := ?_) #[true, true, true, true, true, true, true, true, false, false, false, false, false, false, false, false, false, false, false, false, false, false, false, false, false, false, false, false, false, false, false, false, false, false, false, false, false, false] rfl rfl (by kernel_rfl) (fun _ _ _ h => h) (Or.inl ⟨by rfl, ?_⟩) ?_ ?_
      rotate_left
      · intro w'
        go_simp
        with_reducible rfl
      rotate_left
      · simp only [Act.put, List.setIfInBounds_toArray, List.set_cons_zero, List.set_cons_succ, i64_w, i32_w]
        rfl
      refine pure_ (i := 8) (N := (some 37)) (v := ?_) (a' := ?_) #[true, true, true, true, true, true, true, true, true, false, false, false, false, false, false, false, false, false, false, false, false, false, false, false, false, false, false, false, false, false, false, false, false, false, false, false, false, false] rfl rfl (by kernel_rfl) (fun _ _ _ h => h) (Or.inl ⟨by rfl, ?_⟩) ?_ ?_
      rotate_left
      · intro w'
        go_simp
        with_reducible rfl
      rotate_left
      · simp only [Act.put, List.setIfInBounds_toArray, List.set_cons_zero, List.set_cons_succ, i64_w, i32_w]
        rfl
      refine pure_ (i := 9) (N := (some 38)) (v := ?_) (a' := ?_) #[true, true, true, true, true, true, true, true, true, true, false, false, false, false, false, false, false, false, false, false, false, false, false, false, false, false, false, false, false, false, false, false, false, false, false, false, false, false] rfl rfl (by kernel_rfl) (fun _ _ _ h => h) (Or.inl ⟨by rfl, ?_⟩) ?_ ?_
      rotate_left
      · intro w'
        go_simp
        with_reducible rfl
      rotate_left
      · simp only [Act.put, List.setIfInBounds_toArray, List.set_cons_zero, List.set_cons_succ, i64_w, i32_w]
        rfl
      refine take_ (i := 10) (N := (some 39)) (v := ?_) (a' := ?_) #[true, true, true, true, true, true, true, true, true, true, true, false, false, false, false, false, false, false, false, false, false, false, false, false, false, false, false, false, false, false, false, false, false, false, false, false, false, false] rfl rfl (by kernel_rfl) (fun _ _ _ h => h) (Or.inl ⟨by rfl, ?_⟩) hHeld ?_ ?_
      rotate_left
      · rintro w' ⟨s0, s1, s2, s3, s4, s5, s6⟩
        go_simp
        with_reducible rfl
      rotate_left
      · simp only [Act.put, List.setIfInBounds_toArray, List.set_cons_zero, List.set_cons_succ, i64_w, i32_w]
        rfl
      refine pure_ (i := 11) (N := (some 40)) (v := ?_) (a' := ?_) #[true, true, true, true, true, true, true, true, true, true, true, true, false, false, false, false, false, false, false, false, false, false, false, false, false, false, false, false, false, false, false, false, false, false, false, false, false, false] rfl rfl (by kernel_rfl) (fun _ _ _ h => h) (Or.inl ⟨by rfl, ?_⟩) ?_ ?_
      rotate_left
      · intro w'
        go_simp
        with_reducible rfl
      rotate_left
      · simp only [Act.put, List.setIfInBounds_toArray, List.set_cons_zero, List.set_cons_succ, i64_w, i32_w]
        rfl
      refine pure_ (i := 12) (N := (some 41)) (v := ?_) (a' := ?_) #[true, true, true, true, true, true, true, true, true, true, true, true, true, false, false, false, false, false, false, false, false, false, false, false, false, false, false, false, false, false, false, false, false, false, false, false, false, false] rfl rfl (by kernel_rfl) (fun _ _ _ h => h) (Or.inl ⟨by rfl, ?_⟩) ?_ ?_
      rotate_left
      · intro w'
        go_simp
        with_reducible rfl
      rotate_left
      · simp only [Act.put, List.setIfInBounds_toArray, List.set_cons_zero, List.set_cons_succ, i64_w, i32_w]
        rfl
      refine pure_ (i := 13) (N := (some 42)) (v := ?_) (a' := ?_) #[true, true, true, true, true, true, true, true, true, true, true, true, true, true, false, false, false, false, false, false, false, false, false, false, false, false, false, false, false, false, false, false, false, false, false, false, false, false] rfl rfl (by kernel_rfl) (fun _ _ _ h => h) (Or.inl ⟨by rfl, ?_⟩) ?_ ?_
      rotate_left
      · intro w'
        go_simp
        with_reducible rfl
      rotate_left
      · simp only [Act.put, List.setIfInBounds_toArray, List.set_cons_zero, List.set_cons_succ, i64_w, i32_w]
        rfl
      refine pure_ (i := 14) (N := (some 43)) (v := ?_) (a' := ?_) #[true, true, true, true, true, true, true, true, true, true, true, true, true, true, true, false, false, false, false, false, false, false, false, false, false, false, false, false, false, false, false, false, false, false, false, false, false, false] rfl rfl (by kernel_rfl) (fun _ _ _ h => h) (Or.inl ⟨by rfl, ?_⟩) ?_ ?_
      rotate_left
      · intro w'
        go_simp
        with_reducible rfl
      rotate_left
      · simp only [Act.put, List.setIfInBounds_toArray, List.set_cons_zero, List.set_cons_succ, i64_w, i32_w]
        rfl
      refine take_ (i := 15) (N := (some 44)) (v := ?_) (a' := ?_) #[true, true, true, true, true, true, true, true, true, true, true, true, true, true, true, true, false, false, false, false, false, false, false, false, false, false, false, false, false, false, false, false, false, false, false, false, false, false] rfl rfl (by kernel_rfl) (fun _ _ _ h => h) (Or.inl ⟨by rfl, ?_⟩) hHeld ?_ ?_
      rotate_left
      · rintro w' ⟨s0, s1, s2, s3, s4, s5, s6⟩
        go_simp
        with_reducible rfl
      rotate_left
      · simp only [Act.put, List.setIfInBounds_toArray, List.set_cons_zero, List.set_cons_succ, i64_w, i32_w]
        rfl
      refine pure_ (i := 16) (N := (some 45)) (v := ?_) (a' := ?_) #[true, true, true, true, true, true, true, true, true, true, true, true, true, true, true, true, true, false, false, false, false, false, false, false, false, false, false, false, false, false, false, false, false, false, false, false, false, false] rfl rfl (by kernel_rfl) (fun _ _ _ h => h) (Or.inl ⟨by rfl, ?_⟩) ?_ ?_
      rotate_left
      · intro w'
        go_simp
        with_reducible rfl
      rotate_left
      · simp only [Act.put, List.setIfInBounds_toArray, List.set_cons_zero, List.set_cons_succ, i64_w, i32_w]
        rfl
      refine pure_ (i := 17) (N := (some 46)) (v := ?_) (a' := ?_) #[true, true, true, true, true, true, true, true, true, true, true, true, true, true, true, true, true, true, false, false, false, false, false, false, false, false, false, false, false, false, false, false, false, false, false, false, false, false] rfl rfl (by kernel_rfl) (fun _ _ _ h => h) (Or.inl ⟨by rfl, ?_⟩) ?_ ?_
      rotate_left
      · intro w'
        go_simp
        with_reducible rfl
      rotate_left
      · simp only [Act.put, List.setIfInBounds_toArray, List.set_cons_zero, List.set_cons_succ, i64_w, i32_w]
        rfl
      refine take_ (i := 18) (N := (some 47)) (v := ?_) (a' := ?_) #[true, true, true, true, true, true, true, true, true, true, true, true, true, true, true, true, true, true, true, false, false, false, false, false, false, false, false, false, false, false, false, false, false, false, false, false, false, false] rfl rfl (by kernel_rfl) (fun _ _ _ h => h) (Or.inl ⟨by rfl, ?_⟩) hHeld ?_ ?_
      rotate_left
      · rintro w' ⟨s0, s1, s2, s3, s4, s5, s6⟩
        go_simp
        with_reducible rfl
      rotate_left
      · simp only [Act.put, List.setIfInBounds_toArray, List.set_cons_zero, List.set_cons_succ, i64_w, i32_w]
        rfl
      refine pure_ (i := 19) (N := (some 48)) (v := ?_) (a' := ?_) #[true, true, true, true, true, true, true, true, true, true, true, true, true, true, true, true, true, true, true, true, false, false, false, false, false, false, false, false, false, false, false, false, false, false, false, false, false, false] rfl rfl (by kernel_rfl) (fun _ _ _ h => h) (Or.inl ⟨by rfl, ?_⟩) ?_ ?_
      rotate_left
      · intro w'
        go_simp
        with_reducible rfl
      rotate_left
      · simp only [Act.put, List.setIfInBounds_toArray, List.set_cons_zero, List.set_cons_succ, i64_w, i32_w]
        rfl
      refine take_ (i := 20) (N := (some 49)) (v := ?_) (a' := ?_) #[true, true, true, true, true, true, true, true, true, true, true, true, true, true, true, true, true, true, true, true, true, false, false, false, false, false, false, false, false, false, false, false, false, false, false, false, false, false] rfl rfl (by kernel_rfl) (fun _ _ _ h => h) (Or.inl ⟨by rfl, ?_⟩) hHeld ?_ ?_
      rotate_left
      · rintro w' ⟨s0, s1, s2, s3, s4, s5, s6⟩
        go_simp
        with_reducible rfl
      rotate_left
      · simp only [Act.put, List.setIfInBounds_toArray, List.set_cons_zero, List.set_cons_succ, i64_w, i32_w]
        rfl
      refine pure_ (i := 21) (N := (some 50)) (v := ?_) (a' := ?_) #[true, true, true, true, true, true, true, true, true, true, true, true, true, true, true, true, true, true, true, true, true, true, false, false, false, false, false, false, false, false, false, false, false, false, false, false, false, false] rfl rfl (by kernel_rfl) (fun _ _ _ h => h) (Or.inl ⟨by rfl, ?_⟩) ?_ ?_
      rotate_left
      · intro w'
        go_simp
        with_reducible rfl
      rotate_left
      · simp only [Act.put, List.setIfInBounds_toArray, List.set_cons_zero, List.set_cons_succ, i64_w, i32_w]
        rfl
      refine pure_ (i := 22) (N := (some 51)) (v := ?_) (a' := ?_) #[true, true, true, true, true, true, true, true, true, true, true, true, true, true, true, true, true, true, true, true, true, true, true, false, false, false, false, false, false, false, false, false, false, false, false, false, false, false] rfl rfl (by kernel_rfl) (fun _ _ _ h => h) (Or.inl ⟨by rfl, ?_⟩) ?_ ?_
      rotate_left
      · intro w'
        go_simp
        with_reducible rfl
      rotate_left
      · simp only [Act.put, List.setIfInBounds_toArray, List.set_cons_zero, List.set_cons_succ, i64_w, i32_w]
        rfl
      refine take_ (i := 23) (N := (some 52)) (v := ?_) (a' := ?_) #[true, true, true, true, true, true, true, true, true, true, true, true, true, true, true, true, true, true, true, true, true, true, true, true, false, false, false, false, false, false, false, false, false, false, false, false, false, false] rfl rfl (by kernel_rfl) (fun _ _ _ h => h) (Or.inl ⟨by rfl, ?_⟩) hHeld ?_ ?_
      rotate_left
      · rintro w' ⟨s0, s1, s2, s3, s4, s5, s6⟩
        go_simp
        with_reducible rfl
      rotate_left
      · simp only [Act.put, List.setIfInBounds_toArray, List.set_cons_zero, List.set_cons_succ, i64_w, i32_w]
        rfl
      refine pure_ (i := 24) (N := (some 53)) (v := ?_) (a' := ?_) #[true, true, true, true, true, true, true, true, true, true, true, true, true, true, true, true, true, true, true, true, true, true, true, true, true, false, false, false, false, false, false, false, false, false, false, false, false, false] rfl rfl (by kernel_rfl) (fun _ _ _ h => h) (Or.inl ⟨by rfl, ?_⟩) ?_ ?_
      rotate_left
      · intro w'
        go_simp
        with_reducible rfl
      rotate_left
      · simp only [Act.put, List.setIfInBounds_toArray, List.set_cons_zero, List.set_cons_succ, i64_w, i32_w]
        rfl
      refine pure_ (i := 25) (N := (some 54)) (v := ?_) (a' := ?_) #[true, true, true, true, true, true, true, true, true, true, true, true, true, true, true, true, true, true, true, true, true, true, true, true, true, true, false, false, false, false, false, false, false, false, false, false, false, false] rfl rfl (by kernel_rfl) (fun _ _ _ h => h) (Or.inl ⟨by rfl, ?_⟩) ?_ ?_
      rotate_left
      · intro w'
        go_simp
        with_reducible rfl
      rotate_left
      · simp only [Act.put, List.setIfInBounds_toArray, List.set_cons_zero, List.set_cons_succ, i64_w, i32_w]
        rfl
      refine pure_ (i := 26) (N := (some 55)) (v := ?_) (a' := ?_) #[true, true, true, true, true, true, true, true, true, true, true, true, true, true, true, true, true, true, true, true, true, true, true, true, true, true, true, false, false, false, false, false, false, false, false, false, false, false] rfl rfl (by kernel_rfl) (fun _ _ _ h => h) (Or.inl ⟨by rfl, ?_⟩) ?_ ?_
      rotate_left
      · intro w'
        go_simp
        with_reducible rfl
      rotate_left
      · simp only [Act.put, List.setIfInBounds_toArray, List.set_cons_zero, List.set_cons_succ, i64_w, i32_w]
        rfl
      refine take_ (i := 27) (N := (some 56)) (v := ?_) (a' := ?_) #[true, true, true, true, true, true, true, true, true, true, true, true, true, true, true, true, true, true, true, true, true, true, true, true, true, true, true, true, false, false, false, false, false, false, false, false, false, false] rfl rfl (by kernel_rfl) (fun _ _ _ h => h) (Or.inl ⟨by rfl, ?_⟩) hHeld ?_ ?_
      rotate_left
      · rintro w' ⟨s0, s1, s2, s3, s4, s5, s6⟩
        go_simp
        with_reducible rfl
      rotate_left
      · simp only [Act.put, List.setIfInBounds_toArray, List.set_cons_zero, List.set_cons_succ, i64_w, i32_w]
        rfl
      refine pure_ (i := 28) (N := (some 57)) (v := ?_) (a' := ?_) #[true, true, true, true, true, true, true, true, true, true, true, true, true, true, true, true, true, true, true, true, true, true, true, true, true, true, true, true, true, false, false, false, false, false, false, false, false, false] rfl rfl (by kernel_rfl) (fun _ _ _ h => h) (Or.inl ⟨by rfl, ?_⟩) ?_ ?_
      rotate_left
      · intro w'
        go_simp
        with_reducible rfl
      rotate_left
      · simp only [Act.put, List.setIfInBounds_toArray, List.set_cons_zero, List.set_cons_succ, i64_w, i32_w]
        rfl
      refine pure_ (i := 29) (N := (some 58)) (v := ?_) (a' := ?_) #[true, true, true, true, true, true, true, true, true, true, true, true, true, true, true, true, true, true, true, true, true, true, true, true, true, true, true, true, true, true, false, false, false, false, false, false, false, false] rfl rfl (by kernel_rfl) (fun _ _ _ h => h) (Or.inl ⟨by rfl, ?_⟩) ?_ ?_
      rotate_left
      · intro w'
        go_simp
        with_reducible rfl
      rotate_left
      · simp only [Act.put, List.setIfInBounds_toArray, List.set_cons_zero, List.set_cons_succ, i64_w, i32_w]
        rfl
      refine take_ (i := 30) (N := (some 59)) (v := ?_) (a' := ?_) #[true, true, true, true, true, true, true, true, true, true, true, true, true, true, true, true, true, true, true, true, true, true, true, true, true, true, true, true, true, true, true, false, false, false, false, false, false, false] rfl rfl (by kernel_rfl) (fun _ _ _ h => h) (Or.inl ⟨by rfl, ?_⟩) hHeld ?_ ?_
      rotate_left
      · rintro w' ⟨s0, s1, s2, s3, s4, s5, s6⟩
        go_simp
        with_reducible rfl
      rotate_left
      · simp only [Act.put, List.setIfInBounds_toArray, List.set_cons_zero, List.set_cons_succ, i64_w, i32_w]
        rfl
      refine pure_ (i := 31) (N := (some 60)) (v := ?_) (a' := ?_) #[true, true, true, true, true, true, true, true, true, true, true, true, true, true, true, true, true, true, true, true, true, true, true, true, true, true, true, true, true, true, true, true, false, false, false, false, false, false] rfl rfl (by kernel_rfl) (fun _ _ _ h => h) (Or.inl ⟨by rfl, ?_⟩) ?_ ?_
      rotate_left
      · intro w'
        go_simp
        with_reducible rfl
      rotate_left
      · simp only [Act.put, List.setIfInBounds_toArray, List.set_cons_zero, List.set_cons_succ, i64_w, i32_w]
        rfl
      refine take_ (i := 32) (N := (some 61)) (v := ?_) (a' := ?_) #[true, true, true, true, true, true, true, true, true, true, true, true, true, true, true, true, true, true, true, true, true, true, true, true, true, true, true, true, true, true, true, true, true, false, false, false, false, false] rfl rfl (by kernel_rfl) (fun _ _ _ h => h) (Or.inl ⟨by rfl, ?_⟩) hHeld ?_ ?_
      rotate_left
      · rintro w' ⟨s0, s1, s2, s3, s4, s5, s6⟩
        go_simp
        with_reducible rfl
      rotate_left
      · simp only [Act.put, List.setIfInBounds_toArray, List.set_cons_zero, List.set_cons_succ, i64_w, i32_w]
        rfl
      refine pure_ (i := 33) (N := (some 62)) (v := ?_) (a' := ?_) #[true, true, true, true, true, true, true, true, true, true, true, true, true, true, true, true, true, true, true, true, true, true, true, true, true, true, true, true, true, true, true, true, true, true, false, false, false, false] rfl rfl (by kernel_rfl) (fun _ _ _ h => h) (Or.inl ⟨by rfl, ?_⟩) ?_ ?_
      rotate_left
      · intro w'
        go_simp
        with_reducible rfl
      rotate_left
      · simp only [Act.put, List.setIfInBounds_toArray, List.set_cons_zero, List.set_cons_succ, i64_w, i32_w]
        rfl
      refine pure_ (i := 34) (N := (some 63)) (v := ?_) (a' := ?_) #[true, true, true, true, true, true, true, true, true, true, true, true, true, true, true, true, true, true, true, true, true, true, true, true, true, true, true, true, true, true, true, true, true, true, true, false, false, false] rfl rfl (by kernel_rfl) (fun _ _ _ h => h) (Or.inl ⟨by rfl, ?_⟩) ?_ ?_
      rotate_left
      · intro w'
        go_simp
        with_reducible rfl
      rotate_left
      · simp only [Act.put, List.setIfInBounds_toArray, List.set_cons_zero, List.set_cons_succ, i64_w, i32_w]
        rfl
      refine take_ (i := 35) (N := (some 64)) (v := ?_) (a' := ?_) #[true, true, true, true, true, true, true, true, true, true, true, true, true, true, true, true, true, true, true, true, true, true, true, true, true, true, true, true, true, true, true, true, true, true, true, true, false, false] rfl rfl (by kernel_rfl) (fun _ _ _ h => h) (Or.inl ⟨by rfl, ?_⟩) hHeld ?_ ?_
      rotate_left
      · rintro w' ⟨s0, s1, s2, s3, s4, s5, s6⟩
        go_simp
        with_reducible rfl
      rotate_left
      · simp only [Act.put, List.setIfInBounds_toArray, List.set_cons_zero, List.set_cons_succ, i64_w, i32_w]
        rfl
      refine pure_ (i := 36) (N := (some 65)) (v := ?_) (a' := ?_) #[true, true, true, true, true, true, true, true, true, true, true, true, true, true, true, true, true, true, true, true, true, true, true, true, true, true, true, true, true, true, true, true, true, true, true, true, true, false] rfl rfl (by kernel_rfl) (fun _ _ _ h => h) (Or.inl ⟨by rfl, ?_⟩) ?_ ?_
      rotate_left
      · intro w'
        go_simp
        with_reducible rfl
      rotate_left
      · simp only [Act.put, List.setIfInBounds_toArray, List.set_cons_zero, List.set_cons_succ, i64_w, i32_w]
        rfl
      refine pure_ (i := 37) (N := (some 66)) (v := ?_) (a' := ?_) #[true, true, true, true, true, true, true, true, true, true, true, true, true, true, true, true, true, true, true, true, true, true, true, true, true, true, true, true, true, true, true, true, true, true, true, true, true, true] rfl rfl (by kernel_rfl) (fun _ _ _ h => h) (Or.inl ⟨by rfl, ?_⟩) ?_ ?_
      rotate_left
      · intro w'
        go_simp
        with_reducible rfl
      rotate_left
      · simp only [Act.put, List.setIfInBounds_toArray, List.set_cons_zero, List.set_cons_succ, i64_w, i32_w]
        rfl
      refine done_ (by kernel_rfl) ?_
      obtain ⟨s0, s1, s2, s3, s4, s5, s6⟩ := hHeld
      have c2' := pw_cell_below HBW.out c2
      clear s1 s2 s3 s4 s5 s6 c0 c1 c2 b0 b1 b2 hos has
      go_wp2_with fail
      go_roundg k1
      case measure => omega
      case rel => exact ⟨i + 1, by go_num, ⟨by have := HK.out; omega⟩, ⟨HREC.out.below HBW.out⟩, ⟨below_step HB.out HBW.out⟩⟩
    · obtain rfl : i = l.length := by have := HK.out; omega
      have he := HEr.out
      rw [List.drop_length] at he
      simp only [ErrAt] at he
      subst he
      have eS := eqSent (S n.toNat)
      clear HEr HO HA
      go_wp2_with fail
      refine (root_calls S n HN.out _ (HE1.out.below HB.out)).mono ?_
      rintro e w' ⟨rfl, rfl⟩
      go_wp2_with fail
      go_ret
      exact ⟨rfl, below_then HB0.out HB0.out.size HB.out⟩
end Go.Proofs.YtefhlonipglboaaDoor

/- Errors and the documents' errors, both of them perhaps none; a box of three cells that holds a document's error. -/
namespace Go.Proofs.YtefhlonipglboaaDoor
open Go.RowKit Go.Extern.Stop Go.Stop Go.Extern Go.Proofs.YtefhlonipglboaaDoorW.PrintWords Go.Proofs.YtefhlonipglboaaDoorW.PrintLast Go.Proofs.YtefhlonipglboaaDoorW.PrintMore
set_option linter.unusedVariables false
set_option linter.unusedSimpArgs false

/-- stops a walk at an operation -/
def Hold (p : Prop) : Prop := p
theorem print_hold {p : Prop} (h : Hold p) : p := h
/-- an error's number and its frames, or none -/
abbrev Fr := Option (Int × List (ByteArray × Int))
def ErrV (S : Nat → Addr) (w : World) (v : Value) : Fr → Prop
  | none => v = .nilIface
  | some (n, l) => Num n ∧ l.length < 1000000 ∧ ErrAt S w n.toNat l v
def WantV (w : World) (v : Value) : Fr → Prop
  | none => v = .agg #[.int .i64 0, .slice none 0 0, .slice none 0 0]
  | some (n, l) => WantAt w v n l
/-- .. in blocks from b on -/
def WantF (w : World) (b : Nat) (v : Value) (o : Fr) : Prop := Foot (fun W => WantV W v o) w (fun k => b ≤ k)
theorem ErrV.below {S : Nat → Addr} {w w1 : World} {v : Value} {o : Fr} (h : ErrV S w v o) (hb : Below w.heap.size w w1) : ErrV S w1 v o := by
  cases o with
  | none => exact h
  | some p => exact ⟨h.1, h.2.1, h.2.2.below hb⟩
theorem ErrV.form {S : Nat → Addr} {w : World} {v : Value} {o : Fr} (h : ErrV S w v o) : v = .nilIface ∨ ∃ t x, v = .iface t x := by
  cases o with
  | none => exact .inl h
  | some p =>
    obtain ⟨t, x, e⟩ := h.2.2.form
    exact .inr ⟨t, x, e⟩
theorem WantF.now {w : World} {b : Nat} {v : Value} {o : Fr} (h : WantF w b v o) : WantV w v o := Foot.now h
theorem WantF.below {w w1 : World} {b : Nat} {v : Value} {o : Fr} (h : WantF w b v o) (hb : Below w.heap.size w w1) : WantF w1 b v o := Foot.step h (fun k _ hlt => hb.block k hlt)
theorem WantF.lower {w : World} {b b' : Nat} {v : Value} {o : Fr} (h : WantF w b v o) (hb : b' ≤ b) : WantF w b' v o := Foot.mono h (fun k hk => Nat.le_trans hb hk)
theorem WantF.far {w : World} {b : Nat} {v : Value} {o : Fr} (h : WantF w b v o) {p : Addr} (hp : p.block < b) (u : Value) : WantF (w.setCell p u) b v o :=
  Foot.step h (fun k hk _ => Below.heap_setCell w p u k (by omega))
theorem WantF.nil (w : World) (b : Nat) : WantF w b (.agg #[.int .i64 0, .slice none 0 0, .slice none 0 0]) none := fun _ _ => rfl
theorem WantV.form {w : World} {v : Value} {o : Fr} (h : WantV w v o) : ∃ n A1 n1 c1 A2 n2 c2, v = .agg #[.int .i64 n, .slice A1 n1 c1, .slice A2 n2 c2] ∧ (n = match o with | none => 0 | some (n, _) => n) := by
  cases o with
  | none => exact ⟨0, none, 0, 0, none, 0, 0, h, rfl⟩
  | some p =>
    obtain ⟨n, l⟩ := p
    obtain ⟨Ao, co, Aa, ca, e, _⟩ := h
    exact ⟨n, Ao, l.length, co, Aa, l.length, ca, e, rfl⟩

theorem new_F (op : ByteArray) (pos n : Int) (w : World) :
    Calls Tryd.prog 68 #[.string op, .int .i64 pos, .int .i64 n] w fun e w' => ∃ v, e = .returned v ∧ WantF w' w.heap.size v (some (n, [(op, pos)])) ∧ Below w.heap.size w w' := by
  refine (GNat.edenraw_New.calls op pos n n [op] [pos] w rfl).mono ?_
  rintro e w' ⟨v1, v2, rfl, h1, h2, hb⟩
  obtain ⟨A1, c1, rfl, k1, r1⟩ := Kd.R_reads h1
  obtain ⟨A2, c2, rfl, k2, r2⟩ := Kd.R_reads h2
  refine ⟨_, rfl, fun W' hW => ?_, hb⟩
  have r1' := Kd.R_reads' (Kd.R_step (Kd.R_mono (Kd.R_bound h1) (fun k hk => (show w.heap.size ≤ k from hk.2.1))) hW)
  have r2' := Kd.R_reads' (Kd.R_step (Kd.R_mono (Kd.R_bound h2) (fun k hk => (show w.heap.size ≤ k from hk.2.1))) hW)
  exact ⟨A1, c1, A2, c2, rfl, r1'.2.2, r2'.2.2, k1, k2⟩

set_option maxHeartbeats 1000000 in
set_option maxRecDepth 100000 in
theorem is_nil (w : World) (u v : Value) (hu : u.oneCell' = true) (hv : v.oneCell' = true) : Calls Tryd.prog 18 #[.nilIface, .agg #[.int .i64 0, u, v]] w fun e w' => e = .returned (.bool true) ∧ Below w.heap.size w w' := by
  go_enter Tryd.func18, Tryd.ntmps18
  go_wp2_with fail
  go_ret
  exact ⟨rfl, below_alloc (Below.refl _ _) _⟩
theorem both_is (S : Nat → Addr) (o : Fr) (v want : Value) (w : World) (hE : Env S w) (h : ErrV S w v o) (hw : WantV w want o) :
    Calls Tryd.prog 18 #[v, want] w fun e w' => e = .returned (.bool true) ∧ Below w.heap.size w w' := by
  cases o with
  | none =>
    have h1 : v = .nilIface := h
    have h2 : want = .agg #[.int .i64 0, .slice none 0 0, .slice none 0 0] := hw
    subst h1; subst h2
    exact is_nil w _ _ rfl rfl
  | some p => exact isf_calls S p.1 h.1 p.2 v want w hE h.2.2 hw h.2.1

theorem sc_other {w : World} {a b : Addr} {v : Value} (h : a ≠ b) : (w.setCell a v).cell? b = w.cell? b := by
  first | exact World.cell?_setCell_other _ _ _ _ h | exact World.cell?_setCell_other _ _ _ h | exact World.cell?_setCell_other h
abbrev tErr : Nat := 35
/-- a block of three cells: a document's error -/
def Box3 (w : World) (b : Nat) (x y z : Value) : Prop := w.heap[b]? = some (.cells #[x, y, z] tErr (0, 0))
theorem Box3.new (w : World) (x y z : Value) : Box3 (w.alloc (.cells #[x, y, z] tErr)) w.heap.size x y z := heap_alloc_new w _
theorem Box3.lt {w : World} {b : Nat} {x y z : Value} (h : Box3 w b x y z) : b < w.heap.size := blk_lt h
theorem Box3.below {w w1 : World} {b : Nat} {x y z : Value} (h : Box3 w b x y z) (hb : Below w.heap.size w w1) : Box3 w1 b x y z := (hb.block b h.lt).trans h
theorem Box3.far {w : World} {b : Nat} {x y z : Value} (h : Box3 w b x y z) {p : Addr} (hp : p.block ≠ b) (u : Value) : Box3 (w.setCell p u) b x y z := (Below.heap_setCell w p u b (Ne.symm hp)).trans h
theorem Box3.cells {w : World} {b : Nat} {x y z : Value} (h : Box3 w b x y z) : w.cell? ⟨b, 0, none⟩ = some x ∧ w.cell? ⟨b, 1, none⟩ = some y ∧ w.cell? ⟨b, 2, none⟩ = some z ∧ w.frozen? ⟨b, 0, none⟩ = false ∧ w.frozen? ⟨b, 1, none⟩ = false ∧ w.frozen? ⟨b, 2, none⟩ = false := by
  unfold Box3 at h
  refine ⟨?_, ?_, ?_, ?_, ?_, ?_⟩ <;> simp [World.cell?, World.frozen?, h]
/-- the world with the three cells written -/
abbrev put3 (w : World) (b : Nat) (x y z : Value) : World := ((w.setCell ⟨b, 0, none⟩ x).setCell ⟨b, 1, none⟩ y).setCell ⟨b, 2, none⟩ z
theorem Box3.put {w : World} {b : Nat} {x y z : Value} (h : Box3 w b x y z) (x' y' z' : Value) : Box3 (put3 w b x' y' z') b x' y' z' := by
  have h1 : (w.setCell ⟨b, 0, none⟩ x').heap[b]? = some (.cells #[x', y, z] tErr (0, 0)) := blk_set h 0 x'
  have h2 : ((w.setCell ⟨b, 0, none⟩ x').setCell ⟨b, 1, none⟩ y').heap[b]? = some (.cells #[x', y', z] tErr (0, 0)) := blk_set h1 1 y'
  exact blk_set h2 2 z'
theorem info_err : (Tryd.prog.info? tErr).map (·.size) = some 3 := by kernel_rfl
theorem res1 {fn : Func} {p : Tmp} {tmps : Array Value} {w : World} {b : Nat} {x y z : Value} (hB : Box3 w b x y z) (h : fn.results = #[.cell p tErr]) (hp : tmps.getD p undef = .pointer (some ⟨b, 0, none⟩)) :
    (results fn tmps).run Tryd.prog w = .ok (.agg #[x, y, z]) w :=
  results_cell_row h tmps w b tErr #[x, y, z] (0, 0) _ hp hB Tryd.underlying35 rfl info_err
theorem res2 {fn : Func} {p t : Tmp} {tmps : Array Value} {w : World} {b : Nat} {x y z : Value} (hB : Box3 w b x y z) (h : fn.results = #[.tmp t, .cell p tErr]) (hp : tmps.getD p undef = .pointer (some ⟨b, 0, none⟩)) :
    (results fn tmps).run Tryd.prog w = .ok (.tuple #[tmps.getD t undef, .agg #[x, y, z]]) w := by
  have hp' : tmps[p]?.getD undef = .pointer (some ⟨b, 0, none⟩) := by simpa using hp
  simp [results, h, hp', asAddr, run_loadVar_row w b tErr tErr #[x, y, z] (0, 0) _ hB Tryd.underlying35 rfl info_err]
theorem res3 {fn : Func} {p t t' : Tmp} {tmps : Array Value} {w : World} {b : Nat} {x y z : Value} (hB : Box3 w b x y z) (h : fn.results = #[.tmp t, .tmp t', .cell p tErr]) (hp : tmps.getD p undef = .pointer (some ⟨b, 0, none⟩)) :
    (results fn tmps).run Tryd.prog w = .ok (.tuple #[tmps.getD t undef, tmps.getD t' undef, .agg #[x, y, z]]) w := by
  have hp' : tmps[p]?.getD undef = .pointer (some ⟨b, 0, none⟩) := by simpa using hp
  simp [results, h, hp', asAddr, run_loadVar_row w b tErr tErr #[x, y, z] (0, 0) _ hB Tryd.underlying35 rfl info_err]
theorem below_put3 {w0 w : World} {b B : Nat} (h : Below B w0 w) (hb : B ≤ b) (x y z : Value) : Below B w0 (put3 w b x y z) :=
  ((h.setCell (p := ⟨b, 0, none⟩) hb _).setCell (p := ⟨b, 1, none⟩) hb _).setCell (p := ⟨b, 2, none⟩) hb _
theorem WantF.put3 {w : World} {b c : Nat} {v : Value} {o : Fr} (h : WantF w c v o) (hb : b < c) (x y z : Value) : WantF (put3 w b x y z) c v o :=
  ((h.far (p := ⟨b, 0, none⟩) hb _).far (p := ⟨b, 1, none⟩) hb _).far (p := ⟨b, 2, none⟩) hb _
end Go.Proofs.YtefhlonipglboaaDoor

/- slices.IndexFunc over whole numbers: the first place at which a predicate holds, or -1. -/
namespace Go.Proofs.YtefhlonipglboaaDoor
open Go.RowKit Go.Proofs.YtefhlonipglboaaDoorW.PrintWords Go.Proofs.YtefhlonipglboaaDoorW.PrintLast Go.Proofs.YtefhlonipglboaaDoorW.PrintMore
set_option linter.unusedVariables false
set_option linter.unusedSimpArgs false

def fstIx (p : Int → Bool) (l : List Int) : Int := match l.findIdx? p with
  | none => -1
  | some i => (i : Int)
theorem fstIx_hit {p : Int → Bool} {l : List Int} {i : Nat} (hi : i < l.length) (h : p l[i] = true) (hb : ∀ j (hj : j < l.length), j < i → p l[j] = false) : fstIx p l = (i : Int) := by
  have : l.findIdx? p = some i := by
    rw [List.findIdx?_eq_some_iff_getElem]
    exact ⟨hi, h, fun j hj => by simpa using hb j (by omega) hj⟩
  rw [fstIx, this]
theorem fstIx_none {p : Int → Bool} {l : List Int} (h : ∀ j (hj : j < l.length), p l[j] = false) : fstIx p l = -1 := by
  have : l.findIdx? p = none := by
    rw [List.findIdx?_eq_none_iff]
    intro x hx
    obtain ⟨j, hj, rfl⟩ := List.mem_iff_getElem.1 hx
    exact h j hj
  rw [fstIx, this]
theorem fstIx_cases (p : Int → Bool) (l : List Int) : (fstIx p l = -1 ∧ ∀ j (hj : j < l.length), p l[j] = false) ∨ ∃ i, ∃ hi : i < l.length, fstIx p l = (i : Int) ∧ p l[i] = true ∧ ∀ j (hj : j < l.length), j < i → p l[j] = false := by
  unfold fstIx
  cases h : l.findIdx? p with
  | none =>
    refine .inl ⟨rfl, fun j hj => ?_⟩
    rw [List.findIdx?_eq_none_iff] at h
    exact h _ (List.getElem_mem hj)
  | some i =>
    rw [List.findIdx?_eq_some_iff_getElem] at h
    obtain ⟨hi, h1, h2⟩ := h
    exact .inr ⟨i, hi, rfl, h1, fun j hj hji => by simpa using h2 j hji⟩
/-- a symbol that is none -/
def badB (k x : Int) : Bool := decide (x < 0) || decide (k ≤ x)
theorem badB_false {k x : Int} : badB k x = false ↔ 0 ≤ x ∧ x < k := by
  unfold badB; simp
theorem badB_true {k x : Int} : badB k x = true ↔ x < 0 ∨ k ≤ x := by
  unfold badB; simp
theorem rd_at {l : List Int} {i : Nat} (h : i < l.length) : rd l (i : Int) = l[i] := by
  simp [rd, h]

set_option maxHeartbeats 2000000 in
set_option maxRecDepth 100000 in
theorem idxf_calls (p : Int → Bool) (g : Nat) (lb : Array Value) (eg : ∀ args w, (callFunc g args).run Tryd.prog w = .ok (.enter g args) w) (A : Option Addr) (c : Nat) (l : List Int) (w : World) (hr : Kd.C (Kd.int .i64) w A l.length l)
    (hp : ∀ (x : Int) (W : World), Below w.heap.size w W → Calls Tryd.prog g (#[.int .i64 x] ++ lb) W fun e w' => e = .returned (.bool (p x)) ∧ W = w') :
    Calls Tryd.prog 124 #[.slice A l.length c, .func (.func g) #[] lb] w fun e w' => e = .returned (.int .i64 (fstIx p l)) ∧ Drawn0 w w' := by
  have HR := Aside0.mk hr
  have HP := Aside0.mk hp
  have hm := Kd.C_max hr
  clear hr hp
  go_enter Tryd.func124, Tryd.ntmps124
  go_wp2_with fail
  go_loopg [5, 8] l.length (fun kq _ v8 w' => ∃ i : Nat, v8 = .int .i64 i ∧ i + kq = l.length ∧ Aside0 (Drawn0 w w') ∧ Aside0 (∀ j (hj : j < l.length), j < i → p l[j] = false))
  case atStart => exact ⟨0, rfl, by omega, ⟨Drawn0.refl _⟩, ⟨fun j _ h => by omega⟩⟩
  case round =>
    obtain ⟨i, rfl, hk, HD, HA⟩ := hrel
    by_cases hlt : i < l.length
    · obtain ⟨k1, rfl⟩ : ∃ k1, gk = k1 + 1 := ⟨gk - 1, by omega⟩
      obtain ⟨ad, e, hx⟩ := Kd.at_int (Kd.C_below HR.out HD.out.below) (i : Int) (by omega) (by omega)
      subst e
      simp only [Int.toNat_natCast] at hx
      rw [rd_at hlt] at hx
      obtain ⟨x, hxe⟩ : ∃ x, l[i] = x := ⟨_, rfl⟩
      rw [hxe] at hx
      have HX := Aside0.mk hxe
      have hcall := fun W hW => HP.out x W hW
      clear hxe
      cases hq : p x with
      | true =>
        rw [hq] at hcall
        have HC := Aside0.mk hcall
        have HQ := Aside0.mk hq
        clear hcall hq
        go_wp2_with fail
        refine (HC.out _ (by first | exact (HD.out.step _).below | exact HD.out.below)).mono ?_
        rintro e w' ⟨rfl, rfl⟩
        go_wp2_with fail
        go_ret
        exact ⟨by rw [fstIx_hit hlt (by rw [HX.out]; exact HQ.out) HA.out]; rfl, by first | exact HD.out.step _ | exact HD.out⟩
      | false =>
        rw [hq] at hcall
        have HC := Aside0.mk hcall
        have HQ := Aside0.mk hq
        clear hcall hq
        go_wp2_with fail
        refine (HC.out _ (by first | exact (HD.out.step _).below | exact HD.out.below)).mono ?_
        rintro e w' ⟨rfl, rfl⟩
        go_wp2_with fail
        go_roundg k1
        case measure => omega
        case rel => exact ⟨i + 1, by go_num, by omega, ⟨by first | exact HD.out.step _ | exact HD.out⟩, ⟨fun j hj hji => by
          by_cases e : j = i
          · subst e; rw [HX.out]; exact HQ.out
          · exact HA.out j hj (by omega)⟩⟩
    · go_wp2_with fail
      go_ret
      exact ⟨by rw [fstIx_none (fun j hj => HA.out j hj (by omega))]; rfl, HD.out⟩
end Go.Proofs.YtefhlonipglboaaDoor

/- Errors told further: fault.Under, edenraw.Under, with what they hold; a fault's frames. -/
namespace Go.Proofs.YtefhlonipglboaaDoor
open Go.RowKit Go.Extern.Stop Go.Stop Go.Extern Go.Proofs.YtefhlonipglboaaDoorW.PrintWords Go.Proofs.YtefhlonipglboaaDoorW.PrintLast Go.Proofs.YtefhlonipglboaaDoorW.PrintMore
set_option linter.unusedVariables false
set_option linter.unusedSimpArgs false

/-- what a call that answers an error, or none, leaves -/
def ErrO (S : Nat → Addr) (w : World) (o : Fr) (e : Ending) (w' : World) : Prop := ∃ v, e = .returned v ∧ ErrV S w' v o ∧ Below w.heap.size w w'
/-- .. a document's error -/
def WantO (w : World) (o : Fr) (e : Ending) (w' : World) : Prop := ∃ v, e = .returned v ∧ WantF w' w.heap.size v o ∧ Below w.heap.size w w'
/-- the error, told further -/
def undF (op : ByteArray) (pos : Int) : Fr → Fr
  | none => none
  | some (n, l) => some (n, (op, pos) :: l)
/-- few frames -/
def Few (m : Nat) : Fr → Prop
  | none => True
  | some (n, l) => Num n ∧ l.length ≤ m
theorem Few.und {m : Nat} {o : Fr} (h : Few m o) (op : ByteArray) (pos : Int) : Few (m + 1) (undF op pos o) := by
  cases o with
  | none => trivial
  | some p => exact ⟨h.1, Nat.succ_le_succ h.2⟩
theorem Few.mono {m n : Nat} {o : Fr} (h : Few m o) (hn : m ≤ n) : Few n o := by
  cases o with
  | none => trivial
  | some p => exact ⟨h.1, Nat.le_trans h.2 hn⟩
theorem num_ne {n : Int} (h : Num n) : n ≠ 0 := by unfold Num at h; omega
theorem under_calls (S : Nat → Addr) (op : ByteArray) (pos : Int) (o : Fr) (ho : Few 1000 o) (v : Value) (w : World) (h : ErrV S w v o) :
    Calls Tryd.prog 137 #[.string op, .int .i64 pos, v] w (ErrO S w (undF op pos o)) := by
  cases o with
  | none =>
    have hv : v = .nilIface := h
    subst hv
    refine (funder_nil op pos w).mono ?_
    rintro e w' ⟨rfl, rfl⟩
    exact ⟨_, rfl, rfl, Below.refl _ _⟩
  | some p =>
    refine (funder_calls S op pos p.1.toNat p.2 v w h.2.2).mono ?_
    rintro e w' ⟨v', rfl, hv, hb⟩
    have ho' : p.2.length ≤ 1000 := ho.2
    exact ⟨v', rfl, ⟨h.1, by simp only [List.length_cons]; omega, hv⟩, hb⟩
set_option maxHeartbeats 1000000 in
set_option maxRecDepth 100000 in
theorem ebad_calls (n : Int) (x y : Value) (hx : x.oneCell' = true) (hy : y.oneCell' = true) (w : World) :
    Calls Tryd.prog 66 #[.agg #[.int .i64 n, x, y]] w fun e w' => e = .returned (.bool (n != 0)) ∧ Below w.heap.size w w' := by
  go_enter Tryd.func66, Tryd.ntmps66
  go_wp2_with fail
  go_ret
  exact ⟨rfl, below_alloc (Below.refl _ _) _⟩
theorem ebad_want (o : Fr) (ho : Few 1000 o) (v : Value) (w : World) (h : WantV w v o) :
    Calls Tryd.prog 66 #[v] w fun e w' => e = .returned (.bool o.isSome) ∧ Below w.heap.size w w' := by
  cases o with
  | none =>
    have hv : v = .agg #[.int .i64 0, .slice none 0 0, .slice none 0 0] := h
    subst hv
    exact ebad_calls 0 _ _ rfl rfl w
  | some p =>
    obtain ⟨A1, c1, A2, c2, rfl, _⟩ := h
    refine (ebad_calls p.1 _ _ rfl rfl w).mono ?_
    rintro e w' ⟨rfl, hb⟩
    exact ⟨by rw [show (p.1 != 0) = true from by rw [bne_iff_ne]; exact num_ne ho.1]; rfl, hb⟩
end Go.Proofs.YtefhlonipglboaaDoor

/- rule.wrong: an error told by package rule. -/
namespace Go.Proofs.YtefhlonipglboaaDoor
open Go.RowKit Go.Extern.Stop Go.Stop Go.Extern Go.Proofs.YtefhlonipglboaaDoorW.PrintWords Go.Proofs.YtefhlonipglboaaDoorW.PrintLast Go.Proofs.YtefhlonipglboaaDoorW.PrintMore
set_option linter.unusedVariables false
set_option linter.unusedSimpArgs false
abbrev ruleS : ByteArray := ⟨#[114, 117, 108, 101]⟩
set_option maxHeartbeats 1000000 in
set_option maxRecDepth 100000 in
theorem wrongRule_calls (S : Nat → Addr) (pos n : Int) (hn : Num n) (w : World) (h : Env S w) :
    Calls Tryd.prog 80 #[.int .i64 pos, .int .i64 n] w (ErrO S w (some (n, [(ruleS, pos)]))) := by
  have H := Aside0.mk h
  have HN := Aside0.mk hn
  clear h hn
  go_enter Tryd.func80, Tryd.ntmps80
  go_wp2_with fail
  refine (fnew_calls S _ pos n HN.out _ H.out).mono ?_
  rintro e w1 ⟨v, rfl, hv, hb⟩
  have HV := Aside0.mk hv
  have HB := Aside0.mk hb
  clear hv hb
  go_wp2_with fail
  go_ret
  exact ⟨v, rfl, ⟨HN.out, by simp, HV.out⟩, HB.out⟩
end Go.Proofs.YtefhlonipglboaaDoor

/- rule.Size, rule.Check, rule.Small: what is a rule. -/
namespace Go.Proofs.YtefhlonipglboaaDoor
open Go.RowKit Go.Extern.Stop Go.Stop Go.Extern Go.Proofs.YtefhlonipglboaaDoorW.PrintWords Go.Proofs.YtefhlonipglboaaDoorW.PrintLast Go.Proofs.YtefhlonipglboaaDoorW.PrintMore
set_option linter.unusedVariables false
set_option linter.unusedSimpArgs false

abbrev tRule : Nat := 24
theorem kpow {k : Int} {n : Nat} (hk0 : 1 ≤ k) (hk : k ≤ 4) (hn : n ≤ 7) : 1 ≤ k ^ n ∧ k ^ n ≤ 16384 := by
  have h1 : k = 1 ∨ k = 2 ∨ k = 3 ∨ k = 4 := by omega
  have h2 : n = 0 ∨ n = 1 ∨ n = 2 ∨ n = 3 ∨ n = 4 ∨ n = 5 ∨ n = 6 ∨ n = 7 := by omega
  rcases h1 with rfl | rfl | rfl | rfl <;> rcases h2 with rfl | rfl | rfl | rfl | rfl | rfl | rfl | rfl <;> decide
/-- k and r are a rule's -/
def KR (k r : Int) : Prop := 1 ≤ k ∧ k ≤ 4 ∧ 0 ≤ r ∧ r ≤ 3
instance (k r : Int) : Decidable (KR k r) := by unfold KR; infer_instance
/-- how many windows there are -/
def nwin (k r : Int) : Int := k ^ (2 * r + 1).toNat
/-- how many nodes there are -/
def nnod (k r : Int) : Int := k ^ (2 * r).toNat
theorem KR.win {k r : Int} (h : KR k r) : 1 ≤ nwin k r ∧ nwin k r ≤ 16384 := by
  obtain ⟨h1, h2, h3, h4⟩ := h
  exact kpow h1 h2 (by omega)
theorem KR.nod {k r : Int} (h : KR k r) : 1 ≤ nnod k r ∧ nnod k r ≤ 4096 ∧ nwin k r = nnod k r * k := by
  obtain ⟨h1, h2, h3, h4⟩ := h
  have e : (2 * r + 1).toNat = (2 * r).toNat + 1 := by omega
  have h5 : r = 0 ∨ r = 1 ∨ r = 2 ∨ r = 3 := by omega
  have h6 : k = 1 ∨ k = 2 ∨ k = 3 ∨ k = 4 := by omega
  unfold nnod nwin
  rcases h5 with rfl | rfl | rfl | rfl <;> rcases h6 with rfl | rfl | rfl | rfl <;> decide
/-- what rule.Check says -/
def chkR (k r : Int) (t : List Int) : Fr :=
  if k < 1 ∨ 4 < k then some (1, [(ruleS, 0)]) else
  if r < 0 ∨ 3 < r then some (1, [(ruleS, 1)]) else
  if (t.length : Int) ≠ nwin k r then some (1, [(ruleS, 2)]) else
  if 0 ≤ fstIx (badB k) t then some (1, [(ruleS, 3 + fstIx (badB k) t)]) else none
/-- what rule.Small says -/
def smallR (k r : Int) (t : List Int) : Fr := match chkR k r t with
  | some e => some e
  | none => if 256 < t.length then some (4, [(ruleS, 0)]) else none
theorem chkR_few (k r : Int) (t : List Int) : Few 1 (chkR k r t) := by
  unfold chkR
  split
  · exact ⟨by unfold Num; omega, Nat.le_refl _⟩
  · split
    · exact ⟨by unfold Num; omega, Nat.le_refl _⟩
    · split
      · exact ⟨by unfold Num; omega, Nat.le_refl _⟩
      · split
        · exact ⟨by unfold Num; omega, Nat.le_refl _⟩
        · trivial
theorem smallR_few (k r : Int) (t : List Int) : Few 1 (smallR k r t) := by
  have h := chkR_few k r t
  unfold smallR
  cases hc : chkR k r t with
  | some e => rw [hc] at h; exact h
  | none =>
    show Few 1 (if 256 < t.length then some (4, [(ruleS, 0)]) else none)
    split
    · exact ⟨by unfold Num; omega, Nat.le_refl _⟩
    · trivial
theorem chkR_ok {k r : Int} {t : List Int} (h : chkR k r t = none) : KR k r ∧ (t.length : Int) = nwin k r ∧ ∀ j (hj : j < t.length), 0 ≤ t[j] ∧ t[j] < k := by
  unfold chkR at h
  by_cases h1 : k < 1 ∨ 4 < k
  · rw [if_pos h1] at h; cases h
  rw [if_neg h1] at h
  by_cases h2 : r < 0 ∨ 3 < r
  · rw [if_pos h2] at h; cases h
  rw [if_neg h2] at h
  by_cases h3 : (t.length : Int) ≠ nwin k r
  · rw [if_pos h3] at h; cases h
  rw [if_neg h3] at h
  by_cases h4 : 0 ≤ fstIx (badB k) t
  · rw [if_pos h4] at h; cases h
  refine ⟨by unfold KR; omega, by omega, fun j hj => ?_⟩
  rcases fstIx_cases (badB k) t with ⟨_, h5⟩ | ⟨i, hi, h5, _⟩
  · exact badB_false.1 (h5 j hj)
  · omega
theorem smallR_ok {k r : Int} {t : List Int} (h : smallR k r t = none) : chkR k r t = none ∧ t.length ≤ 256 := by
  unfold smallR at h
  cases hc : chkR k r t with
  | some e => rw [hc] at h; cases h
  | none =>
    rw [hc] at h
    refine ⟨rfl, ?_⟩
    by_cases h5 : 256 < t.length
    · simp [h5] at h
    · omega

/-- a block of three cells: a rule -/
def BoxR (w : World) (b : Nat) (k r : Int) (s : Value) : Prop := w.heap[b]? = some (.cells #[.int .i64 k, .int .i64 r, s] tRule (0, 0))
theorem BoxR.new (w : World) (k r : Int) (s : Value) : BoxR (w.alloc (.cells #[.int .i64 k, .int .i64 r, s] tRule)) w.heap.size k r s := heap_alloc_new w _
theorem BoxR.below {w w1 : World} {b : Nat} {k r : Int} {s : Value} (h : BoxR w b k r s) (hb : Below w.heap.size w w1) : BoxR w1 b k r s := (hb.block b (blk_lt h)).trans h
theorem BoxR.cells {w : World} {b : Nat} {k r : Int} {s : Value} (h : BoxR w b k r s) : w.cell? ⟨b, 0, none⟩ = some (.int .i64 k) ∧ w.cell? ⟨b, 1, none⟩ = some (.int .i64 r) ∧ w.cell? ⟨b, 2, none⟩ = some s := by
  unfold BoxR at h
  refine ⟨?_, ?_, ?_⟩ <;> simp [World.cell?, h]
theorem BoxR.put3 {w : World} {b g : Nat} {k r : Int} {s : Value} (h : BoxR w b k r s) (hne : g ≠ b) (x y z : Value) : BoxR (put3 w g x y z) b k r s := by
  unfold BoxR at h ⊢
  rw [← h]
  show (((w.setCell ⟨g, 0, none⟩ x).setCell ⟨g, 1, none⟩ y).setCell ⟨g, 2, none⟩ z).heap[b]? = w.heap[b]?
  rw [Below.heap_setCell _ _ _ b (Ne.symm hne), Below.heap_setCell _ _ _ b (Ne.symm hne), Below.heap_setCell _ _ _ b (Ne.symm hne)]

/-- what rule.Size leaves -/
def SizeRes (S : Nat → Addr) (k r : Int) (w : World) (e : Ending) (w' : World) : Prop :=
  ∃ n u, e = .returned (.tuple #[.int .i64 n, u]) ∧ ErrV S w' u (if KR k r then none else some (3, [(ruleS, 0)])) ∧ n = (if KR k r then nwin k r else 0) ∧ Below w.heap.size w w'
set_option maxHeartbeats 4000000 in
set_option maxRecDepth 100000 in
theorem size_bad (S : Nat → Addr) (k r : Int) (w : World) (hE : Env S w) (h : ¬ KR k r) :
    Calls Tryd.prog 32 #[.int .i64 k, .int .i64 r] w (SizeRes S k r w) := by
  have h' : k < 1 ∨ 4 < k ∨ r < 0 ∨ 3 < r := by unfold KR at h; omega
  unfold SizeRes
  rw [if_neg h, if_neg h]
  have HE := Aside0.mk hE
  clear hE
  clear h
  by_cases h1 : k < 1
  · have d1 : decide (k < 1) = true := decide_eq_true h1
    clear h'
    go_enter Tryd.func32, Tryd.ntmps32
    go_wp2_with fail
    refine (wrongRule_calls S 0 3 (by unfold Num; omega) w (HE.out)).mono ?_
    rintro e w1 ⟨v, rfl, hv, hb⟩
    have HB1 := Aside0.mk (hb)
    have HV := Aside0.mk hv
    clear hb hv
    go_wp2_with fail
    go_ret2
    exact ⟨_, _, rfl, (HV.out), rfl, (HB1.out)⟩
  · have d1 : decide (k < 1) = false := decide_eq_false h1
    by_cases h2 : 4 < k
    · have d2 : decide (4 < k) = true := decide_eq_true h2
      clear h'
      go_enter Tryd.func32, Tryd.ntmps32
      go_wp2_with fail
      refine (wrongRule_calls S 0 3 (by unfold Num; omega) w (HE.out)).mono ?_
      rintro e w1 ⟨v, rfl, hv, hb⟩
      have HB1 := Aside0.mk (hb)
      have HV := Aside0.mk hv
      clear hb hv
      go_wp2_with fail
      go_ret2
      exact ⟨_, _, rfl, (HV.out), rfl, (HB1.out)⟩
    · have d2 : decide (4 < k) = false := decide_eq_false h2
      by_cases h3 : r < 0
      · have d3 : decide (r < 0) = true := decide_eq_true h3
        clear h'
        go_enter Tryd.func32, Tryd.ntmps32
        go_wp2_with fail
        refine (wrongRule_calls S 0 3 (by unfold Num; omega) w (HE.out)).mono ?_
        rintro e w1 ⟨v, rfl, hv, hb⟩
        have HB1 := Aside0.mk (hb)
        have HV := Aside0.mk hv
        clear hb hv
        go_wp2_with fail
        go_ret2
        exact ⟨_, _, rfl, (HV.out), rfl, (HB1.out)⟩
      · have d3 : decide (r < 0) = false := decide_eq_false h3
        have d4 : decide (3 < r) = true := decide_eq_true (by omega)
        clear h'
        go_enter Tryd.func32, Tryd.ntmps32
        go_wp2_with fail
        refine (wrongRule_calls S 0 3 (by unfold Num; omega) w (HE.out)).mono ?_
        rintro e w1 ⟨v, rfl, hv, hb⟩
        have HB1 := Aside0.mk (hb)
        have HV := Aside0.mk hv
        clear hb hv
        go_wp2_with fail
        go_ret2
        exact ⟨_, _, rfl, (HV.out), rfl, (HB1.out)⟩
set_option maxHeartbeats 4000000 in
set_option maxRecDepth 100000 in
theorem size_ok (k r : Int) (w : World) (h : KR k r) :
    Calls Tryd.prog 32 #[.int .i64 k, .int .i64 r] w fun e w' => e = .returned (.tuple #[.int .i64 (nwin k r), .nilIface]) ∧ w = w' := by
  obtain ⟨k1, k2, r1, r2⟩ := h
  have d1 : decide (k < 1) = false := decide_eq_false (by omega)
  have d2 : decide (4 < k) = false := decide_eq_false (by omega)
  have d3 : decide (r < 0) = false := decide_eq_false (by omega)
  have d4 : decide (3 < r) = false := decide_eq_false (by omega)
  obtain ⟨m, hm⟩ : ∃ m : Nat, (2 * r).toNat = m := ⟨_, rfl⟩
  have hm2 : 2 * r = (m : Int) := by omega
  have hm6 : m ≤ 6 := by omega
  have HN : Aside0 (nwin k r = k ^ (m + 1)) := ⟨by unfold nwin; rw [show (2 * r + 1).toNat = m + 1 by omega]⟩
  have hr : IntKind.i64.wrap (2 * r) = (m : Int) := by rw [← hm2]; exact IntWalk.i64_in _ (by omega)
  clear hm hm2
  go_enter Tryd.func32, Tryd.ntmps32
  go_wp2_with fail
  go_loop [25, 6] (fun v25 v6 => ∃ i : Nat, v25 = .int .i64 i ∧ i ≤ m ∧ v6 = .int .i64 (k ^ (i + 1))) (fun v25 _ => m - (intOf v25).toNat)
  case atStart => exact ⟨0, rfl, Nat.zero_le _, by simp [Int.pow_succ]⟩
  case round =>
    obtain ⟨i, rfl, hi, rfl⟩ := hrel
    by_cases hlt : i < m
    · have hp := kpow (n := i + 1) k1 k2 (by omega)
      have hq := kpow (n := i + 1 + 1) k1 k2 (by omega)
      obtain ⟨x, hx⟩ : ∃ x, k ^ (i + 1) = x := ⟨_, rfl⟩
      have hs : k ^ (i + 1 + 1) = x * k := by rw [Int.pow_succ, hx]
      rw [hs] at hq
      rw [hx] at hp ⊢
      have hw : IntKind.i64.wrap (x * k) = x * k := IntWalk.i64_in _ (by omega)
      have HS := Aside0.mk hs
      clear hs hx hr
      go_wp2_with fail
      go_round
      case rel => exact ⟨i + 1, by go_num, by omega, by rw [HS.out]⟩
      case measure => simp [intOf]; omega
    · obtain rfl : i = m := by omega
      clear hr
      go_wp2_with fail
      go_ret2
      exact ⟨by rw [HN.out]; first | done | rfl, rfl⟩
theorem size_calls (S : Nat → Addr) (k r : Int) (w : World) (hE : Env S w) : Calls Tryd.prog 32 #[.int .i64 k, .int .i64 r] w (SizeRes S k r w) := by
  by_cases h : KR k r
  · refine (size_ok k r w h).mono ?_
    rintro e w' ⟨rfl, rfl⟩
    refine ⟨_, _, rfl, ?_, ?_, Below.refl _ _⟩
    · rw [if_pos h]; rfl
    · rw [if_pos h]
  · exact size_bad S k r w hE h

set_option maxHeartbeats 1000000 in
set_option maxRecDepth 100000 in
theorem oddp_calls (k x : Int) (b : Nat) (w : World) (hc : w.cell? ⟨b, 0, none⟩ = some (.int .i64 k)) :
    Calls Tryd.prog 138 (#[.int .i64 x] ++ #[.pointer (some ⟨b, 0, none⟩)]) w fun e w' => e = .returned (.bool (badB k x)) ∧ w = w' := by
  show Calls Tryd.prog 138 #[.int .i64 x, .pointer (some ⟨b, 0, none⟩)] w _
  by_cases h : x < 0
  · have HB := Aside0.mk (badB_true.2 (Or.inl h : x < 0 ∨ k ≤ x))
    have d1 : decide (x < 0) = true := decide_eq_true h
    go_enter Tryd.func138, Tryd.ntmps138
    go_wp2_with fail
    go_ret
    exact ⟨by rw [HB.out]; first | done | rfl, rfl⟩
  · have d1 : decide (x < 0) = false := decide_eq_false h
    by_cases h2 : k ≤ x
    · have HB := Aside0.mk (badB_true.2 (Or.inr h2 : x < 0 ∨ k ≤ x))
      have d2 : decide (k ≤ x) = true := decide_eq_true h2
      go_enter Tryd.func138, Tryd.ntmps138
      go_wp2_with fail
      go_ret
      exact ⟨by rw [HB.out]; first | done | rfl, rfl⟩
    · have HB := Aside0.mk (badB_false.2 (⟨by omega, by omega⟩ : 0 ≤ x ∧ x < k))
      have d2 : decide (k ≤ x) = false := decide_eq_false h2
      go_enter Tryd.func138, Tryd.ntmps138
      go_wp2_with fail
      go_ret
      exact ⟨by rw [HB.out]; first | done | rfl, rfl⟩
set_option maxHeartbeats 2000000 in
set_option maxRecDepth 100000 in
theorem odd_calls (k : Int) (A : Option Addr) (c : Nat) (t : List Int) (w : World) (hr : Kd.C (Kd.int .i64) w A t.length t) :
    Calls Tryd.prog 81 #[.int .i64 k, .slice A t.length c] w fun e w' => e = .returned (.int .i64 (fstIx (badB k) t)) ∧ Below w.heap.size w w' := by
  have eg : ∀ args w, (callFunc 138 args).run Tryd.prog w = .ok (.enter 138 args) w := fun args w => enters_ Tryd.func138 (by kernel_rfl) rfl args w
  have hcon := idxf_calls (badB k) 138 #[.pointer (some ⟨w.heap.size, 0, none⟩)] eg A c t (w.alloc (.cells #[.int .i64 k] 3)) (Kd.C_alloc hr _) (fun x W hW => oddp_calls k x w.heap.size W (pw_cell_below hW (by simp)))
  have HC := Aside0.mk hcon
  obtain ⟨x, hx⟩ : ∃ x, fstIx (badB k) t = x := ⟨_, rfl⟩
  rw [hx] at HC ⊢
  clear hr eg hcon hx
  go_enter Tryd.func81, Tryd.ntmps81
  go_wp2_with fail
  refine HC.out.mono ?_
  rintro e w1 ⟨rfl, hd⟩
  have HB := Aside0.mk (below_step (below_alloc (Below.refl w.heap.size w) (.cells #[.int .i64 k] 3)) hd.below)
  clear hd
  go_wp2_with fail
  go_ret
  exact ⟨rfl, HB.out⟩
end Go.Proofs.YtefhlonipglboaaDoor

/- Arguments opened: a rule, a list of whole numbers; with the reach. -/
namespace Go.Proofs.YtefhlonipglboaaDoor
open Go.Joins Go.RowKit Go.WideShapes Go.ChangeShapes Go.ChangeAt Go.Extern.Stop Go.Proofs.YtefhlonipglboaaDoorW.PrintWords Go.Proofs.YtefhlonipglboaaDoorW.PrintLast Go.Proofs.YtefhlonipglboaaDoorW.PrintMore Go.Stop Go.Extern
set_option linter.unusedVariables false

set_option maxRecDepth 100000 in
theorem w_at {H : Type} {P : Program} {p : Nat → Bool} : ∀ {ts : List TypeId} {ds : List (DataW H)}, (DataW.weightsEach P ts ds).all p = true → ∀ (j : Nat) {t : TypeId} {d : DataW H}, ts[j]? = some t → ds[j]? = some d → (d.weights P t).all p = true
  | [], _, _, j, _, _, ht, _ => by simp at ht
  | _ :: _, [], _, j, _, _, _, hd => by simp at hd
  | t :: ts, d :: ds, h, j, t', d', ht, hd => by
    unfold DataW.weightsEach at h
    rw [List.all_append, Bool.and_eq_true] at h
    cases j with
    | zero =>
      simp at ht hd
      subst ht; subst hd
      exact h.1
    | succ j => exact w_at h.2 j (by simpa using ht) (by simpa using hd)
set_option maxRecDepth 100000 in
theorem C_of_cells {W : World} {ad : Addr} {n : Nat} {zs : List Int} (hn : n ≤ zs.length) (hmax : n ≤ 9223372036854775807) (hcell : ∀ i, i < zs.length → W.cell? (ad.add i) = some (.int .i64 (zs.getD i 0))) : Kd.C (Kd.int .i64) W (some ad) (zs.take n).length (zs.take n) := by
  have hlen : (zs.take n).length = n := by rw [List.length_take]; omega
  refine Kd.C_of_reads (d := 0) ⟨rfl, by rw [hlen]; exact hmax, fun _ => ⟨ad, rfl, fun j hj => ?_⟩⟩
  rw [hlen] at hj
  rw [hcell j (by omega)]
  simp [List.getD_eq_getElem?_getD, hj]
theorem bytes_int : Tryd.prog.bytesOf 3 = 8 := by kernel_rfl
theorem cells3 : Tryd.prog.cellsOf 3 = 1 := by kernel_rfl
set_option maxRecDepth 100000 in
theorem open_cells {H : Type} {enc : TypeId × Value → H} {W : World} {fuel : Nat} {cs : List Value} {x : DataW H × List MemPlace} (h : DataW.trod enc Tryd.prog W 0 (fun _ => true) true fuel 22 cs = some x) (hw : (x.1.weights Tryd.prog 22).all (· ≤ reachBytes) = true) :
    ∃ A c l, cs = [.slice A l.length c] ∧ l.length ≤ c ∧ l.length + 2 ≤ 17592186044416 ∧ Kd.C (Kd.int .i64) W A l.length l := by
  rcases open_ints Tryd.underlying22 Tryd.underlying3 cells3 h with ⟨rfl, _⟩ | ⟨a, len, cap, zs, rfl, _, hl, hm, hz, rfl, hcell, hwf⟩
  · exact ⟨none, 0, [], rfl, Nat.le_refl _, by decide, Kd.C_nil _ _⟩
  · simp only [if_true] at hz
    unfold DataW.weights at hw
    rw [Tryd.underlying22] at hw
    simp only [List.all_cons, Bool.and_eq_true, decide_eq_true_eq] at hw
    have hcap := hw.1
    rw [bytes_int] at hcap
    unfold reachBytes at hcap
    simp only [lits, List.length_map, List.length_take, List.length_drop] at hcap
    have hlen : (zs.take len).length = len := by rw [List.length_take]; omega
    exact ⟨some a, cap, zs.take len, by rw [hlen], by rw [hlen]; exact hl, by rw [hlen]; omega, C_of_cells (by omega) (by omega) hcell⟩
set_option maxRecDepth 100000 in
theorem open_intl {H : Type} {enc : TypeId × Value → H} {W : World} {base : Nat} {v : Value} {d : DataW H} {p : List MemPlace} (hv : Value.okWide Tryd.prog W .any base 22 v) (h : DataW.Trod enc Tryd.prog W 0 (fun _ => true) true 22 v d p) (hw : (d.weights Tryd.prog 22).all (· ≤ reachBytes) = true) :
    ∃ A c l, v = .slice A l.length c ∧ l.length ≤ c ∧ l.length + 2 ≤ 17592186044416 ∧ Kd.C (Kd.int .i64) W A l.length l := by
  obtain ⟨fuel, hf⟩ := h
  obtain ⟨A0, n0, c0, rfl⟩ := okWide_slice Tryd.underlying22 hv
  obtain ⟨A, c, l, e, h1, h2, h3⟩ := open_cells hf hw
  simp [Value.cells] at e
  obtain ⟨rfl, rfl, rfl⟩ := e
  exact ⟨A0, c0, l, rfl, h1, h2, h3⟩
set_option maxRecDepth 100000 in
theorem open_rule {H : Type} {enc : TypeId × Value → H} {W : World} {base : Nat} {v : Value} {d : DataW H} {p : List MemPlace} (hv : Value.okWide Tryd.prog W .any base 24 v) (h : DataW.Trod enc Tryd.prog W 0 (fun _ => true) true 24 v d p) (hw : (d.weights Tryd.prog 24).all (· ≤ reachBytes) = true) :
    ∃ k r A c t, v = .agg #[.int .i64 k, .int .i64 r, .slice A t.length c] ∧ t.length ≤ c ∧ t.length + 2 ≤ 17592186044416 ∧ Kd.C (Kd.int .i64) W A t.length t ∧ (-9223372036854775808 ≤ k ∧ k ≤ 9223372036854775807) ∧ (-9223372036854775808 ≤ r ∧ r ≤ 9223372036854775807) := by
  obtain ⟨c0, c1, c2, y0, y1, y2, m, rfl, rfl, rfl, hy0, hy1, hy2⟩ := open_agg3 Tryd.underlying24 (by kernel_rfl) (by kernel_rfl) hv h
  obtain ⟨k, e0, rfl, w0⟩ := DataW.trod_int Tryd.underlying3 hy0
  obtain ⟨r, e1, rfl, w1⟩ := DataW.trod_int Tryd.underlying3 hy1
  have hw2 : (y2.1.weights Tryd.prog 22).all (· ≤ reachBytes) = true := by
    unfold DataW.weights at hw
    rw [Tryd.underlying24] at hw
    exact w_at hw 2 rfl rfl
  obtain ⟨A, c, t, e2, h1, h2, h3⟩ := open_cells hy2 hw2
  simp at e0 e1 e2
  subst e0 e1 e2
  exact ⟨k, r, A, c, t, rfl, h1, h2, h3, i64_wf w0, i64_wf w1⟩
end Go.Proofs.YtefhlonipglboaaDoor

/- edenraw's lent lists: in memory of their own, two marks behind; and whether such a list is as it was. -/
namespace Go.Proofs.YtefhlonipglboaaDoor
open Go.RowKit Go.Proofs.YtefhlonipglboaaDoorW.PrintWords Go.Proofs.YtefhlonipglboaaDoorW.PrintLast Go.Proofs.YtefhlonipglboaaDoorW.PrintMore
set_option linter.unusedVariables false
set_option linter.unusedSimpArgs false
theorem info_i64 : (Tryd.prog.info? 3).map (fun i => (i.zero, i.size, i.bytes)) = some (some (.int .i64 0), 1, 8) := by kernel_rfl

/-- what eden/edenraw.Lent leaves: the list in a row of its own, two marks behind it -/
def LentIAt (w : World) (b : Nat) (v : Value) (l : List Int) : Prop := ∃ g c, v = .slice (some ⟨g, 0, none⟩) l.length c ∧ l.length + 2 ≤ c ∧ b ≤ g ∧ Kd.F (Kd.int .i64) w (fun k => k = g) (some ⟨g, 0, none⟩) (l ++ [7001, 7002]).length (l ++ [7001, 7002])
theorem LentIAt.below {w w1 : World} {b : Nat} {v : Value} {l : List Int} (h : LentIAt w b v l) (hb : Below w.heap.size w w1) : LentIAt w1 b v l := by
  obtain ⟨g, c, h1, h2, h3, h4⟩ := h
  exact ⟨g, c, h1, h2, h3, Kd.F_below h4 hb⟩
theorem LentIAt.rd {w : World} {b : Nat} {v : Value} {l : List Int} (h : LentIAt w b v l) : ∃ A c, v = .slice A l.length c ∧ l.length ≤ c ∧ Kd.C (Kd.int .i64) w A l.length l := by
  obtain ⟨g, c, h1, h2, h3, h4⟩ := h
  have h5 := Kd.F_take h4 (m := l.length) (by simp)
  rw [List.take_left' rfl] at h5
  exact ⟨_, c, h1, by omega, Kd.F_now h5⟩
theorem LentIAt.put3 {w : World} {b g : Nat} {v : Value} {l : List Int} (h : LentIAt w b v l) (hg : g < b) (x y z : Value) : LentIAt (put3 w g x y z) b v l := by
  obtain ⟨G, c, h1, h2, h3, h4⟩ := h
  exact ⟨G, c, h1, h2, h3, Kd.F_far (Kd.F_far (Kd.F_far h4 (p := ⟨g, 0, none⟩) (fun k (hk : k = G) => by show k ≠ g; omega) x) (p := ⟨g, 1, none⟩) (fun k (hk : k = G) => by show k ≠ g; omega) y) (p := ⟨g, 2, none⟩) (fun k (hk : k = G) => by show k ≠ g; omega) z⟩
theorem LentIAt.lower {w : World} {b b' : Nat} {v : Value} {l : List Int} (h : LentIAt w b v l) (hb : b' ≤ b) : LentIAt w b' v l := by
  obtain ⟨G, c, h1, h2, h3, h4⟩ := h
  exact ⟨G, c, h1, h2, by omega, h4⟩
theorem LentIAt.full {w : World} {b : Nat} {v : Value} {l : List Int} (h : LentIAt w b v l) : ∃ g c, v = .slice (some ⟨g, 0, none⟩) l.length c ∧ l.length + 2 ≤ c ∧ Kd.C (Kd.int .i64) w (some ⟨g, 0, none⟩) l.length l ∧ Kd.C (Kd.int .i64) w (some ⟨g, 0, none⟩) (l.length + 2) (l ++ [7001, 7002]) := by
  obtain ⟨g, c, h1, h2, h3, h4⟩ := h
  have h5 := Kd.F_take h4 (m := l.length) (by simp)
  rw [List.take_left' rfl] at h5
  have h6 := Kd.F_now h4
  rw [show (l ++ [(7001 : Int), 7002]).length = l.length + 2 by simp] at h6
  exact ⟨g, c, h1, h2, Kd.F_now h5, h6⟩
set_option maxHeartbeats 4000000 in
set_option maxRecDepth 100000 in
theorem LentI_calls (A : Option Addr) (c : Nat) (l : List Int) (w : World) (hr : Kd.C (Kd.int .i64) w A l.length l) (hm : l.length + 2 ≤ 17592186044416) :
    Calls Tryd.prog 14 #[.slice A l.length c] w fun e w' => ∃ v, e = .returned v ∧ LentIAt w' w.heap.size v l ∧ Below w.heap.size w w' := by
  have HR := Aside0.mk hr
  have HM := Aside0.mk hm
  have hl := Kd.C_max hr
  obtain ⟨n1, hn1⟩ : ∃ n1 : Int, IntKind.i64.wrap ((l.length : Int) + 2) = n1 := ⟨_, rfl⟩
  have hn1' : n1 = (l.length : Int) + 2 := by rw [← hn1]; exact IntWalk.i64_in _ (by omega)
  have HN1 := Aside0.mk hn1'
  have p0 : 0 ≤ n1 := by omega
  have P0 := Aside0.mk p0
  have HB := Aside0.mk (Below.refl w.heap.size w)
  clear hr hm hn1' p0
  go_enter Tryd.func14, Tryd.ntmps14
  go_wp2_with (first | ((with_reducible refine gate_dst (N := 7) rfl ?_); refine Kd.R_make (Kd.int .i64) _ 3 rfl (N := 7) rfl 22 _ _ rfl n1 rfl rfl Tryd.underlying22 (.int .i64 0) 8 info_i64 rfl (by decide) (by omega) 0 (ok := fun k => w.heap.size ≤ k) (okp := fun _ => False) rfl (fun _ hk => hk.elim) (Nat.le_refl _) P0.out (by have := HM.out; have := HN1.out; omega) HB.out (Nat.le_refl _) ?_; intro vo w1 ho hb hg_ hnew_; have HO := Aside0.mk ho; clear HB; have HB := Aside0.mk hb; clear ho hb hg_ hnew_; obtain ⟨n2, hn2⟩ : ∃ n2 : Nat, n2 = n1.toNat := ⟨_, rfl⟩; have hn2' : n2 = l.length + 2 := (by have := HN1.out; omega); rw [← hn2] at HO; clear hn2; subst hn2'; obtain ⟨g, co, eo, gb, gl, cl, HG⟩ := Kd.R_form HO.out (by simp); rw [List.length_replicate] at eo; subst eo; have GB := Aside0.mk gb; clear gb gl cl HG hn1) | ((with_reducible refine gate_dst (N := 10) rfl ?_); refine Kd.R_copy 0 _ rfl _ _ 22 22 3 rfl Tryd.underlying22 rfl _ (List.replicate (l.length + 2) 0) l A l.length c (fun k => w.heap.size ≤ k) rfl rfl HO.out (Kd.C_below HR.out HB.out) HB.out HB.out.size ?_; intro w2 ho2 hb2 hg2; have hco : l.length + 2 ≤ co := (by have := (Kd.R_reads' HO.out).2.1; simpa using this); rw [List.length_replicate, Nat.min_eq_left (by omega), List.take_length, show List.drop l.length (List.replicate (l.length + 2) (0 : Int)) = [0, 0] from by rw [List.drop_replicate, Nat.add_sub_cancel_left]; rfl] at ho2; have HO2 := Aside0.mk ho2; have HB2 := Aside0.mk hb2; have hm47 : l.length + 2 ≤ 17592186044416 := HM.out; obtain ⟨hc0, hf0⟩ := Kd.R_celln 0 ho2 (l.length : Int) (by omega) (by omega); obtain ⟨hc1, hf1⟩ := Kd.R_celln 0 ho2 ((l.length : Int) + 1) (by omega) (by omega); rw [Int.toNat_natCast] at hc0 hf0; rw [show ((l.length : Int) + 1).toNat = l.length + 1 by omega] at hc1 hf1; clear ho2 hb2 hg2))
  go_ret
  have h2 : Kd.R (Kd.int .i64) 3 w2 w.heap.size (fun k => w.heap.size ≤ k) (.slice (some ⟨g, 0, none⟩) (l.length + 2) co) (l ++ [0, 0]) := HO2.out
  have h3 := (Kd.R_putg h2 (l.length : Int) 7001).1
  rw [Int.toNat_natCast, show (l ++ [(0 : Int), 0]).set l.length 7001 = l ++ [7001, 0] by rw [List.set_append_right _ _ (Nat.le_refl _), Nat.sub_self]; rfl] at h3
  have h4 := (Kd.R_putg h3 ((l.length : Int) + 1) 7002).1
  rw [show ((l.length : Int) + 1).toNat = l.length + 1 by omega, show (l ++ [(7001 : Int), 0]).set (l.length + 1) 7002 = l ++ [7001, 7002] by rw [List.set_append_right _ _ (by omega), Nat.add_sub_cancel_left]; rfl] at h4
  refine ⟨_, rfl, ⟨g, co, rfl, hco, GB.out, ?_⟩, (HB2.out.setCell (p := ⟨g, l.length, none⟩) GB.out _).setCell (p := ⟨g, l.length + 1, none⟩) GB.out _⟩
  have h5 := Kd.R_F (Kd.R_tight rfl h4)
  rw [show (l ++ [(7001 : Int), 7002]).length = l.length + 2 by simp]
  exact Kd.F_mono h5 (fun k hk => by have : k = g := (by simpa [Value.ownBlock] using hk); exact this)
end Go.Proofs.YtefhlonipglboaaDoor

/- edenraw.Ints at equal lists; Kept; a rule lent, and kept. -/
namespace Go.Proofs.YtefhlonipglboaaDoor
open Go.RowKit Go.Extern.Stop Go.Stop Go.Extern Go.Proofs.YtefhlonipglboaaDoorW.PrintWords Go.Proofs.YtefhlonipglboaaDoorW.PrintLast Go.Proofs.YtefhlonipglboaaDoorW.PrintMore
set_option linter.unusedVariables false
set_option linter.unusedSimpArgs false

set_option maxHeartbeats 2000000 in
set_option maxRecDepth 100000 in
theorem ints_true (A0 A1 : Option Addr) (c0 c1 : Nat) (l : List Int) (w : World) (hr0 : Kd.C (Kd.int .i64) w A0 l.length l) (hr1 : Kd.C (Kd.int .i64) w A1 l.length l) :
    Calls Tryd.prog 29 #[.slice A0 l.length c0, .slice A1 l.length c1] w fun e w' => e = .returned (.bool true) ∧ Drawn0 w w' := by
  have HR0 := Aside0.mk hr0
  have HR1 := Aside0.mk hr1
  have hm := Kd.C_max hr0
  clear hr0 hr1
  go_enter Tryd.func29, Tryd.ntmps29
  go_wp2_with fail
  go_loopg [5] l.length (fun kq v3 w' => ∃ i : Nat, v3 = .int .i64 i ∧ kq + i = l.length ∧ Aside0 (Drawn0 w w'))
  case atStart => exact ⟨0, rfl, rfl, ⟨Drawn0.refl _⟩⟩
  case round =>
    obtain ⟨i, rfl, hk, HW⟩ := hrel
    cases gk with
    | zero =>
      obtain rfl : i = l.length := by omega
      go_wp2_with fail
      go_ret
      exact ⟨rfl, HW.out⟩
    | succ k =>
      have hb := HW.out.below
      obtain ⟨ad0, e0, hx0⟩ := Kd.at_int (Kd.C_below HR0.out hb) (i : Int) (by omega) (by omega)
      obtain ⟨ad1, e1, hx1⟩ := Kd.at_int (Kd.C_below HR1.out hb) (i : Int) (by omega) (by omega)
      subst e0
      subst e1
      simp only [Int.toNat_natCast] at hx0 hx1
      have hi : i < l.length := by omega
      have hne : (rd l (i : Int) != rd l (i : Int)) = false := bne_self_eq_false _
      have HK : Aside0 (k + (i + 1) = l.length) := ⟨by omega⟩
      clear hb hk
      go_wp2_with fail
      go_quiet (fail)
      go_wp2_with fail
      go_roundg k
      case measure => omega
      case rel => exact ⟨i + 1, by go_num, HK.out, ⟨by repeat (first | exact HW.out | apply Drawn0.step)⟩⟩

theorem CI_lit (W : World) (xs : List Int) (hm : xs.length ≤ 9223372036854775807) : Kd.C (Kd.int .i64) (W.alloc (.cells (nums .i64 xs).toArray 3)) (some ⟨W.heap.size, 0, none⟩) xs.length xs := by
  refine Kd.C_of_reads (d := 0) ⟨rfl, hm, fun _ => ⟨_, rfl, fun j hj => ?_⟩⟩
  rw [add_plain, cell_of_row _ W.heap.size j _ 3 (0, 0) (heap_alloc_new W _)]
  simp [nums, List.getElem?_eq_getElem hj, List.getD_eq_getElem?_getD, rdOf]
theorem CI_litg (W : World) (g : Nat) (xs : List Int) (hg : g = W.heap.size) (hm : xs.length ≤ 9223372036854775807) : Kd.C (Kd.int .i64) (W.alloc (.cells (nums .i64 xs).toArray 3)) (some ⟨g, 0, none⟩) xs.length xs := by
  subst hg
  exact CI_lit W xs hm

set_option maxHeartbeats 4000000 in
set_option maxRecDepth 100000 in
theorem kept_true (A : Option Addr) (b c : Nat) (v : Value) (l : List Int) (w : World) (h : LentIAt w b v l) (hr : Kd.C (Kd.int .i64) w A l.length l) (hm : l.length + 2 ≤ 17592186044416) :
    Calls Tryd.prog 20 #[v, .slice A l.length c] w fun e w' => e = .returned (.bool true) ∧ Drawn0 w w' := by
  obtain ⟨g, cv, rfl, hcv, hC2, hFC⟩ := h.full
  clear h
  have HF := Aside0.mk hFC
  have HR := Aside0.mk hr
  have HC := Aside0.mk hC2
  clear hFC hr hC2
  have hl : l.length ≤ 17592186044416 := by omega
  have HM := Aside0.mk hm
  clear hm
  go_enter Tryd.func20, Tryd.ntmps20
  go_wp2_with fail
  refine (ints_true (some ⟨g, 0, none⟩) A cv c l w HC.out HR.out).mono ?_
  rintro e w1 ⟨rfl, hd⟩
  have HD := Aside0.mk hd
  have hFC := Kd.C_below HF.out hd.below
  obtain ⟨ad, e, h1⟩ := Kd.at_int hFC (l.length : Int) (by omega) (by omega)
  cases e
  obtain ⟨ad, e, h2⟩ := Kd.at_int hFC ((l.length : Int) + 1) (by omega) (by omega)
  cases e
  rw [Int.toNat_natCast, add_plain, show rd (l ++ [(7001 : Int), 7002]) (l.length : Int) = 7001 from by simp [rd]] at h1
  rw [show ((l.length : Int) + 1).toNat = l.length + 1 from by omega, add_plain, show rd (l ++ [(7001 : Int), 7002]) ((l.length : Int) + 1) = 7002 from by rw [rd, show ((l.length : Int) + 1).toNat = l.length + 1 from by omega]; simp] at h2
  clear hd hFC
  go_wp2_with fail
  go_ret
  exact ⟨rfl, HD.out⟩
end Go.Proofs.YtefhlonipglboaaDoor

/- rule.Check, rule.Small: what they say of a rule. -/
namespace Go.Proofs.YtefhlonipglboaaDoor
open Go.RowKit Go.Extern.Stop Go.Stop Go.Extern Go.Proofs.YtefhlonipglboaaDoorW.PrintWords Go.Proofs.YtefhlonipglboaaDoorW.PrintLast Go.Proofs.YtefhlonipglboaaDoorW.PrintMore
set_option linter.unusedVariables false
set_option linter.unusedSimpArgs false

set_option maxHeartbeats 4000000 in
set_option maxRecDepth 100000 in
theorem chkR_calls (S : Nat → Addr) (k r : Int) (A : Option Addr) (c : Nat) (t : List Int) (w : World) (hE : Env S w) (hr : Kd.C (Kd.int .i64) w A t.length t) :
    Calls Tryd.prog 34 #[.agg #[.int .i64 k, .int .i64 r, .slice A t.length c]] w (ErrO S w (chkR k r t)) := by
  have hm := Kd.C_max hr
  have HE := Aside0.mk hE
  have HR := Aside0.mk hr
  clear hE hr
  by_cases h1 : k < 1
  · have ho : chkR k r t = some (1, [(ruleS, 0)]) := by unfold chkR; rw [if_pos (Or.inl h1)]
    rw [ho]
    have d1 : decide (k < 1) = true := decide_eq_true h1
    clear ho
    go_enter Tryd.func34, Tryd.ntmps34
    go_wp2_with fail
    refine (wrongRule_calls S 0 1 (by unfold Num; omega) _ ((HE.out).below (below_alloc (Below.refl _ _) _))).mono ?_
    rintro e w1 ⟨v, rfl, hv, hb⟩
    have HB1 := Aside0.mk (below_step (below_alloc (Below.refl _ _) _) hb)
    have HV := Aside0.mk hv
    clear hb hv
    go_wp2_with fail
    go_ret
    exact ⟨_, rfl, (HV.out), (HB1.out)⟩
  have d1 : decide (k < 1) = false := decide_eq_false h1
  by_cases h2 : 4 < k
  · have ho : chkR k r t = some (1, [(ruleS, 0)]) := by unfold chkR; rw [if_pos (Or.inr h2)]
    rw [ho]
    have d2 : decide (4 < k) = true := decide_eq_true h2
    clear ho
    go_enter Tryd.func34, Tryd.ntmps34
    go_wp2_with fail
    refine (wrongRule_calls S 0 1 (by unfold Num; omega) _ ((HE.out).below (below_alloc (Below.refl _ _) _))).mono ?_
    rintro e w1 ⟨v, rfl, hv, hb⟩
    have HB1 := Aside0.mk (below_step (below_alloc (Below.refl _ _) _) hb)
    have HV := Aside0.mk hv
    clear hb hv
    go_wp2_with fail
    go_ret
    exact ⟨_, rfl, (HV.out), (HB1.out)⟩
  have d2 : decide (4 < k) = false := decide_eq_false h2
  by_cases h3 : r < 0 ∨ 3 < r
  · have ho : chkR k r t = some (1, [(ruleS, 1)]) := by unfold chkR; rw [if_neg (by omega), if_pos h3]
    rw [ho]
    have hK : ¬ KR k r := by unfold KR; omega
    have HK := Aside0.mk hK
    clear ho h3 hK
    go_enter Tryd.func34, Tryd.ntmps34
    go_wp2_with fail
    refine (size_calls S k r _ ((HE.out).below (below_alloc (Below.refl _ _) _))).mono ?_
    rintro e w1 ⟨n, u, rfl, hu, hn, hb⟩
    have HB1 := Aside0.mk (below_step (below_alloc (Below.refl _ _) _) hb)
    have HRX := Aside0.mk ((BoxR.new _ _ _ _).below hb)
    clear hb
    rw [if_neg HK.out] at hu hn
    obtain ⟨ut, ux, rfl⟩ := hu.2.2.form
    clear hu
    obtain ⟨q0, q1, q2⟩ := BoxR.cells (HRX.out)
    subst hn
    go_wp2_with fail
    refine (wrongRule_calls S 1 1 (by unfold Num; omega) w1 ((HE.out).below (HB1.out))).mono ?_
    rintro e w2 ⟨v, rfl, hv, hb⟩
    have HB2 := Aside0.mk (hb)
    have HV := Aside0.mk hv
    clear hb hv
    go_wp2_with fail
    go_ret
    exact ⟨_, rfl, (HV.out), (below_step (HB1.out) HB2.out)⟩
  have hK : KR k r := by unfold KR; omega
  have hw := hK.win
  by_cases h4 : (t.length : Int) = nwin k r
  · by_cases h5 : 0 ≤ fstIx (badB k) t
    · have ho : chkR k r t = some (1, [(ruleS, 3 + fstIx (badB k) t)]) := by unfold chkR; rw [if_neg (by omega), if_neg h3, if_neg (by omega), if_pos h5]
      rw [ho]
      have d5 : ((t.length : Int) != nwin k r) = false := by rw [bne_eq_false_iff_eq]; exact h4
      have hmx : fstIx (badB k) t < t.length := by
        rcases fstIx_cases (badB k) t with ⟨h6, _⟩ | ⟨i, hi, h6, _⟩ <;> omega
      obtain ⟨x, hx⟩ : ∃ x, fstIx (badB k) t = x := ⟨_, rfl⟩
      obtain ⟨nw, hnw⟩ : ∃ nw, nwin k r = nw := ⟨_, rfl⟩
      rw [hx] at h5 hmx ⊢
      rw [hnw] at d5 h4 hw
      have hxb : x ≤ 16384 := by omega
      have HX := Aside0.mk hx
      have HK := Aside0.mk hK
      have HNW := Aside0.mk hnw
      clear ho h3 hK hx hnw
      go_enter Tryd.func34, Tryd.ntmps34
      go_wp2_with fail
      refine (size_calls S k r _ ((HE.out).below (below_alloc (Below.refl _ _) _))).mono ?_
      rintro e w1 ⟨n, u, rfl, hu, hn, hb⟩
      have HB1 := Aside0.mk (below_step (below_alloc (Below.refl _ _) _) hb)
      have HRX := Aside0.mk ((BoxR.new _ _ _ _).below hb)
      clear hb
      rw [if_pos HK.out] at hu hn
      rw [HNW.out] at hn
      have hu' : u = .nilIface := hu
      subst hu'
      subst hn
      clear hu
      obtain ⟨q0, q1, q2⟩ := BoxR.cells (HRX.out)
      have h4' := Aside0.mk h4
      clear h4
      go_wp2_with fail
      refine (odd_calls k A c t w1 (Kd.C_below (HR.out) (HB1.out))).mono ?_
      rintro e w2 ⟨rfl, hb⟩
      have HB2 := Aside0.mk (hb)
      clear hb
      rw [HX.out]
      go_wp2_with fail
      refine (wrongRule_calls S (3 + x) 1 (by unfold Num; omega) w2 (((HE.out).below (HB1.out)).below (HB2.out))).mono ?_
      rintro e w3 ⟨v, rfl, hv, hb⟩
      have HB3 := Aside0.mk (hb)
      have HV := Aside0.mk hv
      clear hb hv
      go_wp2_with fail
      go_ret
      exact ⟨_, rfl, (HV.out), (below_step (below_step (HB1.out) HB2.out) HB3.out)⟩
    · have ho : chkR k r t = none := by unfold chkR; rw [if_neg (by omega), if_neg h3, if_neg (by omega), if_neg h5]
      rw [ho]
      have d5 : ((t.length : Int) != nwin k r) = false := by rw [bne_eq_false_iff_eq]; exact h4
      obtain ⟨x, hx⟩ : ∃ x, fstIx (badB k) t = x := ⟨_, rfl⟩
      obtain ⟨nw, hnw⟩ : ∃ nw, nwin k r = nw := ⟨_, rfl⟩
      rw [hx] at h5
      rw [hnw] at d5 h4 hw
      have HX := Aside0.mk hx
      have HK := Aside0.mk hK
      have HNW := Aside0.mk hnw
      clear ho h3 hK hx hnw
      go_enter Tryd.func34, Tryd.ntmps34
      go_wp2_with fail
      refine (size_calls S k r _ ((HE.out).below (below_alloc (Below.refl _ _) _))).mono ?_
      rintro e w1 ⟨n, u, rfl, hu, hn, hb⟩
      have HB1 := Aside0.mk (below_step (below_alloc (Below.refl _ _) _) hb)
      have HRX := Aside0.mk ((BoxR.new _ _ _ _).below hb)
      clear hb
      rw [if_pos HK.out] at hu hn
      rw [HNW.out] at hn
      have hu' : u = .nilIface := hu
      subst hu'
      subst hn
      clear hu
      obtain ⟨q0, q1, q2⟩ := BoxR.cells (HRX.out)
      have h4' := Aside0.mk h4
      clear h4
      go_wp2_with fail
      refine (odd_calls k A c t w1 (Kd.C_below (HR.out) (HB1.out))).mono ?_
      rintro e w2 ⟨rfl, hb⟩
      have HB2 := Aside0.mk (hb)
      clear hb
      rw [HX.out]
      go_wp2_with fail
      go_ret
      exact ⟨_, rfl, rfl, (below_step (HB1.out) HB2.out)⟩
  · have ho : chkR k r t = some (1, [(ruleS, 2)]) := by unfold chkR; rw [if_neg (by omega), if_neg h3, if_pos h4]
    rw [ho]
    have d5 : ((t.length : Int) != nwin k r) = true := by rw [bne_iff_ne]; exact h4
    obtain ⟨nw, hnw⟩ : ∃ nw, nwin k r = nw := ⟨_, rfl⟩
    rw [hnw] at d5 h4 hw
    have HK := Aside0.mk hK
    have HNW := Aside0.mk hnw
    clear ho h3 hK hnw
    go_enter Tryd.func34, Tryd.ntmps34
    go_wp2_with fail
    refine (size_calls S k r _ ((HE.out).below (below_alloc (Below.refl _ _) _))).mono ?_
    rintro e w1 ⟨n, u, rfl, hu, hn, hb⟩
    have HB1 := Aside0.mk (below_step (below_alloc (Below.refl _ _) _) hb)
    have HRX := Aside0.mk ((BoxR.new _ _ _ _).below hb)
    clear hb
    rw [if_pos HK.out] at hu hn
    rw [HNW.out] at hn
    have hu' : u = .nilIface := hu
    subst hu'
    subst hn
    clear hu
    obtain ⟨q0, q1, q2⟩ := BoxR.cells (HRX.out)
    go_wp2_with fail
    refine (wrongRule_calls S 2 1 (by unfold Num; omega) w1 ((HE.out).below (HB1.out))).mono ?_
    rintro e w2 ⟨v, rfl, hv, hb⟩
    have HB2 := Aside0.mk (hb)
    have HV := Aside0.mk hv
    clear hb hv
    go_wp2_with fail
    go_ret
    exact ⟨_, rfl, (HV.out), (below_step (HB1.out) HB2.out)⟩

set_option maxHeartbeats 4000000 in
set_option maxRecDepth 100000 in
theorem smallR_calls (S : Nat → Addr) (k r : Int) (A : Option Addr) (c : Nat) (t : List Int) (w : World) (hE : Env S w) (hr : Kd.C (Kd.int .i64) w A t.length t) :
    Calls Tryd.prog 36 #[.agg #[.int .i64 k, .int .i64 r, .slice A t.length c]] w (ErrO S w (smallR k r t)) := by
  have hm := Kd.C_max hr
  have HE := Aside0.mk hE
  have HR := Aside0.mk hr
  clear hE hr
  cases hc : chkR k r t with
  | some x =>
    have ho : smallR k r t = some x := by unfold smallR; rw [hc]
    rw [ho]
    have HCK := Aside0.mk hc
    clear ho hc
    go_enter Tryd.func36, Tryd.ntmps36
    go_wp2_with fail
    refine (chkR_calls S k r A c t _ ((HE.out).below (below_alloc (Below.refl _ _) _)) (Kd.C_below (HR.out) (below_alloc (Below.refl _ _) _))).mono ?_
    rintro e w1 ⟨v, rfl, hv, hb⟩
    have HB1 := Aside0.mk (below_step (below_alloc (Below.refl _ _) _) hb)
    have HRX := Aside0.mk ((BoxR.new _ _ _ _).below hb)
    clear hb
    rw [HCK.out] at hv
    obtain ⟨vt, vx, rfl⟩ := hv.2.2.form
    have HV := Aside0.mk hv
    clear hv
    obtain ⟨q0, q1, q2⟩ := BoxR.cells (HRX.out)
    go_wp2_with fail
    go_ret
    exact ⟨_, rfl, (HV.out), (HB1.out)⟩
  | none =>
    by_cases h5 : 256 < t.length
    · have ho : smallR k r t = some (4, [(ruleS, 0)]) := by unfold smallR; rw [hc]; simp [h5]
      rw [ho]
      have HCK := Aside0.mk hc
      have d5 : decide ((256 : Int) < t.length) = true := decide_eq_true (by omega)
      clear ho hc
      go_enter Tryd.func36, Tryd.ntmps36
      go_wp2_with fail
      refine (chkR_calls S k r A c t _ ((HE.out).below (below_alloc (Below.refl _ _) _)) (Kd.C_below (HR.out) (below_alloc (Below.refl _ _) _))).mono ?_
      rintro e w1 ⟨v, rfl, hv, hb⟩
      have HB1 := Aside0.mk (below_step (below_alloc (Below.refl _ _) _) hb)
      have HRX := Aside0.mk ((BoxR.new _ _ _ _).below hb)
      clear hb
      rw [HCK.out] at hv
      have hv' : v = .nilIface := hv
      subst hv'
      clear hv
      obtain ⟨q0, q1, q2⟩ := BoxR.cells (HRX.out)
      go_wp2_with fail
      refine (wrongRule_calls S 0 4 (by unfold Num; omega) w1 ((HE.out).below (HB1.out))).mono ?_
      rintro e w2 ⟨v, rfl, hv, hb⟩
      have HB2 := Aside0.mk (hb)
      have HV := Aside0.mk hv
      clear hb hv
      go_wp2_with fail
      go_ret
      exact ⟨_, rfl, (HV.out), (below_step (HB1.out) HB2.out)⟩
    · have ho : smallR k r t = none := by unfold smallR; rw [hc]; simp [h5]
      rw [ho]
      have HCK := Aside0.mk hc
      have d5 : decide ((256 : Int) < t.length) = false := decide_eq_false (by omega)
      clear ho hc
      go_enter Tryd.func36, Tryd.ntmps36
      go_wp2_with fail
      refine (chkR_calls S k r A c t _ ((HE.out).below (below_alloc (Below.refl _ _) _)) (Kd.C_below (HR.out) (below_alloc (Below.refl _ _) _))).mono ?_
      rintro e w1 ⟨v, rfl, hv, hb⟩
      have HB1 := Aside0.mk (below_step (below_alloc (Below.refl _ _) _) hb)
      have HRX := Aside0.mk ((BoxR.new _ _ _ _).below hb)
      clear hb
      rw [HCK.out] at hv
      have hv' : v = .nilIface := hv
      subst hv'
      clear hv
      obtain ⟨q0, q1, q2⟩ := BoxR.cells (HRX.out)
      go_wp2_with fail
      go_ret
      exact ⟨_, rfl, rfl, (HB1.out)⟩
end Go.Proofs.YtefhlonipglboaaDoor
