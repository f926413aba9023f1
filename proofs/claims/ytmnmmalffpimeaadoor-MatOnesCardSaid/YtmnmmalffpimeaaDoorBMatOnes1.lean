/- edenlaw16.MatOnes returns true whatever number is handed in; no condition beyond the row's own. (Part 1 of 3: Num, Mem, Norm, Kn, Nats, Err, ErrAs, Env, Frame, Is, Errs, RowMem, Fr, Chk, MatMem, Zero.) -/
import Derived.Test.YtmnmmalffpimeaaDoorGNatx1
import Derived.Lib.Hide
import Derived.IntWalk
import Derived.Outline
import Derived.LaidEql
import Derived.Stop.Asserts
import Derived.RowKitTokens
import Derived.Test.YtmnmmalffpimeaaDoorRows
import Derived.Below
import Derived.ChangeSame
import Derived.ChangeVars
import Derived.JoinedOf
import Derived.WideKeyArgs
import Derived.Stop.LaidErr
import Derived.LaidLaws
import Derived.LaidHandle
import Derived.LaidMore
import Derived.OpenShut
import Derived.ProofKit
import Derived.Stop.Joined
import GoSem.PinnedTables
import Derived.Test.YtmnmmalffpimeaaDoorGNatx2
import Derived.Deep.RegionWith
/- Plain facts on natural numbers as lists of limbs of 32 bits, the lowest first; no program is named here. -/
namespace Go.Proofs.YtmnmmalffpimeaaDoor

/-- what a list of limbs is worth -/
def val : List Int → Int
  | [] => 0
  | x :: xs => x + 4294967296 * val xs
/-- each limb is one -/
def Limbs (l : List Int) : Prop := ∀ x ∈ l, 0 ≤ x ∧ x < 4294967296
/-- no limb 0 at the end -/
def Tip : List Int → Prop
  | [] => True
  | [x] => x ≠ 0
  | _ :: y :: ys => Tip (y :: ys)
def Nrm (l : List Int) : Prop := Limbs l ∧ Tip l
/-- without limbs 0 at the end -/
def trim : List Int → List Int
  | [] => []
  | x :: xs => if trim xs = [] then (if x = 0 then [] else [x]) else x :: trim xs

theorem Limbs.tail {x : Int} {xs : List Int} (h : Limbs (x :: xs)) : Limbs xs := fun y hy => h y (List.mem_cons_of_mem _ hy)
theorem Limbs.head {x : Int} {xs : List Int} (h : Limbs (x :: xs)) : 0 ≤ x ∧ x < 4294967296 := h x List.mem_cons_self
theorem Limbs.nil : Limbs [] := fun _ h => by cases h
theorem Limbs.cons {x : Int} {xs : List Int} (hx : 0 ≤ x ∧ x < 4294967296) (h : Limbs xs) : Limbs (x :: xs) := by
  intro y hy
  rcases List.mem_cons.1 hy with rfl | hy
  · exact hx
  · exact h y hy
theorem Limbs.append {l m : List Int} (h : Limbs l) (k : Limbs m) : Limbs (l ++ m) := by
  intro x hx
  rcases List.mem_append.1 hx with hx | hx
  · exact h x hx
  · exact k x hx
theorem Limbs.take {l : List Int} (h : Limbs l) (n : Nat) : Limbs (l.take n) := fun x hx => h x (List.mem_of_mem_take hx)
theorem Limbs.drop {l : List Int} (h : Limbs l) (n : Nat) : Limbs (l.drop n) := fun x hx => h x (List.mem_of_mem_drop hx)
theorem Limbs.getD {l : List Int} (h : Limbs l) (i : Nat) : 0 ≤ l.getD i 0 ∧ l.getD i 0 < 4294967296 := by
  by_cases hi : i < l.length
  · rw [List.getD_eq_getElem?_getD, List.getElem?_eq_getElem hi]; exact h _ (List.getElem_mem hi)
  · rw [List.getD_eq_getElem?_getD, List.getElem?_eq_none (by omega)]; exact ⟨by decide, by decide⟩
theorem Limbs.replicate (n : Nat) : Limbs (List.replicate n 0) := by
  intro x hx
  rw [(List.mem_replicate.1 hx).2]
  exact ⟨by decide, by decide⟩

theorem val_nonneg : ∀ {l : List Int}, Limbs l → 0 ≤ val l
  | [], _ => by simp [val]
  | x :: xs, h => by
    have := val_nonneg h.tail
    have := h.head
    simp only [val]; omega
theorem Nrm.tail {x : Int} {xs : List Int} (h : Nrm (x :: xs)) : Nrm xs := by
  refine ⟨h.1.tail, ?_⟩
  cases xs with
  | nil => trivial
  | cons y ys => exact h.2
theorem Nrm.zero : ∀ {l : List Int}, Nrm l → val l = 0 → l = []
  | [], _, _ => rfl
  | x :: xs, h, hv => by
    exfalso
    have h0 := val_nonneg h.1.tail
    have h1 := h.1.head
    simp only [val] at hv
    have hx : xs = [] := Nrm.zero h.tail (by omega)
    subst hx
    have := h.2
    simp only [Tip, val] at this hv
    omega
/-- two normal lists of one worth are one -/
theorem Nrm.inj : ∀ {l m : List Int}, Nrm l → Nrm m → val l = val m → l = m
  | [], m, _, hm, hv => (Nrm.zero hm (by simpa [val] using hv.symm)).symm
  | x :: xs, [], hl, _, hv => by
    have := Nrm.zero hl (by simpa [val] using hv)
    cases this
  | x :: xs, y :: ys, hl, hm, hv => by
    have h1 := hl.1.head
    have h2 := hm.1.head
    simp only [val] at hv
    have hx : x = y := by omega
    have ht : val xs = val ys := by omega
    rw [hx, Nrm.inj hl.tail hm.tail ht]

theorem trim_limbs : ∀ {l : List Int}, Limbs l → Limbs (trim l)
  | [], _ => Limbs.nil
  | x :: xs, h => by
    simp only [trim]
    split
    · split
      · exact Limbs.nil
      · exact Limbs.cons h.head Limbs.nil
    · exact Limbs.cons h.head (trim_limbs h.tail)
theorem trim_tip : ∀ (l : List Int), Tip (trim l)
  | [] => trivial
  | x :: xs => by
    have ih := trim_tip xs
    simp only [trim]
    split
    · split
      · trivial
      · rename_i h; exact h
    · rename_i h
      match ht : trim xs, h with
      | y :: ys, _ => rw [ht] at ih; exact ih
theorem trim_nrm {l : List Int} (h : Limbs l) : Nrm (trim l) := ⟨trim_limbs h, trim_tip l⟩
theorem trim_val : ∀ (l : List Int), val (trim l) = val l
  | [] => rfl
  | x :: xs => by
    have ih := trim_val xs
    simp only [trim]
    split
    · rename_i h
      rw [h] at ih
      split
      · rename_i hx; simp only [val] at ih ⊢; omega
      · simp only [val] at ih ⊢; omega
    · simp only [val]; rw [ih]
theorem trim_of_tip : ∀ {l : List Int}, Tip l → trim l = l
  | [], _ => rfl
  | [x], h => by simp only [trim, if_pos trivial]; rw [if_neg h]
  | x :: y :: ys, h => by
    have ih := trim_of_tip (l := y :: ys) h
    rw [trim, ih, if_neg (by simp)]
theorem trim_length_le : ∀ (l : List Int), (trim l).length ≤ l.length
  | [] => Nat.le_refl _
  | x :: xs => by
    have := trim_length_le xs
    simp only [trim]
    split
    · split <;> simp
    · simp only [List.length_cons]; omega
theorem trim_take : ∀ (l : List Int), l.take (trim l).length = trim l
  | [] => rfl
  | x :: xs => by
    have ih := trim_take xs
    simp only [trim]
    split
    · split
      · rfl
      · rfl
    · simp only [List.length_cons, List.take_succ_cons]; rw [ih]
theorem trim_append_zero : ∀ (l : List Int), trim (l ++ [0]) = trim l
  | [] => by simp [trim]
  | x :: xs => by simp only [List.cons_append, trim]; rw [trim_append_zero xs]
theorem tip_append_ne : ∀ (l : List Int) {x : Int}, x ≠ 0 → Tip (l ++ [x])
  | [], _, h => h
  | [y], _, h => h
  | y :: z :: zs, _, h => by
    have := tip_append_ne (z :: zs) h
    exact this
theorem take_snoc_int (l : List Int) (k : Nat) (h : k < l.length) : l.take (k + 1) = l.take k ++ [l.getD k 0] := by
  rw [List.take_succ_eq_append_getElem h, List.getD_eq_getElem?_getD, List.getElem?_eq_getElem h]; rfl
/-- norm's loop: the last limb is 0 -/
theorem trim_step {l : List Int} {k : Nat} (h : k < l.length) (h0 : l.getD k 0 = 0) : trim (l.take (k + 1)) = trim (l.take k) := by
  rw [take_snoc_int l k h, h0, trim_append_zero]
/-- .. or not -/
theorem trim_done {l : List Int} {k : Nat} (h : k < l.length) (h0 : l.getD k 0 ≠ 0) : trim (l.take (k + 1)) = l.take (k + 1) := by
  rw [take_snoc_int l k h]; exact trim_of_tip (tip_append_ne _ h0)

theorem val_append : ∀ (l m : List Int), val (l ++ m) = val l + 4294967296 ^ l.length * val m
  | [], m => by simp [val]
  | x :: xs, m => by
    simp only [List.cons_append, val, List.length_cons, val_append xs m]
    rw [Int.pow_succ]; grind
theorem val_snoc (l : List Int) (x : Int) : val (l ++ [x]) = val l + 4294967296 ^ l.length * x := by
  rw [val_append]; simp [val]
theorem val_replicate (n : Nat) : val (List.replicate n 0) = 0 := by
  induction n with
  | zero => rfl
  | succ n ih => rw [List.replicate_succ]; simp only [val, ih]; rfl
theorem val_lt : ∀ {l : List Int}, Limbs l → val l < 4294967296 ^ l.length
  | [], _ => by simp [val]
  | x :: xs, h => by
    have := val_lt h.tail
    have := h.head
    simp only [val, List.length_cons]
    rw [Int.pow_succ]; omega
theorem val_take_succ (l : List Int) (k : Nat) (h : k < l.length) : val (l.take (k + 1)) = val (l.take k) + 4294967296 ^ k * l.getD k 0 := by
  rw [take_snoc_int l k h, val_snoc, List.length_take, Nat.min_eq_left (by omega)]

end Go.Proofs.YtmnmmalffpimeaaDoor

/- Words for memory: a value that reads as a list of limbs, and what a call leaves behind; over the printed words. -/
set_option linter.unusedVariables false
set_option linter.unusedSimpArgs false
namespace Go.Proofs.YtmnmmalffpimeaaDoor
open Go.RowKit Go.Proofs.YtmnmmalffpimeaaDoorW.PrintWords Go.Proofs.YtmnmmalffpimeaaDoorW.PrintLast Go.Proofs.YtmnmmalffpimeaaDoorW.PrintMore

/-- the value is a slice of limbs that reads as the list -/
def RdN (w : World) (v : Value) (l : List Int) : Prop := ∃ A c, v = .slice A l.length c ∧ l.length ≤ c ∧ Kd.C (Kd.int .u32) w A l.length l
theorem RdN.below {w w1 : World} {v : Value} {l : List Int} (h : RdN w v l) (hb : Below w.heap.size w w1) : RdN w1 v l := by
  obtain ⟨A, c, e, hc, hC⟩ := h
  exact ⟨A, c, e, hc, Kd.C_below hC hb⟩
theorem RdN.of_V {w : World} {b : Nat} {ok : Nat → Prop} {t : Nat} {v : Value} {l : List Int} (h : Kd.V (Kd.int .u32) t w b ok v l) : RdN w v l := by
  obtain ⟨A, c, e, hc, hF⟩ := h
  exact ⟨A, c, e, hc, Kd.F_now hF⟩
theorem RdN.of_R {w : World} {b : Nat} {ok : Nat → Prop} {t : Nat} {v : Value} {l : List Int} (h : Kd.R (Kd.int .u32) t w b ok v l) : RdN w v l := by
  obtain ⟨A, c, e, hc, hC⟩ := Kd.R_reads h
  exact ⟨A, c, e, hc, hC⟩
theorem RdN.nil (w : World) (c : Nat) : RdN w (.slice none 0 c) [] := ⟨none, c, rfl, Nat.zero_le _, Kd.C_nil _ _⟩

/-- likewise, in memory from block b on -/
def FrN (b : Nat) (w : World) (v : Value) (l : List Int) : Prop := Kd.V (Kd.int .u32) 74 w 0 (fun k => b ≤ k) v l
theorem FrN.rd {b : Nat} {w : World} {v : Value} {l : List Int} (h : FrN b w v l) : RdN w v l := RdN.of_V h
theorem FrN.below {b : Nat} {w w1 : World} {v : Value} {l : List Int} (h : FrN b w v l) (hb : Below w.heap.size w w1) : FrN b w1 v l := Kd.V_below h hb
theorem FrN.lower {b b' : Nat} {w : World} {v : Value} {l : List Int} (h : FrN b w v l) (hb : b' ≤ b) : FrN b' w v l := Kd.V_mono h (fun k hk => Nat.le_trans hb hk)
theorem FrN.nil (b : Nat) (w : World) : FrN b w (.slice none 0 0) [] := Kd.V_nil _ _ _ _ _
theorem FrN.of_R {b base : Nat} {w : World} {ok : Nat → Prop} {g n c : Nat} {l : List Int} (h : Kd.R (Kd.int .u32) 74 w base ok (.slice (some ⟨g, 0, none⟩) n c) l) (hg : b ≤ g) : FrN b w (.slice (some ⟨g, 0, none⟩) n c) l :=
  Kd.V_mono (Kd.R_V (Kd.R_tight rfl h)) (fun k hk => by
    have : k = g := by simpa [Value.ownBlock] using hk
    omega)
theorem FrN.take {b : Nat} {w : World} {A : Option Addr} {n c m : Nat} {l : List Int} (h : FrN b w (.slice A n c) l) (hm : m ≤ l.length) : FrN b w (.slice A (l.take m).length c) (l.take m) := by
  obtain ⟨h1, h2, h3⟩ := Kd.V_at h
  subst h1
  exact Kd.V_mk (by rw [List.length_take]; omega) (Kd.F_take h3 hm)
theorem FrN.trimmed {b : Nat} {w : World} {A : Option Addr} {n c : Nat} {l : List Int} (h : FrN b w (.slice A n c) l) : FrN b w (.slice A (trim l).length c) (trim l) := by
  have h1 := h.take (trim_length_le l)
  rwa [trim_take] at h1

/-- what a call that answers a normal number leaves -/
def NatRes (w : World) (x : Int) (e : Ending) (w' : World) : Prop := ∃ v r, e = .returned v ∧ FrN w.heap.size w' v r ∧ Nrm r ∧ val r = x ∧ Below w.heap.size w w'

theorem nrm_length {r : List Int} {k : Nat} (h : Nrm r) (hv : val r < 4294967296 ^ k) : r.length ≤ k := by
  induction r generalizing k with
  | nil => simp
  | cons x xs ih =>
    have h1 := h.1.head
    have h0 := val_nonneg h.1.tail
    simp only [val] at hv
    cases k with
    | zero =>
      exfalso
      simp at hv
      have hz : xs = [] := Nrm.zero h.tail (by omega)
      subst hz
      have := h.2
      simp only [Tip, val] at this hv
      omega
    | succ k =>
      rw [Int.pow_succ] at hv
      have := ih h.tail (k := k) (by omega)
      simp only [List.length_cons]; omega
end Go.Proofs.YtmnmmalffpimeaaDoor

/- What nat.norm and bits.Add32 compute: the same slice, cut to what is without limbs 0 at the end; a sum and its carry. -/
namespace Go.Proofs.YtmnmmalffpimeaaDoor
open Go.RowKit Go.Proofs.YtmnmmalffpimeaaDoorW.PrintWords Go.Proofs.YtmnmmalffpimeaaDoorW.PrintLast Go.Proofs.YtmnmmalffpimeaaDoorW.PrintMore
set_option linter.unusedVariables false
set_option linter.unusedSimpArgs false

theorem info_u32 : (Tryd.prog.info? 74).map (fun i => (i.zero, i.size, i.bytes)) = some (some (.int .u32 0), 1, 4) := by kernel_rfl

def sliceLen : Value → Nat
  | .slice _ n _ => n
  | _ => 0

set_option maxHeartbeats 2000000 in
set_option maxRecDepth 100000 in
theorem norm_calls (A : Option Addr) (c : Nat) (l : List Int) (w : World) (hr : Kd.C (Kd.int .u32) w A l.length l) (hc : l.length ≤ c) :
    Calls Tryd.prog 101 #[.slice A l.length c] w fun e w' => e = .returned (.slice A (trim l).length c) ∧ w = w' := by
  have HR := Aside0.mk hr
  have HC := Aside0.mk hc
  have hlen : l.length ≤ 9223372036854775807 := Kd.C_max hr
  clear hr hc
  go_enter Tryd.func101, Tryd.ntmps101
  go_wp2
  go_loop [0] (fun v => ∃ k : Nat, v = .slice A k c ∧ k ≤ l.length ∧ Aside0 (trim (l.take k) = trim l)) (fun v => sliceLen v)
  case atStart => exact ⟨l.length, rfl, Nat.le_refl _, ⟨by rw [List.take_length]⟩⟩
  case round =>
    obtain ⟨k, rfl, hk, HT⟩ := hrel
    cases k with
    | zero =>
      go_wp2
      go_ret
      exact ⟨by rw [← HT.out]; rfl, rfl⟩
    | succ k =>
      obtain ⟨ad, e, hx⟩ := Kd.at_int HR.out (k : Int) (by omega) (by omega)
      cases e
      simp only [Int.toNat_natCast] at hx
      have hck : k + 1 ≤ c := by have := HC.out; omega
      by_cases h0 : rd l (k : Int) = 0
      · have HZ := Aside0.mk h0
        have h0b : (rd l (k : Int) == 0) = true := beq_iff_eq.mpr h0
        clear h0
        go_wp2
        go_round
        case rel => exact ⟨k, rfl, by omega, ⟨by rw [← HT.out]; exact (trim_step (by omega) (by have := HZ.out; simpa [rd] using this)).symm⟩⟩
        case measure => simp [sliceLen]
      · have HZ := Aside0.mk h0
        have h0b : (rd l (k : Int) == 0) = false := beq_eq_false_iff_ne.mpr h0
        clear h0
        go_wp2
        go_ret
        refine ⟨?_, rfl⟩
        have h1 := trim_done (l := l) (k := k) (by omega) (by have := HZ.out; simpa [rd] using this)
        rw [← HT.out, h1, List.length_take, Nat.min_eq_left hk]
        rfl

set_option maxHeartbeats 2000000 in
set_option maxRecDepth 100000 in
theorem add32_calls (x y c : Int) (w : World) (hx0 : 0 ≤ x) (hx : x < 4294967296) (hy0 : 0 ≤ y) (hy : y < 4294967296) (hc0 : 0 ≤ c) (hc : c ≤ 1) :
    Calls Tryd.prog 106 #[.int .u32 x, .int .u32 y, .int .u32 c] w fun e w' => e = .returned (.tuple #[.int .u32 ((x + y + c) % 4294967296), .int .u32 ((x + y + c) / 4294967296)]) ∧ w = w' := by
  have hm : (x + y + c) / 4294967296 % 4294967296 = (x + y + c) / 4294967296 := by omega
  have HM := Aside0.mk hm
  clear hm
  go_enter Tryd.func106, Tryd.ntmps106
  go_wp2
  go_ret2
  exact ⟨by first | rfl | (rw [HM.out]) | (simp [HM.out]), rfl⟩
end Go.Proofs.YtmnmmalffpimeaaDoor

/- Rows of slices that are read; the last limb of a number. -/
namespace Go.Proofs.YtmnmmalffpimeaaDoor
open Go.RowKit Go.Proofs.YtmnmmalffpimeaaDoorW.PrintWords Go.Proofs.YtmnmmalffpimeaaDoorW.PrintLast Go.Proofs.YtmnmmalffpimeaaDoorW.PrintMore
set_option linter.unusedVariables false
set_option linter.unusedSimpArgs false

abbrev KN : Kd (List Int) := Kd.slice 74 (Kd.int .u32)
theorem atRow {α : Type} {d : Kd α} {e : Nat} {w : World} {A : Option Addr} {xs : List (List α)} (h : Kd.C (Kd.slice e d) w A xs.length xs) (i : Nat) (hi : i < xs.length) :
    ∃ ad A0 c0, A = some ad ∧ w.cell? (ad.add i) = some (.slice A0 xs[i].length c0) ∧ xs[i].length ≤ c0 ∧ Kd.C d w A0 xs[i].length xs[i] := by
  obtain ⟨ad, c, e1, hc, hK, hcell⟩ := Kd.C_get h [] (i : Int) (by omega) (by omega)
  rw [Int.toNat_natCast] at hK hcell
  have hg : xs.getD i [] = xs[i] := by rw [List.getD_eq_getElem?_getD, List.getElem?_eq_getElem hi]; rfl
  rw [hg] at hK
  obtain ⟨A0, c0, rfl, hl, hC⟩ := hK
  refine ⟨ad, A0, c0, e1, ?_, hl, hC⟩
  have h1 := hcell 0 _ rfl
  rw [show i * (Kd.slice e d).sz + 0 = i from by show i * 1 + 0 = i; omega] at h1
  exact h1

theorem tip_last : ∀ {l : List Int}, Tip l → l ≠ [] → l.getD (l.length - 1) 0 ≠ 0
  | [], _, h => absurd rfl h
  | [x], h, _ => by simpa [Tip] using h
  | x :: y :: ys, h, _ => by
    have ih := tip_last (l := y :: ys) h (by simp)
    simpa using ih
end Go.Proofs.YtmnmmalffpimeaaDoor

/- edenraw.Nats at equal numbers; numbers written out. -/
namespace Go.Proofs.YtmnmmalffpimeaaDoor
open Go.RowKit Go.Proofs.YtmnmmalffpimeaaDoorW.PrintWords Go.Proofs.YtmnmmalffpimeaaDoorW.PrintLast Go.Proofs.YtmnmmalffpimeaaDoorW.PrintMore
set_option linter.unusedVariables false
set_option linter.unusedSimpArgs false

set_option maxHeartbeats 2000000 in
set_option maxRecDepth 100000 in
theorem nats_true (A0 A1 : Option Addr) (c0 c1 : Nat) (l : List Int) (w : World) (hr0 : Kd.C (Kd.int .u32) w A0 l.length l) (hr1 : Kd.C (Kd.int .u32) w A1 l.length l) :
    Calls Tryd.prog 24 #[.slice A0 l.length c0, .slice A1 l.length c1] w fun e w' => e = .returned (.bool true) ∧ Drawn0 w w' := by
  have HR0 := Aside0.mk hr0
  have HR1 := Aside0.mk hr1
  have hm := Kd.C_max hr0
  clear hr0 hr1
  go_enter Tryd.func24, Tryd.ntmps24
  go_wp2_with fail
  go_loopg [5] l.length (fun kq v3 w' => ∃ i : Nat, v3 = .int .i64 i ∧ kq + i = l.length ∧ Aside0 (Drawn0 w w'))
  case atStart => exact ⟨0, rfl, rfl, ⟨Drawn0.refl _⟩⟩
  case round =>
    obtain ⟨i, rfl, hk, HW⟩ := hrel
    cases gk with
    | zero =>
      obtain rfl : i = l.length := by omega
      go_wp2_with fail
      go_ret
      exact ⟨rfl, HW.out⟩
    | succ k =>
      have hb := HW.out.below
      obtain ⟨ad0, e0, hx0⟩ := Kd.at_int (Kd.C_below HR0.out hb) (i : Int) (by omega) (by omega)
      obtain ⟨ad1, e1, hx1⟩ := Kd.at_int (Kd.C_below HR1.out hb) (i : Int) (by omega) (by omega)
      subst e0
      subst e1
      simp only [Int.toNat_natCast] at hx0 hx1
      have hi : i < l.length := by omega
      have hne : (rd l (i : Int) != rd l (i : Int)) = false := bne_self_eq_false _
      have HK : Aside0 (k + (i + 1) = l.length) := ⟨by omega⟩
      clear hb hk
      go_wp2_with fail
      go_quiet (fail)
      go_wp2_with fail
      go_roundg k
      case measure => omega
      case rel => exact ⟨i + 1, by go_num, HK.out, ⟨by repeat (first | exact HW.out | apply Drawn0.step)⟩⟩

theorem C_lit (W : World) (xs : List Int) (hm : xs.length ≤ 9223372036854775807) : Kd.C (Kd.int .u32) (W.alloc (.cells (nums .u32 xs).toArray 74)) (some ⟨W.heap.size, 0, none⟩) xs.length xs := by
  refine Kd.C_of_reads (d := 0) ⟨rfl, hm, fun _ => ⟨_, rfl, fun j hj => ?_⟩⟩
  rw [add_plain, cell_of_row _ W.heap.size j _ 74 (0, 0) (heap_alloc_new W _)]
  simp [nums, List.getElem?_eq_getElem hj, List.getD_eq_getElem?_getD, rdOf]
theorem C_litg (W : World) (g : Nat) (xs : List Int) (hg : g = W.heap.size) (hm : xs.length ≤ 9223372036854775807) : Kd.C (Kd.int .u32) (W.alloc (.cells (nums .u32 xs).toArray 74)) (some ⟨g, 0, none⟩) xs.length xs := by
  subst hg
  exact C_lit W xs hm
theorem limbs_lit {xs : List Int} (h : xs.all (fun x => decide (0 ≤ x ∧ x < 4294967296)) = true) : Limbs xs := by
  intro x hx
  have := List.all_eq_true.1 h x hx
  simpa using this
end Go.Proofs.YtmnmmalffpimeaaDoor

/- Errors: what fault.New and fault.Under make, and that errors.Is finds the error at the end of a chain of Faults. -/
namespace Go.Proofs.YtmnmmalffpimeaaDoor
open Go.RowKit Go.Extern.Stop Go.Stop Go.Extern Go.Proofs.YtmnmmalffpimeaaDoorW.PrintWords Go.Proofs.YtmnmmalffpimeaaDoorW.PrintLast Go.Proofs.YtmnmmalffpimeaaDoorW.PrintMore
set_option linter.unusedVariables false
set_option linter.unusedSimpArgs false

/-- an error value: a chain of Faults, at its end the n-th of the errors themselves -/
def ErrAt (S : Nat → Addr) (w : World) (n : Nat) : List (ByteArray × Int) → Value → Prop
  | [], v => v = .iface 212 (.pointer (some (S n)))
  | p :: rest, v => ∃ (b : Nat) (v' : Value), v = .iface 100 (.pointer (some ⟨b, 0, none⟩)) ∧ w.cell? ⟨b, 0, none⟩ = some (.string p.1) ∧ w.cell? ⟨b, 1, none⟩ = some (.int .i64 p.2) ∧ w.cell? ⟨b, 2, none⟩ = some v' ∧ ErrAt S w n rest v'
theorem ErrAt.below {S : Nat → Addr} {w w1 : World} {n : Nat} (hb : Below w.heap.size w w1) : ∀ {l : List (ByteArray × Int)} {v : Value}, ErrAt S w n l v → ErrAt S w1 n l v
  | [], _, h => h
  | p :: rest, v, ⟨b, v', h1, h2, h3, h4, h5⟩ => ⟨b, v', h1, pw_cell_below hb h2, pw_cell_below hb h3, pw_cell_below hb h4, ErrAt.below hb h5⟩
theorem ErrAt.form {S : Nat → Addr} {w : World} {n : Nat} : ∀ {l : List (ByteArray × Int)} {v : Value}, ErrAt S w n l v → ∃ t x, v = .iface t x
  | [], _, h => ⟨_, _, h⟩
  | p :: rest, v, ⟨b, v', h1, _⟩ => ⟨_, _, h1⟩

theorem isTypeOf (v : Value) (w : World) : (Extern.ReflectliteType.typeOf #[.iface 212 v]).run Tryd.prog w = .ok (.iface 174 (.agg #[.pointer (some ⟨17, 212, none⟩)])) w := by kernel_rfl
theorem isComp : (Tryd.prog.info? 212).map (·.comparable) = some true := by kernel_rfl
theorem isSize : (Tryd.prog.info? 233).map (·.size) = some 1 := by kernel_rfl
theorem noIsF (v : Value) (xT : TypeId) (w : World) : (Instr.typeAssert (.iface 100 v) xT 176 true).run Tryd.prog w = .ok (.tuple #[.nilIface, .bool false]) w := run_typeAssert_lacksB Tryd.underlying176 (by kernel_rfl) (by kernel_rfl) v xT w
theorem hasUnwrapF (v : Value) (xT : TypeId) (w : World) : (Instr.typeAssert (.iface 100 v) xT 179 true).run Tryd.prog w = .ok (.tuple #[.iface 100 v, .bool true]) w := run_typeAssert_hasB Tryd.underlying179 (by kernel_rfl) v xT w

theorem isComparable (w : World) : (callFunc 194 #[.agg #[.pointer (some ⟨17, 212, none⟩)]]).run Tryd.prog w = .ok (.value (.bool true)) w := by
  have h := @run_callFunc_extern Tryd.prog 194 _ (Extern.ReflectliteType.method fun t => do Extern.Rtype.noPackHeld "Comparable" t; pure (.bool (← typeInfo t).comparable)) Tryd.func194 (by kernel_rfl) (by kernel_rfl) (by kernel_rfl) (by kernel_rfl)
  have c : ((Extern.ReflectliteType.method fun t => do Extern.Rtype.noPackHeld "Comparable" t; pure (.bool (← typeInfo t).comparable)) #[.agg #[.pointer (some ⟨17, 212, none⟩)]]).run Tryd.prog w = .ok (.bool true) w := by kernel_rfl
  rw [h, c]; rfl
theorem isMethodComparable (v : Value) (w : World) : (Go.method 345 174 v "Comparable").run Tryd.prog w = .ok (194, v) w := by kernel_rfl
theorem methodUnwrap (v : Value) (w : World) : (Go.method 345 100 v "Unwrap").run Tryd.prog w = .ok (188, v) w := by kernel_rfl

theorem unwrap_calls (b : Nat) (v : Value) (w : World) (hc : w.cell? ⟨b, 2, none⟩ = some v) :
    Calls Tryd.prog 188 #[.pointer (some ⟨b, 0, none⟩)] w fun e w' => e = .returned v ∧ w = w' := by
  go_enter Tryd.func188, Tryd.ntmps188
  go_wp2
  go_ret
  exact ⟨rfl, rfl⟩


set_option maxHeartbeats 1000000 in
set_option maxRecDepth 100000 in
theorem is_loop (S : Nat → Addr) (n : Nat) (l : List (ByteArray × Int)) (v : Value) (w : World) (h : ErrAt S w n l v) :
    Calls Tryd.prog 120 #[v, .iface 212 (.pointer (some (S n))), .bool true] w fun e w' => e = .returned (.bool true) ∧ w = w' := by
  obtain ⟨i, hi, hcmp⟩ := Option.map_eq_some_iff.1 isComp
  obtain ⟨j, hj, hjs⟩ := Option.map_eq_some_iff.1 isSize
  obtain ⟨a, ha⟩ : ∃ a, S n = a := ⟨_, rfl⟩
  have heq := run_eql_iface_ptr_same (P := Tryd.prog) w a Tryd.underlying25 Tryd.underlying212 hi hcmp hj
  have hne := fun (x : Value) => run_eql_iface_types (P := Tryd.prog) 100 212 x (.pointer (some a)) Tryd.underlying25 (by decide) w
  have H := Aside0.mk h
  rw [ha]
  have HA := Aside0.mk ha
  clear h hjs ha hi hcmp hj
  have nF := noIsF
  have uF := hasUnwrapF
  have mU := methodUnwrap
  go_enter Tryd.func120, Tryd.ntmps120
  go_wp2_with fail
  go_loopg [0] l.length (fun kq v0 w' => ∃ rest : List (ByteArray × Int), Aside0 (ErrAt S w n rest v0) ∧ Aside0 (kq = rest.length) ∧ w = w')
  case atStart => exact ⟨l, H, ⟨rfl⟩, rfl⟩
  case round =>
    obtain ⟨rest, HE, HK, rfl⟩ := hrel
    cases rest with
    | nil =>
      have h0 := HE.out
      simp only [ErrAt] at h0
      rw [HA.out] at h0
      subst h0
      go_wp2
      go_ret
      exact ⟨rfl, rfl⟩
    | cons p rest =>
      obtain ⟨b, v', h1, h2, h3, h4, h5⟩ := HE.out
      subst h1
      obtain ⟨t, x, rfl⟩ := h5.form
      have H5 := Aside0.mk h5
      clear h5 heq h2 h3
      go_wp2_with (go_at_call 188; refine (unwrap_calls _ _ _ h4).mono ?_; rintro e w' ⟨rfl, rfl⟩)
      go_roundg rest.length
      case measure => have := HK.out; simp only [List.length_cons] at this; omega
      case rel => exact ⟨rest, H5, ⟨rfl⟩, rfl⟩
set_option maxHeartbeats 1000000 in
set_option maxRecDepth 100000 in
theorem is_calls (S : Nat → Addr) (n : Nat) (l : List (ByteArray × Int)) (v : Value) (w : World) (h : ErrAt S w n l v) :
    Calls Tryd.prog 70 #[v, .iface 212 (.pointer (some (S n)))] w fun e w' => e = .returned (.bool true) ∧ w = w' := by
  obtain ⟨i, hi, hcmp⟩ := Option.map_eq_some_iff.1 isComp
  obtain ⟨j, hj, hjs⟩ := Option.map_eq_some_iff.1 isSize
  obtain ⟨a, ha⟩ : ∃ a, S n = a := ⟨_, rfl⟩
  have heq := run_eql_iface_ptr_same (P := Tryd.prog) w a Tryd.underlying25 Tryd.underlying212 hi hcmp hj
  obtain ⟨t, x, rfl⟩ := h.form
  have H := Aside0.mk h
  have HA := Aside0.mk ha
  clear h hjs ha hi hcmp hj heq
  have h8 := @run_callFunc_extern Tryd.prog 119 _ Extern.ReflectliteType.typeOf Tryd.func119 (by kernel_rfl) (by kernel_rfl) (by kernel_rfl) (by kernel_rfl)
  have tT := isTypeOf
  have cT := isComparable
  have mR := isMethodComparable
  go_enter Tryd.func70, Tryd.ntmps70
  go_wp2_with (go_at_call 120; refine (is_loop S n l _ _ (by exact H.out)).mono ?_; rintro e w' ⟨rfl, rfl⟩)
  go_ret
  exact ⟨rfl, rfl⟩
end Go.Proofs.YtmnmmalffpimeaaDoor

/- errors.As at a Fault and the address of a variable for a pointer to a Fault: true; the variable holds the pointer. After the worked example ToyasAs. -/
namespace Go.Proofs.YtmnmmalffpimeaaDoor
open Go.RowKit Go.Extern.Stop Go.Stop Go.Extern Go.Proofs.YtmnmmalffpimeaaDoorW.PrintWords Go.Proofs.YtmnmmalffpimeaaDoorW.PrintLast Go.Proofs.YtmnmmalffpimeaaDoorW.PrintMore
set_option linter.unusedVariables false
set_option linter.unusedSimpArgs false

/-- errors.As(nil, target). -/
theorem as_nil (t : Value) (w : World) :
    Calls Tryd.prog 72 #[.nilIface, t] w fun e w' => e = .returned (.bool false) ∧ w' = w := by
  go_enter Tryd.func72, Tryd.ntmps72
  go_wp2
  go_ret
  exact ⟨rfl, rfl⟩

/-! ### CLOSED FACTS ON THE MODEL's ENTRIES FOR internal/reflectlite, at this program's types: 25: *p.E · 27: **p.E · 23: error · 45: reflectlite's rtype · 1: how many package-level variables the dump has -/
theorem asvalueOf27 (t : Addr) (w : World) : (ReflectliteValue.unpack (.iface 102 (.pointer (some t)))).run Tryd.prog w
    = .ok (.agg #[.pointer (some ⟨17, 102, none⟩), .pointer (some ⟨w.heap.size, 0, none⟩), .int .u64 150]) (w.alloc (.cells #[.pointer (some t)] 102)) := by kernel_rfl
theorem astype27 (a : Addr) (w : World) : (ReflectliteValue.methodAny (ReflectliteValue.valueError "reflectlite.Value.Type" 0) (fun t _ _ _ => ReflectliteType.toType t) #[.agg #[.pointer (some ⟨17, 102, none⟩), .pointer (some a), .int .u64 150]]).run Tryd.prog w
    = .ok (.iface 174 (.agg #[.pointer (some ⟨17, 102, none⟩)])) w := by kernel_rfl
theorem asmethodKind (h : Value) (w : World) : (Go.method 345 174 (.agg #[h]) "Kind").run Tryd.prog w = .ok (184, h) w := by kernel_rfl
theorem askind27 (w : World) : ((ReflectliteType.abiMethod fun t => (fun a : Nat => Value.int IntKind.u8 (a : Int)) <$> Rtype.kind t) #[.pointer (some ⟨17, 102, none⟩)]).run Tryd.prog w = .ok (.int .u8 22) w := by kernel_rfl
theorem askind25 (w : World) : ((ReflectliteType.abiMethod fun t => (fun a : Nat => Value.int IntKind.u8 (a : Int)) <$> Rtype.kind t) #[.pointer (some ⟨17, 100, none⟩)]).run Tryd.prog w = .ok (.int .u8 22) w := by kernel_rfl

/-! ### THE ENTRIES THAT READ OR WRITE MEMORY: laws with a premise on the cell (after Derived/Lib/ReflectliteSlice.lean's manner: each unfolding a lemma of its own, by rfl) -/
theorem asRlm (z : Sem Value) (f : TypeId → Addr → Nat → Nat → Sem Value) (v : Value) :
    ReflectliteValue.method z f #[v] = (do match ← ReflectliteValue.parts v with | none => z | some (t, a, fl) => f t a fl (fl % 32)) := rfl
theorem asparts27 (a : Addr) (w : World) : (ReflectliteValue.parts (.agg #[.pointer (some ⟨17, 102, none⟩), .pointer (some a), .int .u64 150])).run Tryd.prog w = .ok (some (102, a, 150)) w := by kernel_rfl
/-- (Value).IsNil at the Value of a **p.E that is not nil. -/
theorem asisNil27 (a p : Addr) (W : World) (ha : W.cell? a = some (.pointer (some p))) :
    (ReflectliteValue.method (ReflectliteValue.valueError "reflectlite.Value.IsNil" 0) ReflectliteValue.isNil #[.agg #[.pointer (some ⟨17, 102, none⟩), .pointer (some a), .int .u64 150]]).run Tryd.prog W = .ok (.bool false) W := by
  rw [asRlm]
  simp only [Sem.run_bind, asparts27, Result.andThen]
  simp [ReflectliteValue.isNil, loadVar, isAgg, underlying, Tryd.underlying102, ha, Result.andThen]

theorem asmethodElem (h : Value) (w : World) : (Go.method 345 174 (.agg #[h]) "Elem").run Tryd.prog w = .ok (195, .agg #[h]) w := by kernel_rfl
theorem asmethodImplements (h : Value) (w : World) : (Go.method 345 174 (.agg #[h]) "Implements").run Tryd.prog w = .ok (196, .agg #[h]) w := by kernel_rfl
theorem asmethodAssignableTo (h : Value) (w : World) : (Go.method 345 174 (.agg #[h]) "AssignableTo").run Tryd.prog w = .ok (193, .agg #[h]) w := by kernel_rfl
theorem aselem27 (w : World) : (ReflectliteType.method ReflectliteType.elem #[.agg #[.pointer (some ⟨17, 102, none⟩)]]).run Tryd.prog w = .ok (.iface 174 (.agg #[.pointer (some ⟨17, 100, none⟩)])) w := by kernel_rfl
theorem asimplements25 (w : World) : (ReflectliteType.relation "Implements" ReflectliteType.implements_ #[.agg #[.pointer (some ⟨17, 100, none⟩)], .iface 174 (.agg #[.pointer (some ⟨17, 25, none⟩)])]).run Tryd.prog w = .ok (.bool true) w := by kernel_rfl
theorem astypeOf25 (v : Value) (w : World) : (ReflectliteType.typeOf #[.iface 100 v]).run Tryd.prog w = .ok (.iface 174 (.agg #[.pointer (some ⟨17, 100, none⟩)])) w := by kernel_rfl
theorem asassignable25 (w : World) : (ReflectliteType.relation "AssignableTo" ReflectliteType.assignableTo #[.agg #[.pointer (some ⟨17, 100, none⟩)], .iface 174 (.agg #[.pointer (some ⟨17, 100, none⟩)])]).run Tryd.prog w = .ok (.bool true) w := by kernel_rfl
theorem asvalueOf25 (e : Addr) (w : World) : (ReflectliteValue.unpack (.iface 100 (.pointer (some e)))).run Tryd.prog w
    = .ok (.agg #[.pointer (some ⟨17, 100, none⟩), .pointer (some ⟨w.heap.size, 0, none⟩), .int .u64 150]) (w.alloc (.cells #[.pointer (some e)] 100)) := by kernel_rfl

theorem aselemOf27 (w : World) : (Rtype.elem? 102).run Tryd.prog w = .ok (some 100) w := by kernel_rfl
theorem asmk25 (p : Addr) (w : World) : (ReflectliteValue.mk 100 p ReflectliteValue.flagAddr).run Tryd.prog w = .ok (.agg #[.pointer (some ⟨17, 100, none⟩), .pointer (some p), .int .u64 406]) w := by kernel_rfl
/-- (Value).Elem at the Value of a **p.E that is not nil: the Value of the *p.E variable that it points to, addressable. -/
theorem aselemV27 (a p : Addr) (W : World) (ha : W.cell? a = some (.pointer (some p))) :
    (ReflectliteValue.method (ReflectliteValue.valueError "reflectlite.Value.Elem" 0) ReflectliteValue.elem #[.agg #[.pointer (some ⟨17, 102, none⟩), .pointer (some a), .int .u64 150]]).run Tryd.prog W
      = .ok (.agg #[.pointer (some ⟨17, 100, none⟩), .pointer (some p), .int .u64 406]) W := by
  rw [asRlm]
  simp only [Sem.run_bind, asparts27, Result.andThen]
  simp [ReflectliteValue.elem, loadVar, isAgg, underlying, Tryd.underlying102, ha, Result.andThen, aselemOf27, asmk25]
theorem asRls (v x : Value) : ReflectliteValue.set #[v, x] = (do
    let (some (dst, a, fl), some (src, b, _)) := (← ReflectliteValue.parts v, ← ReflectliteValue.parts x)
      | unsupported (.noEntry "extern/(internal/reflectlite.Value).Set.zeroValue")
    if fl / ReflectliteValue.flagAddr % 2 == 0 then unsupported (.noEntry "extern/(internal/reflectlite.Value).Set.unaddressable")
    let val ← loadVar src b
    if ← Rtype.directlyAssignable dst src then storeVar dst a val
    else if ← Rtype.implements dst src then
      if (← Rtype.kind src) == 20 then
        match val with
        | .nilIface => unsupported (.noEntry "extern/reflectlite: a nil value of one interface type handed on as a value of another")
        | _ => storeVar dst a val
      else storeVar dst a (.iface src val)
    else panicString ("reflectlite.Set: value of type " ++ (← Rtype.spelt src) ++ " is not assignable to type " ++ (← Rtype.spelt dst))
    pure (.tuple #[])) := rfl
theorem asparts25a (a : Addr) (w : World) : (ReflectliteValue.parts (.agg #[.pointer (some ⟨17, 100, none⟩), .pointer (some a), .int .u64 406])).run Tryd.prog w = .ok (some (100, a, 406)) w := by kernel_rfl
theorem asparts25 (a : Addr) (w : World) : (ReflectliteValue.parts (.agg #[.pointer (some ⟨17, 100, none⟩), .pointer (some a), .int .u64 150])).run Tryd.prog w = .ok (some (100, a, 150)) w := by kernel_rfl
theorem asdirect25 (w : World) : (Rtype.directlyAssignable 100 100).run Tryd.prog w = .ok true w := by kernel_rfl
theorem assize25 (w : World) : (sizeOf 100).run Tryd.prog w = .ok 1 w := by kernel_rfl
/-- (Value).Set: the *p.E variable at 'ta' gets what the Value's own variable 'b' holds. -/
theorem asset25 (ta b e : Addr) (old : Value) (W : World) (hb : W.cell? b = some (.pointer (some e))) (ht : W.cell? ta = some old) (hf : W.frozen? ta = false) :
    (ReflectliteValue.set #[.agg #[.pointer (some ⟨17, 100, none⟩), .pointer (some ta), .int .u64 406], .agg #[.pointer (some ⟨17, 100, none⟩), .pointer (some b), .int .u64 150]]).run Tryd.prog W
      = .ok (.tuple #[]) (W.setCell ta (.pointer (some e))) := by
  rw [asRls]
  simp only [Sem.run_bind, asparts25a, asparts25, Result.andThen]
  simp [ReflectliteValue.flagAddr, loadVar, isAgg, underlying, Tryd.underlying100, hb, Result.andThen, asdirect25, storeVar, Value.cells, storeCells, Addr.add]
  rw [run_store Tryd.prog W ta _ _ (by rfl)]
  simp [ht, hf]

set_option maxHeartbeats 4000000 in
theorem as_hit (e t : Addr) (old : Value) (w : World) (hg : w.cell? ⟨12, 0, none⟩ = some (.iface 174 (.agg #[.pointer (some ⟨17, 25, none⟩)]))) (ht0 : w.cell? t = some old) (hf0 : w.frozen? t = false) :
    Calls Tryd.prog 72 #[.iface 100 (.pointer (some e)), .iface 102 (.pointer (some t))] w fun ev w' => ev = .returned (.bool true) ∧ w' = ((((w.alloc (.cells #[.pointer (some t)] 102)).alloc (.cells #[.pointer (some ⟨17, 102, none⟩), .pointer (some ⟨w.heap.size, 0, none⟩), .int .u64 150] 149)).alloc (.cells #[.pointer (some ⟨17, 102, none⟩), .pointer (some ⟨w.heap.size, 0, none⟩), .int .u64 150] 149)).alloc (.cells #[.pointer (some e)] 100)).setCell t (.pointer (some e)) := by
  have h6 := @run_callFunc_extern Tryd.prog 121 _ (fun args => ReflectliteValue.unpack (args.getD 0 (.tuple #[]))) Tryd.func121 (by kernel_rfl) (by kernel_rfl) (by kernel_rfl) (by kernel_rfl)
  have h7 := @run_callFunc_extern Tryd.prog 122 _ (ReflectliteValue.methodAny (ReflectliteValue.valueError "reflectlite.Value.Type" 0) (fun t _ _ _ => ReflectliteType.toType t)) Tryd.func122 (by kernel_rfl) (by kernel_rfl) (by kernel_rfl) (by kernel_rfl)
  have h8 := @run_callFunc_extern Tryd.prog 123 _ (ReflectliteValue.method (ReflectliteValue.valueError "reflectlite.Value.IsNil" 0) ReflectliteValue.isNil) Tryd.func123 (by kernel_rfl) (by kernel_rfl) (by kernel_rfl) (by kernel_rfl)
  have h27 := @run_callFunc_extern Tryd.prog 184 _ (ReflectliteType.abiMethod fun t => do pure (.int .u8 (← Rtype.kind t))) Tryd.func184 (by kernel_rfl) (by kernel_rfl) (by kernel_rfl) (by kernel_rfl)
  have h37 := @run_callFunc_extern Tryd.prog 195 _ (ReflectliteType.method ReflectliteType.elem) Tryd.func195 (by kernel_rfl) (by kernel_rfl) (by kernel_rfl) (by kernel_rfl)
  have h38 := @run_callFunc_extern Tryd.prog 196 _ (ReflectliteType.relation "Implements" ReflectliteType.implements_) Tryd.func196 (by kernel_rfl) (by kernel_rfl) (by kernel_rfl) (by kernel_rfl)
  have h10 := @run_callFunc_extern Tryd.prog 119 _ ReflectliteType.typeOf Tryd.func119 (by kernel_rfl) (by kernel_rfl) (by kernel_rfl) (by kernel_rfl)
  have h35 := @run_callFunc_extern Tryd.prog 193 _ (ReflectliteType.relation "AssignableTo" ReflectliteType.assignableTo) Tryd.func193 (by kernel_rfl) (by kernel_rfl) (by kernel_rfl) (by kernel_rfl)
  have h11 := @run_callFunc_extern Tryd.prog 144 _ (ReflectliteValue.method (ReflectliteValue.valueError "reflectlite.Value.Elem" 0) ReflectliteValue.elem) Tryd.func144 (by kernel_rfl) (by kernel_rfl) (by kernel_rfl) (by kernel_rfl)
  have h12 := @run_callFunc_extern Tryd.prog 145 _ ReflectliteValue.set Tryd.func145 (by kernel_rfl) (by kernel_rfl) (by kernel_rfl) (by kernel_rfl)
  have tO := astypeOf25
  have mA := asmethodAssignableTo
  have a25 := asassignable25
  have v25 := asvalueOf25
  have f6 := asvalueOf27
  have f7 := astype27
  have mK := asmethodKind
  have mE := asmethodElem
  have mI := asmethodImplements
  have k27 := askind27
  have k25 := askind25
  have e27 := aselem27
  have i25 := asimplements25
  have n8 := asisNil27 ⟨w.heap.size, 0, none⟩ t ((w.alloc (.cells #[.pointer (some t)] 102)).alloc (.cells #[.pointer (some ⟨17, 102, none⟩), .pointer (some ⟨w.heap.size, 0, none⟩), .int .u64 150] 149)) (by simp)
  have hlt : 12 < w.heap.size := World.block_lt_of_cell? w ⟨12, 0, none⟩ hg
  have hg2 : ((w.alloc (.cells #[.pointer (some t)] 102)).alloc (.cells #[.pointer (some ⟨17, 102, none⟩), .pointer (some ⟨w.heap.size, 0, none⟩), .int .u64 150] 149)).cell? ⟨12, 0, none⟩ = some (.iface 174 (.agg #[.pointer (some ⟨17, 25, none⟩)])) := by
    rw [World.cell?_alloc_lt _ _ ⟨12, 0, none⟩ (by simp; omega), World.cell?_alloc_lt _ _ ⟨12, 0, none⟩ hlt]; exact hg
  have htl : t.block < w.heap.size := by
    rcases Nat.lt_or_ge t.block w.heap.size with h | h
    · exact h
    · simp [World.cell?, Array.getElem?_eq_none h] at ht0
  have el := aselemV27 ⟨w.heap.size, 0, none⟩ t (((w.alloc (.cells #[.pointer (some t)] 102)).alloc (.cells #[.pointer (some ⟨17, 102, none⟩), .pointer (some ⟨w.heap.size, 0, none⟩), .int .u64 150] 149)).alloc (.cells #[.pointer (some ⟨17, 102, none⟩), .pointer (some ⟨w.heap.size, 0, none⟩), .int .u64 150] 149)) (by rw [World.cell?_alloc_lt _ _ ⟨w.heap.size, 0, none⟩ (by simp; omega)]; simp)
  have st := asset25 t ⟨w.heap.size + 1 + 1 + 1, 0, none⟩ e old ((((w.alloc (.cells #[.pointer (some t)] 102)).alloc (.cells #[.pointer (some ⟨17, 102, none⟩), .pointer (some ⟨w.heap.size, 0, none⟩), .int .u64 150] 149)).alloc (.cells #[.pointer (some ⟨17, 102, none⟩), .pointer (some ⟨w.heap.size, 0, none⟩), .int .u64 150] 149)).alloc (.cells #[.pointer (some e)] 100))
    (by rw [World.cell?_alloc_at _ _ _ _ (by simp)]; rfl)
    (by rw [World.cell?_alloc_lt _ _ t (by simp; omega), World.cell?_alloc_lt _ _ t (by simp; omega), World.cell?_alloc_lt _ _ t (by simp; omega), World.cell?_alloc_lt _ _ t htl]; exact ht0)
    (by rw [World.frozen?_alloc_old _ _ t (by simp; omega), World.frozen?_alloc_old _ _ t (by simp; omega), World.frozen?_alloc_old _ _ t (by simp; omega), World.frozen?_alloc_old _ _ t (Nat.ne_of_lt htl)]; exact hf0)
  go_enter Tryd.func72, Tryd.ntmps72
  go_wp2
  refine wp_loop_rounds 1 ?_
  rw [rounds_succ]
  go_wp2
  go_ret
  exact ⟨rfl, rfl⟩
end Go.Proofs.YtmnmmalffpimeaaDoor

/- The errors themselves in memory, and what fault.New, fault.Under, edenraw.New, edenraw.Root make of them. -/
namespace Go.Proofs.YtmnmmalffpimeaaDoor
open Go.RowKit Go.Extern.Stop Go.Stop Go.Extern Go.Proofs.YtmnmmalffpimeaaDoorW.PrintWords Go.Proofs.YtmnmmalffpimeaaDoorW.PrintLast Go.Proofs.YtmnmmalffpimeaaDoorW.PrintMore
set_option linter.unusedVariables false
set_option linter.unusedSimpArgs false

/-- the package-level errors lie where the program's text lays them -/
structure Env (S : Nat → Addr) (w : World) : Prop where
  g1 : w.cell? ⟨0, 0, none⟩ = some (.iface 212 (.pointer (some (S 1))))
  g2 : w.cell? ⟨1, 0, none⟩ = some (.iface 212 (.pointer (some (S 2))))
  g3 : w.cell? ⟨2, 0, none⟩ = some (.iface 212 (.pointer (some (S 3))))
  g4 : w.cell? ⟨3, 0, none⟩ = some (.iface 212 (.pointer (some (S 4))))
  g5 : w.cell? ⟨4, 0, none⟩ = some (.iface 212 (.pointer (some (S 5))))
  g6 : w.cell? ⟨5, 0, none⟩ = some (.iface 212 (.pointer (some (S 6))))
  g7 : w.cell? ⟨6, 0, none⟩ = some (.iface 212 (.pointer (some (S 7))))
  g8 : w.cell? ⟨7, 0, none⟩ = some (.iface 212 (.pointer (some (S 8))))
  g9 : w.cell? ⟨8, 0, none⟩ = some (.iface 212 (.pointer (some (S 9))))
  g10 : w.cell? ⟨9, 0, none⟩ = some (.iface 212 (.pointer (some (S 10))))
  g11 : w.cell? ⟨10, 0, none⟩ = some (.iface 212 (.pointer (some (S 11))))
  g12 : w.cell? ⟨11, 0, none⟩ = some (.iface 212 (.pointer (some (S 12))))
  et : w.cell? ⟨12, 0, none⟩ = some (.iface 174 (.agg #[.pointer (some ⟨17, 25, none⟩)]))
theorem Env.below {S : Nat → Addr} {w w1 : World} (h : Env S w) (hb : Below w.heap.size w w1) : Env S w1 :=
  ⟨pw_cell_below hb h.g1, pw_cell_below hb h.g2, pw_cell_below hb h.g3, pw_cell_below hb h.g4, pw_cell_below hb h.g5, pw_cell_below hb h.g6, pw_cell_below hb h.g7, pw_cell_below hb h.g8, pw_cell_below hb h.g9, pw_cell_below hb h.g10, pw_cell_below hb h.g11, pw_cell_below hb h.g12, pw_cell_below hb h.et⟩

/-- an error's number -/
def Num (n : Int) : Prop := n = 1 ∨ n = 2 ∨ n = 3 ∨ n = 4 ∨ n = 5 ∨ n = 6 ∨ n = 7 ∨ n = 8 ∨ n = 9 ∨ n = 10 ∨ n = 11

set_option maxHeartbeats 4000000 in
theorem root_calls (S : Nat → Addr) (n : Int) (hn : Num n) (w : World) (h : Env S w) :
    Calls Tryd.prog 71 #[.int .i64 n] w fun e w' => e = .returned (.iface 212 (.pointer (some (S n.toNat)))) ∧ w = w' := by
  obtain ⟨g1, g2, g3, g4, g5, g6, g7, g8, g9, g10, g11, g12, _⟩ := h
  rcases hn with rfl | rfl | rfl | rfl | rfl | rfl | rfl | rfl | rfl | rfl | rfl
  all_goals
    go_enter Tryd.func71, Tryd.ntmps71
    go_wp2
    go_ret
    exact ⟨rfl, rfl⟩
set_option maxHeartbeats 4000000 in
theorem froot_calls (S : Nat → Addr) (n : Int) (hn : Num n) (w : World) (h : Env S w) :
    Calls Tryd.prog 141 #[.int .i64 n] w fun e w' => e = .returned (.iface 212 (.pointer (some (S n.toNat)))) ∧ w = w' := by
  obtain ⟨g1, g2, g3, g4, g5, g6, g7, g8, g9, g10, g11, g12, _⟩ := h
  rcases hn with rfl | rfl | rfl | rfl | rfl | rfl | rfl | rfl | rfl | rfl | rfl
  all_goals
    go_enter Tryd.func141, Tryd.ntmps141
    go_wp2
    go_ret
    exact ⟨rfl, rfl⟩

/-- what a call that answers an error leaves -/
def ErrRes (S : Nat → Addr) (w : World) (n : Nat) (l : List (ByteArray × Int)) (e : Ending) (w' : World) : Prop := ∃ v, e = .returned v ∧ ErrAt S w' n l v ∧ Below w.heap.size w w'
set_option maxHeartbeats 1000000 in
theorem fnew_calls (S : Nat → Addr) (op : ByteArray) (pos n : Int) (hn : Num n) (w : World) (h : Env S w) :
    Calls Tryd.prog 104 #[.string op, .int .i64 pos, .int .i64 n] w (ErrRes S w n.toNat [(op, pos)]) := by
  have H := Aside0.mk h
  have HN := Aside0.mk hn
  have hnb : (n == 0) = false := by rw [beq_eq_false_iff_ne]; unfold Num at hn; omega
  clear h hn
  go_enter Tryd.func104, Tryd.ntmps104
  go_wp2_with (go_at_call 141; refine (froot_calls S n HN.out _ H.out).mono ?_; rintro e w' ⟨rfl, rfl⟩)
  go_ret
  exact ⟨_, rfl, ⟨w.heap.size, _, rfl, by simp, by simp, by simp, rfl⟩, below_alloc (Below.refl _ _) _⟩
set_option maxHeartbeats 1000000 in
theorem funder_calls (S : Nat → Addr) (op : ByteArray) (pos : Int) (n : Nat) (l : List (ByteArray × Int)) (v : Value) (w : World) (h : ErrAt S w n l v) :
    Calls Tryd.prog 84 #[.string op, .int .i64 pos, v] w (ErrRes S w n ((op, pos) :: l)) := by
  obtain ⟨t, x, rfl⟩ := h.form
  have H := Aside0.mk (h.below (below_alloc (Below.refl w.heap.size w) (.cells #[.string op, .int .i64 pos, .iface t x] 104)))
  clear h
  go_enter Tryd.func84, Tryd.ntmps84
  go_wp2
  go_ret
  exact ⟨_, rfl, ⟨w.heap.size, _, rfl, by simp, by simp, by simp, H.out⟩, below_alloc (Below.refl _ _) _⟩
set_option maxHeartbeats 1000000 in
theorem funder_nil (op : ByteArray) (pos : Int) (w : World) :
    Calls Tryd.prog 84 #[.string op, .int .i64 pos, .nilIface] w fun e w' => e = .returned .nilIface ∧ w = w' := by
  go_enter Tryd.func84, Tryd.ntmps84
  go_wp2
  go_ret
  exact ⟨rfl, rfl⟩
end Go.Proofs.YtmnmmalffpimeaaDoor

/- What the rows' condition gives a walk, a world in which the door stands, and the row's last step. -/
namespace Go.Proofs.YtmnmmalffpimeaaDoor
open Go.RowKit Go.WideShapes Go.ChangeShapes Go.ChangeAt Go.Extern.Stop Go.Proofs.YtmnmmalffpimeaaDoorW.PrintWords Go.Proofs.YtmnmmalffpimeaaDoorW.PrintLast Go.Proofs.YtmnmmalffpimeaaDoorW.PrintMore Go.Stop Go.Extern
set_option linter.unusedVariables false

theorem post_of_below {H : Type} {enc : TypeId × Value → H} {P : Program} {f : Func} {s : ChangeSpec} {apart fresh handsOn again : Bool} {W W' : World} {args : Array Value} {v : Value} {ds gs : List (DataW H)} {before pa pv : List MemPlace}
    (hW : DataW.Whole enc P f.params.toList s.vars apart W args.toList ds gs before)
    (hres : ∀ (b : Nat) (sp : Nat → Bool) (hd : Bool), DataW.TrodAll enc P W' b sp hd f.resultTypes.toList (v.resultList f.resultTypes.size) (s.fn H (ds ++ gs)).results [])
    (hargs : ∀ sp : Nat → Bool, (∀ p ∈ before, sp p.block = true) → DataW.TrodAll enc P W' 0 sp true f.params.toList args.toList (s.fn H (ds ++ gs)).args pa)
    (hvars : ∀ sp : Nat → Bool, (∀ p ∈ before, sp p.block = true) → DataW.TrodVars enc P W' sp s.vars (s.fn H (ds ++ gs)).vars pv)
    (hps : before = pa ++ pv) (hb : Below W.heap.size W W')
    (hok : ∀ (j : Nat) (t : TypeId) (r : Value), f.resultTypes[j]? = some t → (v.resultList f.resultTypes.size)[j]? = some r → Value.okWide P W' .any 0 t r) :
    s.post enc P f apart fresh handsOn again W args v W' := by
  have hlt : ∀ p ∈ before, p.block < W.heap.size := fun p hp => hW.lt p hp
  have hold : ∀ p ∈ before, (fun b => decide (b < W.heap.size)) p.block = true := fun p hp => by simpa using hlt p hp
  refine ⟨ds, gs, before, [], pa, pv, hW, hres _ _ _, hargs _ hold, hvars _ hold, World.keptBut_mono (fun p hp => ⟨hp, ?_⟩) (hb.frame (· ∈ before)), fun _ => ?_⟩
  · rw [hps, List.mem_append] at hp
    exact Or.inr hp
  · obtain ⟨_, _, _, _, _, hz, hn⟩ := hW
    refine ⟨hok, _, _, ([] ++ pa) ++ pv, ⟨[] ++ pa, pv, trodAll_append (hargs _ (fun _ _ => rfl)) (hres _ _ _), hvars _ (fun _ _ => rfl), rfl, ?_, ?_⟩, ?_⟩
    · intro b off hp
      have hin : MemPlace.cell b off ∈ before := by rw [hps]; simpa using hp
      rw [hb.frozen (hlt _ hin)]
      exact hz b off hin
    · intro ha
      have := hn ha
      rw [hps] at this
      simpa using this
    · intro p hp _
      rw [hps]
      simpa using hp

theorem laidOutP : laidOutB Tryd.prog = true := by kernel_rfl
theorem ownK : ownKnob Tryd.prog.godebug = none := by kernel_rfl

/-- arguments read again in a later world -/
theorem stays_all {H : Type} {enc : TypeId × Value → H} {W W' : World} {sp' : Nat → Bool} : ∀ {ts : List TypeId} {vs : List Value} {ds : List (DataW H)} {ps : List MemPlace},
    (∀ t ∈ ts, Tryd.prog.readableRec t = true ∧ t < Tryd.prog.types.size) → DataW.TrodAll enc Tryd.prog W 0 (fun _ => true) true ts vs ds ps → (∀ p ∈ ps, W.sameAt W' p) → (∀ p ∈ ps, sp' p.block = true) →
    DataW.TrodAll enc Tryd.prog W' 0 sp' true ts vs ds ps
  | [], vs, ds, ps, _, h, _, _ => by obtain ⟨rfl, rfl, rfl⟩ := trodAll_nil h; exact h
  | t :: ts, vs0, ds0, ps0, ht, h, hs, hp => by
    obtain ⟨v, vs, d, ds, p, q, rfl, rfl, rfl, hd, hr⟩ := trodAll_cons h
    exact trodAll_cons_mk (WideElems.Trod_stays laidOutP (ht t List.mem_cons_self).1 (ht t List.mem_cons_self).2 hd (fun x hx => hs x (List.mem_append_left _ hx)) (fun x hx => hp x (List.mem_append_left _ hx)))
      (stays_all (fun u hu => ht u (List.mem_cons_of_mem _ hu)) hr (fun x hx => hs x (List.mem_append_right _ hx)) (fun x hx => hp x (List.mem_append_right _ hx)))

theorem star_ : "*" ++ "errors.errorString" = "*errors.errorString" := by decide
theorem row_es (u : TypeId) (h : Tryd.prog.typeName? 3 u = some "*errors.errorString") : u = 212 :=
  typeName_ptr_named (nm := "errors.errorString") (by rw [star_]; kernel_rfl) (by kernel_rfl) (by decide) u (by rw [star_]; exact h)
theorem cells_es : Tryd.prog.cellsOf 233 = 1 := by kernel_rfl
theorem cells_st : Tryd.prog.cellsOf 9 = 1 := by kernel_rfl
theorem sent {n : String} {text : List UInt8} {r : List (String × DataW Unit)} {W : World} {g : Nat}
    (h : laidMet Tryd.prog ((n, .iface "*errors.errorString" (.ptr (.agg [.lit (.string text)]))) :: r) W) (hg : Tryd.prog.globalNamed n = some g) (ht : (Tryd.prog.globals[g]?).map (·.type) = some 25) :
    ∃ a, W.cell? ⟨g, 0, none⟩ = some (.iface 212 (.pointer (some a))) := by
  obtain ⟨a, s, hv, _⟩ := laid_sentinel h hg ht Tryd.underlying25 row_es Tryd.underlying212 Tryd.underlying233 rfl rfl Tryd.underlying9 cells_es cells_st
  exact ⟨a, by simpa using World.var?_cell hg hv 0⟩

theorem et_ : Tryd.prog.globalNamed "errors.errorType" = some 12 := by kernel_rfl
theorem rt_ : (Tryd.prog.cutTypes.find? (·.1 == "internal/reflectlite.rtype")).map (·.2) = some 174 := by kernel_rfl
theorem oneRow_ : ((List.range Tryd.prog.types.size).filter fun t => Tryd.prog.rowNamed t [101, 114, 114, 111, 114]) = [25] := by kernel_rfl
theorem handle_of {W : World} (h : handlesMet Tryd.prog [("errors.errorType", Rows.laid_errors_errorType)] W) : W.cell? ⟨12, 0, none⟩ = some (.iface 174 (.agg #[.pointer (some ⟨17, 25, none⟩)])) := by
  obtain ⟨name, u, ty, e1, e2, e3, e4, e5⟩ := h _ (List.mem_singleton.2 rfl)
  have en : name = [101, 114, 114, 111, 114] := (Option.some.inj e1).symm
  subst en
  obtain rfl := Option.some.inj (rt_.symm.trans e2)
  have hm : ty ∈ (List.range Tryd.prog.types.size).filter fun t => Tryd.prog.rowNamed t [101, 114, 114, 111, 114] := List.mem_filter.2 ⟨List.mem_range.2 e3, e4⟩
  rw [oneRow_] at hm
  obtain rfl := List.mem_singleton.1 hm
  have hh : typeHandle Tryd.prog 25 = .pointer (some ⟨17, 25, none⟩) := by kernel_rfl
  rw [hh] at e5
  simpa using World.var?_cell et_ e5 0

def sents (r : List (String × DataW Unit)) : List (String × DataW Unit) :=
  ("eden/api.BadRule", Rows.laid_eden_api_BadRule) :: ("eden/api.BadWord", Rows.laid_eden_api_BadWord) :: ("eden/api.BadArg", Rows.laid_eden_api_BadArg) :: ("eden/api.TooBig", Rows.laid_eden_api_TooBig) ::
  ("eden/api.NoBudget", Rows.laid_eden_api_NoBudget) :: ("eden/api.BadText", Rows.laid_eden_api_BadText) :: ("eden/api.BadPatch", Rows.laid_eden_api_BadPatch) :: ("eden/api.BadCert", Rows.laid_eden_api_BadCert) ::
  ("eden/api.NoInverse", Rows.laid_eden_api_NoInverse) :: ("eden/api.BadLine", Rows.laid_eden_api_BadLine) :: ("eden/api.BadState", Rows.laid_eden_api_BadState) :: ("eden/api.Unknown", Rows.laid_eden_api_Unknown) :: r
/-- WHAT THE CONDITION GIVES A WALK -/
theorem env_of {W : World} {r : List (String × DataW Unit)} (h0 : laidMet Tryd.prog (sents r) W) (hh : handlesMet Tryd.prog [("errors.errorType", Rows.laid_errors_errorType)] W) : ∃ S : Nat → Addr, Env S W := by
  unfold sents at h0
  have h1 := h0.tail
  have h2 := h1.tail
  have h3 := h2.tail
  have h4 := h3.tail
  have h5 := h4.tail
  have h6 := h5.tail
  have h7 := h6.tail
  have h8 := h7.tail
  have h9 := h8.tail
  have h10 := h9.tail
  have h11 := h10.tail
  obtain ⟨a1, g1⟩ := sent (g := 0) h0 (by kernel_rfl) (by kernel_rfl)
  obtain ⟨a2, g2⟩ := sent (g := 1) h1 (by kernel_rfl) (by kernel_rfl)
  obtain ⟨a3, g3⟩ := sent (g := 2) h2 (by kernel_rfl) (by kernel_rfl)
  obtain ⟨a4, g4⟩ := sent (g := 3) h3 (by kernel_rfl) (by kernel_rfl)
  obtain ⟨a5, g5⟩ := sent (g := 4) h4 (by kernel_rfl) (by kernel_rfl)
  obtain ⟨a6, g6⟩ := sent (g := 5) h5 (by kernel_rfl) (by kernel_rfl)
  obtain ⟨a7, g7⟩ := sent (g := 6) h6 (by kernel_rfl) (by kernel_rfl)
  obtain ⟨a8, g8⟩ := sent (g := 7) h7 (by kernel_rfl) (by kernel_rfl)
  obtain ⟨a9, g9⟩ := sent (g := 8) h8 (by kernel_rfl) (by kernel_rfl)
  obtain ⟨a10, g10⟩ := sent (g := 9) h9 (by kernel_rfl) (by kernel_rfl)
  obtain ⟨a11, g11⟩ := sent (g := 10) h10 (by kernel_rfl) (by kernel_rfl)
  obtain ⟨a12, g12⟩ := sent (g := 11) h11 (by kernel_rfl) (by kernel_rfl)
  exact ⟨fun n => match n with | 1 => a1 | 2 => a2 | 3 => a3 | 4 => a4 | 5 => a5 | 6 => a6 | 7 => a7 | 8 => a8 | 9 => a9 | 10 => a10 | 11 => a11 | _ => a12, g1, g2, g3, g4, g5, g6, g7, g8, g9, g10, g11, g12, handle_of hh⟩

/-- a world that meets the condition: the heap that the door's own run leaves, the one pinned table laid -/
noncomputable def startW (os : Os) : World :=
  let w0 := World.doorLaid Tryd.prog 600 os
  { w0 with heap := w0.heap.modify 14 fun
      | .cells _ t frozen => .cells (Go.Pinned.utf8FirstZ.map fun (n : Nat) => Value.int .u8 (n : Int)).toArray t frozen
      | o => o }
theorem start_met (os : Os) (args : Array Value) : laidMetH Tryd.prog Rows.natDividesRow.laid ((startW os).forCall (fun _ _ => 0) ⟨#[], args, []⟩).memory :=
  laidMetH_of_parts (laidMet_of_run' 8 (by kernel_rfl) (by kernel_rfl)) (by kernel_rfl)
theorem env_two {W : World} (h : laidMetH Tryd.prog Rows.natDividesRow.laid W) : ∃ S : Nat → Addr, Env S W := by
  have h' : laidMet Tryd.prog (("unicode/utf8.acceptRanges", Rows.laid_unicode_utf8_acceptRanges) :: sents [("unicode/utf8.first", Rows.laid_unicode_utf8_first)]) W ∧ handlesMet Tryd.prog [("errors.errorType", Rows.laid_errors_errorType)] W := h
  exact env_of h'.1.tail h'.2

theorem limbs_of {zs : List Int} (h : ∀ n ∈ zs, (Lit.int .u32 n).wf = true) (k : Nat) : Limbs (zs.take k) := by
  intro x hx
  obtain ⟨j, hj, e⟩ := List.mem_iff_getElem.1 (List.mem_of_mem_take hx)
  have := range_u32 h j
  rw [List.getElem?_eq_getElem hj] at this
  simp only [Option.getD_some] at this
  rw [← e]
  exact ⟨this.1, by omega⟩
set_option maxRecDepth 100000 in
/-- a number's slice, opened -/
theorem open_nat {H : Type} {enc : TypeId × Value → H} {W : World} {base : Nat} {v : Value} {d : DataW H} {p : List MemPlace} (hv : Value.okWide Tryd.prog W .any base 44 v) (h : DataW.Trod enc Tryd.prog W 0 (fun _ => true) true 44 v d p) :
    ∃ A c l, v = .slice A l.length c ∧ l.length ≤ c ∧ Limbs l ∧ Kd.C (Kd.int .u32) W A l.length l := by
  obtain ⟨fuel, hf⟩ := h
  have c74 : Tryd.prog.cellsOf 74 = 1 := by kernel_rfl
  obtain ⟨A0, n0, c0, rfl⟩ := okWide_slice Tryd.underlying44 hv
  rcases open_ints Tryd.underlying44 Tryd.underlying74 c74 hf with ⟨h1, _⟩ | ⟨a, len, cap, zs, h1, _, hl, hm, hz, _, hcell, hw⟩
  · simp [Value.cells] at h1
    obtain ⟨rfl, rfl, rfl⟩ := h1
    exact ⟨none, 0, [], rfl, Nat.le_refl _, (fun x hx => absurd hx List.not_mem_nil), Kd.C_nil _ _⟩
  · simp [Value.cells] at h1
    obtain ⟨rfl, rfl, rfl⟩ := h1
    simp only [if_true] at hz
    have hlen : (zs.take n0).length = n0 := by rw [List.length_take]; omega
    refine ⟨some a, c0, zs.take n0, by rw [hlen], by rw [hlen]; exact hl, limbs_of hw n0, ?_⟩
    refine Kd.C_of_reads (d := 0) ⟨rfl, by rw [hlen]; unfold maxLen at hm; omega, fun _ => ⟨a, rfl, fun j hj => ?_⟩⟩
    rw [hlen] at hj
    rw [hcell j (by omega)]
    simp [List.getD_eq_getElem?_getD, hj]
theorem u32_wf {n : Int} (h : (Lit.int .u32 n).wf = true) : 0 ≤ n ∧ n < 4294967296 := by
  have := range_u32 (zs := [n]) (by simpa using h) 0
  simp only [List.getElem?_cons_zero, Option.getD_some] at this
  omega
theorem i64_wf {n : Int} (h : (Lit.int .i64 n).wf = true) : -9223372036854775808 ≤ n ∧ n ≤ 9223372036854775807 := by
  have := range_i64 (zs := [n]) (by simpa using h) 0
  simp only [List.getElem?_cons_zero, Option.getD_some] at this
  exact this
theorem start_met1 (os : Os) (args : Array Value) : laidMetH Tryd.prog Rows.matOnesRow.laid ((startW os).forCall (fun _ _ => 0) ⟨#[], args, []⟩).memory :=
  laidMetH_of_parts (laidMet_of_run' 8 (by kernel_rfl) (by kernel_rfl)) (by kernel_rfl)
theorem env_one {W : World} (h : laidMetH Tryd.prog Rows.matOnesRow.laid W) : ∃ S : Nat → Addr, Env S W := by
  have h' : laidMet Tryd.prog (sents []) W ∧ handlesMet Tryd.prog [("errors.errorType", Rows.laid_errors_errorType)] W := h
  exact env_of h'.1 h'.2
end Go.Proofs.YtmnmmalffpimeaaDoor

/- edenraw.Is: an error that is the wanted one is told to be. -/
namespace Go.Proofs.YtmnmmalffpimeaaDoor
open Go.RowKit Go.Extern.Stop Go.Stop Go.Extern Go.Proofs.YtmnmmalffpimeaaDoorW.PrintWords Go.Proofs.YtmnmmalffpimeaaDoorW.PrintLast Go.Proofs.YtmnmmalffpimeaaDoorW.PrintMore
set_option linter.unusedVariables false
set_option linter.unusedSimpArgs false

theorem as_calls (e t : Addr) (old : Value) (w : World) (hg : w.cell? ⟨12, 0, none⟩ = some (.iface 174 (.agg #[.pointer (some ⟨17, 25, none⟩)]))) (ht0 : w.cell? t = some old) (hf0 : w.frozen? t = false) :
    Calls Tryd.prog 72 #[.iface 100 (.pointer (some e)), .iface 102 (.pointer (some t))] w fun ev w' => ev = .returned (.bool true) ∧ ∃ w1, Below w.heap.size w w1 ∧ w' = w1.setCell t (.pointer (some e)) := by
  refine (as_hit e t old w hg ht0 hf0).mono fun ev w' ⟨h1, h2⟩ => ⟨h1, _, ?_, h2⟩
  exact below_alloc (below_alloc (below_alloc (below_alloc (Below.refl _ _) _) _) _) _

section
variable {P : Program} {ops : Array Oper} {Q : Exit → Act → World → Prop} {S : World → Prop} {ds : List Nat}
theorem start0_ {id n : Nat} {a : Act} {w : World} (S : World → Prop) (ds : List Nat) (l : Array Bool) (hm : P.follows .mixedOrders = true) (hn : ops.size = n) (hl : Array.replicate n false = l)
    (h : wpAnyLast P .any ops Q S ds n l a w.drew) : (Code.region id ops true).wp P Q a w := by
  subst hn
  subst hl
  exact wp_region_last hm h
end

/-- a reference's error: its number, the packages and the places -/
def WantAt (w : World) (v : Value) (n : Int) (l : List (ByteArray × Int)) : Prop :=
  ∃ Ao co Aa ca, v = .agg #[.int .i64 n, .slice Ao l.length co, .slice Aa l.length ca] ∧ Kd.C Kd.string w Ao l.length (l.map (·.1)) ∧ Kd.C (Kd.int .i64) w Aa l.length (l.map (·.2)) ∧ l.length ≤ co ∧ l.length ≤ ca
theorem WantAt.below {w w1 : World} {v : Value} {n : Int} {l : List (ByteArray × Int)} (h : WantAt w v n l) (hb : Below w.heap.size w w1) : WantAt w1 v n l := by
  obtain ⟨Ao, co, Aa, ca, e, h1, h2, h3⟩ := h
  exact ⟨Ao, co, Aa, ca, e, Kd.C_below h1 hb, Kd.C_below h2 hb, h3⟩
theorem new_calls (op : ByteArray) (pos n : Int) (w : World) :
    Calls Tryd.prog 18 #[.string op, .int .i64 pos, .int .i64 n] w fun e w' => ∃ v, e = .returned v ∧ WantAt w' v n [(op, pos)] ∧ Below w.heap.size w w' := by
  refine (GNat.edenraw_New.calls op pos n n [op] [pos] w rfl).mono ?_
  rintro e w' ⟨v1, v2, rfl, h1, h2, hb⟩
  obtain ⟨A1, c1, rfl, k1, r1⟩ := Kd.R_reads h1
  obtain ⟨A2, c2, rfl, k2, r2⟩ := Kd.R_reads h2
  exact ⟨_, rfl, ⟨A1, c1, A2, c2, rfl, r1, r2, k1, k2⟩, hb⟩

theorem isCompF : (Tryd.prog.info? 100).map (·.comparable) = some true := by kernel_rfl
theorem isSizeF : (Tryd.prog.info? 104).map (·.size) = some 3 := by kernel_rfl
theorem run_neq_iface_ptr_same {P : Program} (w : World) {ti tp te : TypeId} {ms : Array (String × TypeId)} {i j : TypeInfo} (a : Addr)
    (hi : P.underlying ti = some (.interface ms)) (hp : P.underlying tp = some (.pointer te)) (hinfo : P.info? tp = some i) (hcomp : i.comparable = true) (hte : P.info? te = some j) :
    (binOp .neq ti (.iface tp (.pointer (some a))) (.iface tp (.pointer (some a)))).run P w = .ok (.bool false) w := by
  simp only [binOp]
  simp [Op.equal, Op.maxDepth, run_equalIn_iface_ptr_same w 9998 a hi hp hinfo hcomp hte]
theorem neqFault (a : Addr) (w : World) : (binOp .neq 25 (.iface 100 (.pointer (some a))) (.iface 100 (.pointer (some a)))).run Tryd.prog w = .ok (.bool false) w := by
  obtain ⟨i, hi, hcmp⟩ := Option.map_eq_some_iff.1 isCompF
  obtain ⟨j, hj, hjs⟩ := Option.map_eq_some_iff.1 isSizeF
  exact run_neq_iface_ptr_same w a Tryd.underlying25 Tryd.underlying100 hi hcmp hj
theorem eqSent (a : Addr) (w : World) : (binOp .eql 25 (.iface 212 (.pointer (some a))) (.iface 212 (.pointer (some a)))).run Tryd.prog w = .ok (.bool true) w := by
  obtain ⟨i, hi, hcmp⟩ := Option.map_eq_some_iff.1 isComp
  obtain ⟨j, hj, hjs⟩ := Option.map_eq_some_iff.1 isSize
  exact run_eql_iface_ptr_same w a Tryd.underlying25 Tryd.underlying212 hi hcmp hj
theorem setCell_same_ {w : World} {a : Addr} {u v : Value} (h : w.cell? a = some u) : (w.setCell a v).cell? a = some v := by
  first | exact World.cell?_setCell_same h | exact World.cell?_setCell_same _ _ _ h | (rw [World.cell?_setCell_same h])
theorem atString {w : World} {A : Option Addr} {xs : List ByteArray} (h : Kd.C Kd.string w A xs.length xs) (i : Nat) (hi : i < xs.length) : ∃ ad, A = some ad ∧ w.cell? (ad.add i) = some (.string xs[i]) := by
  obtain ⟨ad, e, hc⟩ := Kd.at_string h (i : Int) (by omega) (by omega)
  refine ⟨ad, e, ?_⟩
  rw [Int.toNat_natCast] at hc
  rw [hc]
  simp [rdOf, List.getD_eq_getElem?_getD, List.getElem?_eq_getElem hi]

set_option maxHeartbeats 8000000 in
set_option maxRecDepth 100000 in
theorem isf_calls (S : Nat → Addr) (n : Int) (hn : Num n) (l : List (ByteArray × Int)) (v want : Value) (w : World) (hE : Env S w) (h : ErrAt S w n.toNat l v) (hw : WantAt w want n l) (hl : l.length < 1000000) :
    Calls Tryd.prog 16 #[v, want] w fun e w' => e = .returned (.bool true) ∧ Below w.heap.size w w' := by
  obtain ⟨Ao, co, Aa, ca, rfl, ho, ha, hco, hca⟩ := hw
  obtain ⟨t, x, rfl⟩ := h.form
  have HN := Aside0.mk hn
  have hnb : (n == 0) = false := by rw [beq_eq_false_iff_ne]; unfold Num at hn; omega
  have hB0 := below_alloc (Below.refl w.heap.size w) (.cells #[.int .i64 n, .slice Ao l.length co, .slice Aa l.length ca] 31)
  obtain ⟨w1, hw1⟩ : ∃ w1, w1 = w.alloc (.cells #[.int .i64 n, .slice Ao l.length co, .slice Aa l.length ca] 31) := ⟨_, rfl⟩
  have HB0 : Aside0 (Below w.heap.size w w1) := ⟨hw1 ▸ hB0⟩
  have HE1 := Aside0.mk (hE.below HB0.out)
  have HERR := Aside0.mk (h.below HB0.out)
  have HO := Aside0.mk (Kd.C_below ho HB0.out)
  have HA := Aside0.mk (Kd.C_below ha HB0.out)
  have b0 : w1.cell? ⟨w.heap.size, 0, none⟩ = some (.int .i64 n) := by rw [hw1]; simp
  have b1 : w1.cell? ⟨w.heap.size, 1, none⟩ = some (.slice Ao l.length co) := by rw [hw1]; simp
  have b2 : w1.cell? ⟨w.heap.size, 2, none⟩ = some (.slice Aa l.length ca) := by rw [hw1]; simp
  have HL := Aside0.mk hl
  have HC := Aside0.mk (And.intro hco hca)
  have HW1 := Aside0.mk hw1
  clear hn hE h ho ha hl hco hca hB0
  go_enter Tryd.func16, Tryd.ntmps16
  go_wp2_with fail
  rw [← hw1]
  clear hw1
  refine (root_calls S n HN.out _ HE1.out).mono ?_
  rintro e w' ⟨rfl, rfl⟩
  go_wp2_with fail
  refine (is_calls S n.toNat l _ _ HERR.out).mono ?_
  rintro e w' ⟨rfl, rfl⟩
  go_wp2_with fail
  go_loopg [0, 5] l.length (fun kq v0 v5 w' => ∃ i : Nat, v5 = .int .i64 i ∧ Aside0 (kq + i = l.length) ∧ Aside0 (ErrAt S w' n.toNat (l.drop i) v0) ∧ Aside0 (Below w1.heap.size w1 w'))
  case atStart => exact ⟨0, rfl, ⟨rfl⟩, HERR, ⟨Below.refl _ _⟩⟩
  case round =>
    obtain ⟨i, rfl, HK, HEr, HB⟩ := hrel
    replace b0 := (HB.out.cell (World.block_lt_of_cell? w1 _ b0)).trans b0
    replace b1 := (HB.out.cell (World.block_lt_of_cell? w1 _ b1)).trans b1
    replace b2 := (HB.out.cell (World.block_lt_of_cell? w1 _ b2)).trans b2
    have hib : i < 9223372036854775807 := by have := HK.out; have := HL.out; omega
    by_cases hlt : i < l.length
    · obtain ⟨k1, rfl⟩ : ∃ k1, gk = k1 + 1 := ⟨gk - 1, by have := HK.out; omega⟩
      obtain ⟨p, rest, hpr⟩ : ∃ p rest, l.drop i = p :: rest := ⟨l[i], l.drop (i + 1), List.drop_eq_getElem_cons hlt⟩
      have hp : p = l[i] := by have := List.drop_eq_getElem_cons hlt; rw [hpr] at this; exact (List.cons.inj this).1
      have hrest : rest = l.drop (i + 1) := by have := List.drop_eq_getElem_cons hlt; rw [hpr] at this; exact (List.cons.inj this).2
      rw [hpr] at HEr
      obtain ⟨b, v', rfl, c0, c1, c2, hrec⟩ := HEr.out
      have HREC := Aside0.mk (hrest ▸ hrec)
      obtain ⟨ado, eo, hos⟩ := atString (xs := l.map (·.1)) (by have := HO.out; simpa using this) i (by simpa using hlt)
      obtain ⟨ada, ea, has⟩ := Kd.at_int HA.out (i : Int) (by omega) (by omega)
      cases eo
      cases ea
      simp only [List.getElem_map] at hos
      rw [← hp] at hos
      have hrd : rd (l.map (·.2)) (i : Int) = p.2 := by simp [rd, List.getD_eq_getElem?_getD, List.getElem?_eq_getElem hlt, hp]
      rw [Int.toNat_natCast, hrd] at has
      replace hos := (HB.out.cell (World.block_lt_of_cell? w1 _ hos)).trans hos
      replace has := (HB.out.cell (World.block_lt_of_cell? w1 _ has)).trans has
      have HP := Aside0.mk hp
      clear hp hrest hpr hrec hrd HEr
      go_wp2_with fail
      refine start0_ (n := 38) (fun w' => w'.cell? ⟨wr.heap.size, 0, none⟩ = some (.pointer (some ⟨b, 0, none⟩)) ∧ w'.cell? ⟨b, 0, none⟩ = some (.string p.1) ∧ w'.cell? ⟨b, 1, none⟩ = some (.int .i64 p.2) ∧ w'.cell? ⟨w.heap.size, 1, none⟩ = some (.slice (some ado) l.length co) ∧ w'.cell? ⟨w.heap.size, 2, none⟩ = some (.slice (some ada) l.length ca) ∧ w'.cell? (ado.add i) = some (.string p.1) ∧ w'.cell? (ada.add i) = some (.int .i64 p.2)) [] #[false, false, false, false, false, false, false, false, false, false, false, false, false, false, false, false, false, false, false, false, false, false, false, false, false, false, false, false, false, false, false, false, false, false, false, false, false, false] (by kernel_rfl) rfl rfl ?_
      obtain ⟨w2, hw2⟩ : ∃ w2, w2 = (wr.alloc (.cells #[.pointer none] 100)).drew := ⟨_, rfl⟩
      rw [← hw2]
      have HB2 : Aside0 (Below wr.heap.size wr w2) := ⟨by rw [hw2]; exact below_drew (below_alloc (Below.refl _ _) _)⟩
      have HCF : Aside0 (w2.cell? ⟨wr.heap.size, 0, none⟩ = some (.pointer none)) := ⟨by rw [hw2]; simp⟩
      have HFZ : Aside0 (w2.frozen? ⟨wr.heap.size, 0, none⟩ = false) := ⟨by rw [hw2]; simp⟩
      have HET := Aside0.mk ((HE1.out.below HB.out).below HB2.out).et
      clear hw2
      have HSS : Aside0 (∀ w3 w' : World, Below w2.heap.size w2 w3 → w' = w3.setCell ⟨wr.heap.size, 0, none⟩ (.pointer (some ⟨b, 0, none⟩)) → Below wr.heap.size wr w' ∧ w'.cell? ⟨wr.heap.size, 0, none⟩ = some (.pointer (some ⟨b, 0, none⟩))) := ⟨by
        intro w3 w' h3 hw'
        have hb3 := below_step HB2.out h3
        refine ⟨?_, ?_⟩
        · rw [hw']; exact below_set hb3 (Nat.le_refl _)
        · rw [hw']; exact setCell_same_ ((h3.cell (World.block_lt_of_cell? w2 _ HCF.out)).trans HCF.out)⟩
      have HCELLS := Aside0.mk (And.intro c0 (And.intro c1 (And.intro b1 (And.intro b2 (And.intro hos has)))))
      have nF := neqFault ⟨b, 0, none⟩
      have hne1 : (p.2 != p.2) = false := bne_self_eq_false p.2
      refine pure_ (i := 0) (N := (some 29)) (v := ?_) (a' := ?_) #[true, false, false, false, false, false, false, false, false, false, false, false, false, false, false, false, false, false, false, false, false, false, false, false, false, false, false, false, false, false, false, false, false, false, false, false, false, false] rfl rfl (by kernel_rfl) (fun _ _ _ h => h) (Or.inl ⟨by rfl, ?_⟩) ?_ ?_
      rotate_left
      · intro w'
        go_simp
        with_reducible rfl
      rotate_left
      · simp only [Act.put, List.setIfInBounds_toArray, List.set_cons_zero, List.set_cons_succ, i64_w, i32_w]
        rfl
      refine pure_ (i := 1) (N := (some 30)) (v := ?_) (a' := ?_) #[true, true, false, false, false, false, false, false, false, false, false, false, false, false, false, false, false, false, false, false, false, false, false, false, false, false, false, false, false, false, false, false, false, false, false, false, false, false] rfl rfl (by kernel_rfl) (fun _ _ _ h => h) (Or.inl ⟨by rfl, ?_⟩) ?_ ?_
      rotate_left
      · intro w'
        go_simp
        with_reducible rfl
      rotate_left
      · simp only [Act.put, List.setIfInBounds_toArray, List.set_cons_zero, List.set_cons_succ, i64_w, i32_w]
        rfl
      refine one_ (i := 2) (N := (some 31)) #[true, true, true, false, false, false, false, false, false, false, false, false, false, false, false, false, false, false, false, false, false, false, false, false, false, false, false, false, false, false, false, false, false, false, false, false, false, false] rfl rfl (by kernel_rfl) (by decide) (fun K hK => ?_)
      have hcf : w2.cell? ⟨wr.heap.size, 0, none⟩ = some (.pointer none) := HCF.out
      refine goes_ Tryd.func72 (by kernel_rfl) rfl #[.iface 100 (.pointer (some ⟨b, 0, none⟩)), .iface 102 (.pointer (some ⟨wr.heap.size, 0, none⟩))] (by rfl) rfl rfl (by (try simp only [List.map_toArray, List.map_cons, List.map_nil]); first | done | rfl) ?_
      with_reducible refine (as_calls ⟨b, 0, none⟩ ⟨wr.heap.size, 0, none⟩ (.pointer none) _ HET.out hcf HFZ.out).mono ?_
      rintro e w' ⟨rfl, w3, hb3, hw'⟩
      refine ⟨_, rfl, ?_⟩
      have HW3 := Aside0.mk hw'
      have HB3 := Aside0.mk hb3
      clear hcf hw' hb3
      have HBW := Aside0.mk (HSS.out w3 w' HB3.out HW3.out).1
      have HTC := (HSS.out w3 w' HB3.out HW3.out).2
      refine hK.out _ _ ⟨HTC, pw_cell_below HBW.out HCELLS.out.1, pw_cell_below HBW.out HCELLS.out.2.1, pw_cell_below HBW.out HCELLS.out.2.2.1, pw_cell_below HBW.out HCELLS.out.2.2.2.1, pw_cell_below HBW.out HCELLS.out.2.2.2.2.1, pw_cell_below HBW.out HCELLS.out.2.2.2.2.2⟩ (fun hHeld => ?_)
      clear hK K HTC HSS HCELLS HW3 HB3
      refine norm_ (a' := ?_) ?_ ?_
      rotate_left
      · show Act.put _ (some 31) _ = _
        simp only [Act.put, List.setIfInBounds_toArray, List.set_cons_zero, List.set_cons_succ, i64_w, i32_w]
        rfl
      refine pure_ (i := 3) (N := (some 32)) (v := ?_) (a' := ?_) #[true, true, true, true, false, false, false, false, false, false, false, false, false, false, false, false, false, false, false, false, false, false, false, false, false, false, false, false, false, false, false, false, false, false, false, false, false, false] rfl rfl (by kernel_rfl) (fun _ _ _ h => h) (Or.inl ⟨by rfl, ?_⟩) ?_ ?_
      rotate_left
      · intro w'
        go_simp
        with_reducible rfl
      rotate_left
      · simp only [Act.put, List.setIfInBounds_toArray, List.set_cons_zero, List.set_cons_succ, i64_w, i32_w]
        rfl
      refine pure_ (i := 4) (N := (some 33)) (v := ?_) (a' := ?_) #[true, true, true, true, true, false, false, false, false, false, false, false, false, false, false, false, false, false, false, false, false, false, false, false, false, false, false, false, false, false, false, false, false, false, false, false, false, false] rfl rfl (by kernel_rfl) (fun _ _ _ h => h) (Or.inl ⟨by rfl, ?_⟩) ?_ ?_
      rotate_left
      · intro w'
        go_simp
        with_reducible rfl
      rotate_left
      · simp only [Act.put, List.setIfInBounds_toArray, List.set_cons_zero, List.set_cons_succ, i64_w, i32_w]
        rfl
      refine take_ (i := 5) (N := (some 34)) (v := ?_) (a' := ?_) #[true, true, true, true, true, true, false, false, false, false, false, false, false, false, false, false, false, false, false, false, false, false, false, false, false, false, false, false, false, false, false, false, false, false, false, false, false, false] rfl rfl (by kernel_rfl) (fun _ _ _ h => h) (Or.inl ⟨by rfl, ?_⟩) hHeld ?_ ?_
      rotate_left
      · rintro w' ⟨s0, s1, s2, s3, s4, s5, s6⟩
        go_simp
        with_reducible rfl
      rotate_left
      · simp only [Act.put, List.setIfInBounds_toArray, List.set_cons_zero, List.set_cons_succ, i64_w, i32_w]
        rfl
      refine pure_ (i := 6) (N := (some 35)) (v := ?_) (a' := ?_) #[true, true, true, true, true, true, true, false, false, false, false, false, false, false, false, false, false, false, false, false, false, false, false, false, false, false, false, false, false, false, false, false, false, false, false, false, false, false] rfl rfl (by kernel_rfl) (fun _ _ _ h => h) (Or.inl ⟨by rfl, ?_⟩) ?_ ?_
      rotate_left
      · intro w'
        go_simp
        with_reducible rfl
      rotate_left
      · simp only [Act.put, List.setIfInBounds_toArray, List.set_cons_zero, List.set_cons_succ, i64_w, i32_w]
        rfl
      refine pure_ (i := 7) (N := (some 36)) (v := ?_) (a' := ?_) #[true, true, true, true, true, true, true, true, false, false, false, false, false, false, false, false, false, false, false, false, false, false, false, false, false, false, false, false, false, false, false, false, false, false, false, false, false, false] rfl rfl (by kernel_rfl) (fun _ _ _ h => h) (Or.inl ⟨by rfl, ?_⟩) ?_ ?_
      rotate_left
      · intro w'
        go_simp
        with_reducible rfl
      rotate_left
      · simp only [Act.put, List.setIfInBounds_toArray, List.set_cons_zero, List.set_cons_succ, i64_w, i32_w]
        rfl
      refine pure_ (i := 8) (N := (some 37)) (v := ?_) (a' := ?_) #[true, true, true, true, true, true, true, true, true, false, false, false, false, false, false, false, false, false, false, false, false, false, false, false, false, false, false, false, false, false, false, false, false, false, false, false, false, false] rfl rfl (by kernel_rfl) (fun _ _ _ h => h) (Or.inl ⟨by rfl, ?_⟩) ?_ ?_
      rotate_left
      · intro w'
        go_simp
        with_reducible rfl
      rotate_left
      · simp only [Act.put, List.setIfInBounds_toArray, List.set_cons_zero, List.set_cons_succ, i64_w, i32_w]
        rfl
      refine pure_ (i := 9) (N := (some 38)) (v := ?_) (a' := ?_) #[true, true, true, true, true, true, true, true, true, true, false, false, false, false, false, false, false, false, false, false, false, false, false, false, false, false, false, false, false, false, false, false, false, false, false, false, false, false] rfl rfl (by kernel_rfl) (fun _ _ _ h => h) (Or.inl ⟨by rfl, ?_⟩) ?_ ?_
      rotate_left
      · intro w'
        go_simp
        with_reducible rfl
      rotate_left
      · simp only [Act.put, List.setIfInBounds_toArray, List.set_cons_zero, List.set_cons_succ, i64_w, i32_w]
        rfl
      refine take_ (i := 10) (N := (some 39)) (v := ?_) (a' := ?_) #[true, true, true, true, true, true, true, true, true, true, true, false, false, false, false, false, false, false, false, false, false, false, false, false, false, false, false, false, false, false, false, false, false, false, false, false, false, false] rfl rfl (by kernel_rfl) (fun _ _ _ h => h) (Or.inl ⟨by rfl, ?_⟩) hHeld ?_ ?_
      rotate_left
      · rintro w' ⟨s0, s1, s2, s3, s4, s5, s6⟩
        go_simp
        with_reducible rfl
      rotate_left
      · simp only [Act.put, List.setIfInBounds_toArray, List.set_cons_zero, List.set_cons_succ, i64_w, i32_w]
        rfl
      refine pure_ (i := 11) (N := (some 40)) (v := ?_) (a' := ?_) #[true, true, true, true, true, true, true, true, true, true, true, true, false, false, false, false, false, false, false, false, false, false, false, false, false, false, false, false, false, false, false, false, false, false, false, false, false, false] rfl rfl (by kernel_rfl) (fun _ _ _ h => h) (Or.inl ⟨by rfl, ?_⟩) ?_ ?_
      rotate_left
      · intro w'
        go_simp
        with_reducible rfl
      rotate_left
      · simp only [Act.put, List.setIfInBounds_toArray, List.set_cons_zero, List.set_cons_succ, i64_w, i32_w]
        rfl
      refine pure_ (i := 12) (N := (some 41)) (v := ?_) (a' := ?_) #[true, true, true, true, true, true, true, true, true, true, true, true, true, false, false, false, false, false, false, false, false, false, false, false, false, false, false, false, false, false, false, false, false, false, false, false, false, false] rfl rfl (by kernel_rfl) (fun _ _ _ h => h) (Or.inl ⟨by rfl, ?_⟩) ?_ ?_
      rotate_left
      · intro w'
        go_simp
        with_reducible rfl
      rotate_left
      · simp only [Act.put, List.setIfInBounds_toArray, List.set_cons_zero, List.set_cons_succ, i64_w, i32_w]
        rfl
      refine pure_ (i := 13) (N := (some 42)) (v := ?_) (a' := ?_) #[true, true, true, true, true, true, true, true, true, true, true, true, true, true, false, false, false, false, false, false, false, false, false, false, false, false, false, false, false, false, false, false, false, false, false, false, false, false] rfl rfl (by kernel_rfl) (fun _ _ _ h => h) (Or.inl ⟨by rfl, ?_⟩) ?_ ?_
      rotate_left
      · intro w'
        go_simp
        with_reducible rfl
      rotate_left
      · simp only [Act.put, List.setIfInBounds_toArray, List.set_cons_zero, List.set_cons_succ, i64_w, i32_w]
        rfl
      refine pure_ (i := 14) (N := (some 43)) (v := ?_) (a' := ?_) #[true, true, true, true, true, true, true, true, true, true, true, true, true, true, true, false, false, false, false, false, false, false, false, false, false, false, false, false, false, false, false, false, false, false, false, false, false, false] rfl rfl (by kernel_rfl) (fun _ _ _ h => h) (Or.inl ⟨by rfl, ?_⟩) ?_ ?_
      rotate_left
      · intro w'
        go_simp
        with_reducible rfl
      rotate_left
      · simp only [Act.put, List.setIfInBounds_toArray, List.set_cons_zero, List.set_cons_succ, i64_w, i32_w]
        rfl
      refine take_ (i := 15) (N := (some 44)) (v := ?_) (a' := ?_) #[true, true, true, true, true, true, true, true, true, true, true, true, true, true, true, true, false, false, false, false, false, false, false, false, false, false, false, false, false, false, false, false, false, false, false, false, false, false] rfl rfl (by kernel_rfl) (fun _ _ _ h => h) (Or.inl ⟨by rfl, ?_⟩) hHeld ?_ ?_
      rotate_left
      · rintro w' ⟨s0, s1, s2, s3, s4, s5, s6⟩
        go_simp
        with_reducible rfl
      rotate_left
      · simp only [Act.put, List.setIfInBounds_toArray, List.set_cons_zero, List.set_cons_succ, i64_w, i32_w]
        rfl
      refine pure_ (i := 16) (N := (some 45)) (v := ?_) (a' := ?_) #[true, true, true, true, true, true, true, true, true, true, true, true, true, true, true, true, true, false, false, false, false, false, false, false, false, false, false, false, false, false, false, false, false, false, false, false, false, false] rfl rfl (by kernel_rfl) (fun _ _ _ h => h) (Or.inl ⟨by rfl, ?_⟩) ?_ ?_
      rotate_left
      · intro w'
        go_simp
        with_reducible rfl
      rotate_left
      · simp only [Act.put, List.setIfInBounds_toArray, List.set_cons_zero, List.set_cons_succ, i64_w, i32_w]
        rfl
      refine pure_ (i := 17) (N := (some 46)) (v := ?_) (a' := ?_) #[true, true, true, true, true, true, true, true, true, true, true, true, true, true, true, true, true, true, false, false, false, false, false, false, false, false, false, false, false, false, false, false, false, false, false, false, false, false] rfl rfl (by kernel_rfl) (fun _ _ _ h => h) (Or.inl ⟨by rfl, ?_⟩) ?_ ?_
      rotate_left
      · intro w'
        go_simp
        with_reducible rfl
      rotate_left
      · simp only [Act.put, List.setIfInBounds_toArray, List.set_cons_zero, List.set_cons_succ, i64_w, i32_w]
        rfl
      refine take_ (i := 18) (N := (some 47)) (v := ?_) (a' := ?_) #[true, true, true, true, true, true, true, true, true, true, true, true, true, true, true, true, true, true, true, false, false, false, false, false, false, false, false, false, false, false, false, false, false, false, false, false, false, false] rfl rfl (by kernel_rfl) (fun _ _ _ h => h) (Or.inl ⟨by rfl, ?_⟩) hHeld ?_ ?_
      rotate_left
      · rintro w' ⟨s0, s1, s2, s3, s4, s5, s6⟩
        go_simp
        with_reducible rfl
      rotate_left
      · simp only [Act.put, List.setIfInBounds_toArray, List.set_cons_zero, List.set_cons_succ, i64_w, i32_w]
        rfl
      refine pure_ (i := 19) (N := (some 48)) (v := ?_) (a' := ?_) #[true, true, true, true, true, true, true, true, true, true, true, true, true, true, true, true, true, true, true, true, false, false, false, false, false, false, false, false, false, false, false, false, false, false, false, false, false, false] rfl rfl (by kernel_rfl) (fun _ _ _ h => h) (Or.inl ⟨by rfl, ?_⟩) ?_ ?_
      rotate_left
      · intro w'
        go_simp
        with_reducible rfl
      rotate_left
      · simp only [Act.put, List.setIfInBounds_toArray, List.set_cons_zero, List.set_cons_succ, i64_w, i32_w]
        rfl
      refine take_ (i := 20) (N := (some 49)) (v := ?_) (a' := ?_) #[true, true, true, true, true, true, true, true, true, true, true, true, true, true, true, true, true, true, true, true, true, false, false, false, false, false, false, false, false, false, false, false, false, false, false, false, false, false] rfl rfl (by kernel_rfl) (fun _ _ _ h => h) (Or.inl ⟨by rfl, ?_⟩) hHeld ?_ ?_
      rotate_left
      · rintro w' ⟨s0, s1, s2, s3, s4, s5, s6⟩
        go_simp
        with_reducible rfl
      rotate_left
      · simp only [Act.put, List.setIfInBounds_toArray, List.set_cons_zero, List.set_cons_succ, i64_w, i32_w]
        rfl
      refine pure_ (i := 21) (N := (some 50)) (v := ?_) (a' := ?_) #[true, true, true, true, true, true, true, true, true, true, true, true, true, true, true, true, true, true, true, true, true, true, false, false, false, false, false, false, false, false, false, false, false, false, false, false, false, false] rfl rfl (by kernel_rfl) (fun _ _ _ h => h) (Or.inl ⟨by rfl, ?_⟩) ?_ ?_
      rotate_left
      · intro w'
        go_simp
        with_reducible rfl
      rotate_left
      · simp only [Act.put, List.setIfInBounds_toArray, List.set_cons_zero, List.set_cons_succ, i64_w, i32_w]
        rfl
      refine pure_ (i := 22) (N := (some 51)) (v := ?_) (a' := ?_) #[true, true, true, true, true, true, true, true, true, true, true, true, true, true, true, true, true, true, true, true, true, true, true, false, false, false, false, false, false, false, false, false, false, false, false, false, false, false] rfl rfl (by kernel_rfl) (fun _ _ _ h => h) (Or.inl ⟨by rfl, ?_⟩) ?_ ?_
      rotate_left
      · intro w'
        go_simp
        with_reducible rfl
      rotate_left
      · simp only [Act.put, List.setIfInBounds_toArray, List.set_cons_zero, List.set_cons_succ, i64_w, i32_w]
        rfl
      refine take_ (i := 23) (N := (some 52)) (v := ?_) (a' := ?_) #[true, true, true, true, true, true, true, true, true, true, true, true, true, true, true, true, true, true, true, true, true, true, true, true, false, false, false, false, false, false, false, false, false, false, false, false, false, false] rfl rfl (by kernel_rfl) (fun _ _ _ h => h) (Or.inl ⟨by rfl, ?_⟩) hHeld ?_ ?_
      rotate_left
      · rintro w' ⟨s0, s1, s2, s3, s4, s5, s6⟩
        go_simp
        with_reducible rfl
      rotate_left
      · simp only [Act.put, List.setIfInBounds_toArray, List.set_cons_zero, List.set_cons_succ, i64_w, i32_w]
        rfl
      refine pure_ (i := 24) (N := (some 53)) (v := ?_) (a' := ?_) #[true, true, true, true, true, true, true, true, true, true, true, true, true, true, true, true, true, true, true, true, true, true, true, true, true, false, false, false, false, false, false, false, false, false, false, false, false, false] rfl rfl (by kernel_rfl) (fun _ _ _ h => h) (Or.inl ⟨by rfl, ?_⟩) ?_ ?_
      rotate_left
      · intro w'
        go_simp
        with_reducible rfl
      rotate_left
      · simp only [Act.put, List.setIfInBounds_toArray, List.set_cons_zero, List.set_cons_succ, i64_w, i32_w]
        rfl
      refine pure_ (i := 25) (N := (some 54)) (v := ?_) (a' := ?_) #[true, true, true, true, true, true, true, true, true, true, true, true, true, true, true, true, true, true, true, true, true, true, true, true, true, true, false, false, false, false, false, false, false, false, false, false, false, false] rfl rfl (by kernel_rfl) (fun _ _ _ h => h) (Or.inl ⟨by rfl, ?_⟩) ?_ ?_
      rotate_left
      · intro w'
        go_simp
        with_reducible rfl
      rotate_left
      · simp only [Act.put, List.setIfInBounds_toArray, List.set_cons_zero, List.set_cons_succ, i64_w, i32_w]
        rfl
      refine pure_ (i := 26) (N := (some 55)) (v := ?_) (a' := ?_) #[true, true, true, true, true, true, true, true, true, true, true, true, true, true, true, true, true, true, true, true, true, true, true, true, true, true, true, false, false, false, false, false, false, false, false, false, false, false] rfl rfl (by kernel_rfl) (fun _ _ _ h => h) (Or.inl ⟨by rfl, ?_⟩) ?_ ?_
      rotate_left
      · intro w'
        go_simp
        with_reducible rfl
      rotate_left
      · simp only [Act.put, List.setIfInBounds_toArray, List.set_cons_zero, List.set_cons_succ, i64_w, i32_w]
        rfl
      refine take_ (i := 27) (N := (some 56)) (v := ?_) (a' := ?_) #[true, true, true, true, true, true, true, true, true, true, true, true, true, true, true, true, true, true, true, true, true, true, true, true, true, true, true, true, false, false, false, false, false, false, false, false, false, false] rfl rfl (by kernel_rfl) (fun _ _ _ h => h) (Or.inl ⟨by rfl, ?_⟩) hHeld ?_ ?_
      rotate_left
      · rintro w' ⟨s0, s1, s2, s3, s4, s5, s6⟩
        go_simp
        with_reducible rfl
      rotate_left
      · simp only [Act.put, List.setIfInBounds_toArray, List.set_cons_zero, List.set_cons_succ, i64_w, i32_w]
        rfl
      refine pure_ (i := 28) (N := (some 57)) (v := ?_) (a' := ?_) #[true, true, true, true, true, true, true, true, true, true, true, true, true, true, true, true, true, true, true, true, true, true, true, true, true, true, true, true, true, false, false, false, false, false, false, false, false, false] rfl rfl (by kernel_rfl) (fun _ _ _ h => h) (Or.inl ⟨by rfl, ?_⟩) ?_ ?_
      rotate_left
      · intro w'
        go_simp
        with_reducible rfl
      rotate_left
      · simp only [Act.put, List.setIfInBounds_toArray, List.set_cons_zero, List.set_cons_succ, i64_w, i32_w]
        rfl
      refine pure_ (i := 29) (N := (some 58)) (v := ?_) (a' := ?_) #[true, true, true, true, true, true, true, true, true, true, true, true, true, true, true, true, true, true, true, true, true, true, true, true, true, true, true, true, true, true, false, false, false, false, false, false, false, false] rfl rfl (by kernel_rfl) (fun _ _ _ h => h) (Or.inl ⟨by rfl, ?_⟩) ?_ ?_
      rotate_left
      · intro w'
        go_simp
        with_reducible rfl
      rotate_left
      · simp only [Act.put, List.setIfInBounds_toArray, List.set_cons_zero, List.set_cons_succ, i64_w, i32_w]
        rfl
      refine take_ (i := 30) (N := (some 59)) (v := ?_) (a' := ?_) #[true, true, true, true, true, true, true, true, true, true, true, true, true, true, true, true, true, true, true, true, true, true, true, true, true, true, true, true, true, true, true, false, false, false, false, false, false, false] rfl rfl (by kernel_rfl) (fun _ _ _ h => h) (Or.inl ⟨by rfl, ?_⟩) hHeld ?_ ?_
      rotate_left
      · rintro w' ⟨s0, s1, s2, s3, s4, s5, s6⟩
        go_simp
        with_reducible rfl
      rotate_left
      · simp only [Act.put, List.setIfInBounds_toArray, List.set_cons_zero, List.set_cons_succ, i64_w, i32_w]
        rfl
      refine pure_ (i := 31) (N := (some 60)) (v := ?_) (a' := ?_) #[true, true, true, true, true, true, true, true, true, true, true, true, true, true, true, true, true, true, true, true, true, true, true, true, true, true, true, true, true, true, true, true, false, false, false, false, false, false] rfl rfl (by kernel_rfl) (fun _ _ _ h => h) (Or.inl ⟨by rfl, ?_⟩) ?_ ?_
      rotate_left
      · intro w'
        go_simp
        with_reducible rfl
      rotate_left
      · simp only [Act.put, List.setIfInBounds_toArray, List.set_cons_zero, List.set_cons_succ, i64_w, i32_w]
        rfl
      refine take_ (i := 32) (N := (some 61)) (v := ?_) (a' := ?_) #[true, true, true, true, true, true, true, true, true, true, true, true, true, true, true, true, true, true, true, true, true, true, true, true, true, true, true, true, true, true, true, true, true, false, false, false, false, false] rfl rfl (by kernel_rfl) (fun _ _ _ h => h) (Or.inl ⟨by rfl, ?_⟩) hHeld ?_ ?_
      rotate_left
      · rintro w' ⟨s0, s1, s2, s3, s4, s5, s6⟩
        go_simp
        with_reducible rfl
      rotate_left
      · simp only [Act.put, List.setIfInBounds_toArray, List.set_cons_zero, List.set_cons_succ, i64_w, i32_w]
        rfl
      refine pure_ (i := 33) (N := (some 62)) (v := ?_) (a' := ?_) #[true, true, true, true, true, true, true, true, true, true, true, true, true, true, true, true, true, true, true, true, true, true, true, true, true, true, true, true, true, true, true, true, true, true, false, false, false, false] rfl rfl (by kernel_rfl) (fun _ _ _ h => h) (Or.inl ⟨by rfl, ?_⟩) ?_ ?_
      rotate_left
      · intro w'
        go_simp
        with_reducible rfl
      rotate_left
      · simp only [Act.put, List.setIfInBounds_toArray, List.set_cons_zero, List.set_cons_succ, i64_w, i32_w]
        rfl
      refine pure_ (i := 34) (N := (some 63)) (v := ?_) (a' := ?_) #[true, true, true, true, true, true, true, true, true, true, true, true, true, true, true, true, true, true, true, true, true, true, true, true, true, true, true, true, true, true, true, true, true, true, true, false, false, false] rfl rfl (by kernel_rfl) (fun _ _ _ h => h) (Or.inl ⟨by rfl, ?_⟩) ?_ ?_
      rotate_left
      · intro w'
        go_simp
        with_reducible rfl
      rotate_left
      · simp only [Act.put, List.setIfInBounds_toArray, List.set_cons_zero, List.set_cons_succ, i64_w, i32_w]
        rfl
      refine take_ (i := 35) (N := (some 64)) (v := ?_) (a' := ?_) #[true, true, true, true, true, true, true, true, true, true, true, true, true, true, true, true, true, true, true, true, true, true, true, true, true, true, true, true, true, true, true, true, true, true, true, true, false, false] rfl rfl (by kernel_rfl) (fun _ _ _ h => h) (Or.inl ⟨by rfl, ?_⟩) hHeld ?_ ?_
      rotate_left
      · rintro w' ⟨s0, s1, s2, s3, s4, s5, s6⟩
        go_simp
        with_reducible rfl
      rotate_left
      · simp only [Act.put, List.setIfInBounds_toArray, List.set_cons_zero, List.set_cons_succ, i64_w, i32_w]
        rfl
      refine pure_ (i := 36) (N := (some 65)) (v := ?_) (a' := ?_) #[true, true, true, true, true, true, true, true, true, true, true, true, true, true, true, true, true, true, true, true, true, true, true, true, true, true, true, true, true, true, true, true, true, true, true, true, true, false] rfl rfl (by kernel_rfl) (fun _ _ _ h => h) (Or.inl ⟨by rfl, ?_⟩) ?_ ?_
      rotate_left
      · intro w'
        go_simp
        with_reducible rfl
      rotate_left
      · simp only [Act.put, List.setIfInBounds_toArray, List.set_cons_zero, List.set_cons_succ, i64_w, i32_w]
        rfl
      refine pure_ (i := 37) (N := (some 66)) (v := ?_) (a' := ?_) #[true, true, true, true, true, true, true, true, true, true, true, true, true, true, true, true, true, true, true, true, true, true, true, true, true, true, true, true, true, true, true, true, true, true, true, true, true, true] rfl rfl (by kernel_rfl) (fun _ _ _ h => h) (Or.inl ⟨by rfl, ?_⟩) ?_ ?_
      rotate_left
      · intro w'
        go_simp
        with_reducible rfl
      rotate_left
      · simp only [Act.put, List.setIfInBounds_toArray, List.set_cons_zero, List.set_cons_succ, i64_w, i32_w]
        rfl
      refine done_ (by kernel_rfl) ?_
      obtain ⟨s0, s1, s2, s3, s4, s5, s6⟩ := hHeld
      have c2' := pw_cell_below HBW.out c2
      clear s1 s2 s3 s4 s5 s6 c0 c1 c2 b0 b1 b2 hos has
      go_wp2_with fail
      go_roundg k1
      case measure => omega
      case rel => exact ⟨i + 1, by go_num, ⟨by have := HK.out; omega⟩, ⟨HREC.out.below HBW.out⟩, ⟨below_step HB.out HBW.out⟩⟩
    · obtain rfl : i = l.length := by have := HK.out; omega
      have he := HEr.out
      rw [List.drop_length] at he
      simp only [ErrAt] at he
      subst he
      have eS := eqSent (S n.toNat)
      clear HEr HO HA
      go_wp2_with fail
      refine (root_calls S n HN.out _ (HE1.out.below HB.out)).mono ?_
      rintro e w' ⟨rfl, rfl⟩
      go_wp2_with fail
      go_ret
      exact ⟨rfl, below_then HB0.out HB0.out.size HB.out⟩
end Go.Proofs.YtmnmmalffpimeaaDoor

/- Errors and the documents' errors, both of them perhaps none; a box of three cells that holds a document's error. -/
namespace Go.Proofs.YtmnmmalffpimeaaDoor
open Go.RowKit Go.Extern.Stop Go.Stop Go.Extern Go.Proofs.YtmnmmalffpimeaaDoorW.PrintWords Go.Proofs.YtmnmmalffpimeaaDoorW.PrintLast Go.Proofs.YtmnmmalffpimeaaDoorW.PrintMore
set_option linter.unusedVariables false
set_option linter.unusedSimpArgs false

/-- stops a walk at an operation -/
def Hold (p : Prop) : Prop := p
theorem print_hold {p : Prop} (h : Hold p) : p := h
/-- an error's number and its frames, or none -/
abbrev Fr := Option (Int × List (ByteArray × Int))
def ErrV (S : Nat → Addr) (w : World) (v : Value) : Fr → Prop
  | none => v = .nilIface
  | some (n, l) => Num n ∧ l.length < 1000000 ∧ ErrAt S w n.toNat l v
def WantV (w : World) (v : Value) : Fr → Prop
  | none => v = .agg #[.int .i64 0, .slice none 0 0, .slice none 0 0]
  | some (n, l) => WantAt w v n l
/-- .. in blocks from b on -/
def WantF (w : World) (b : Nat) (v : Value) (o : Fr) : Prop := Foot (fun W => WantV W v o) w (fun k => b ≤ k)
theorem ErrV.below {S : Nat → Addr} {w w1 : World} {v : Value} {o : Fr} (h : ErrV S w v o) (hb : Below w.heap.size w w1) : ErrV S w1 v o := by
  cases o with
  | none => exact h
  | some p => exact ⟨h.1, h.2.1, h.2.2.below hb⟩
theorem ErrV.form {S : Nat → Addr} {w : World} {v : Value} {o : Fr} (h : ErrV S w v o) : v = .nilIface ∨ ∃ t x, v = .iface t x := by
  cases o with
  | none => exact .inl h
  | some p =>
    obtain ⟨t, x, e⟩ := h.2.2.form
    exact .inr ⟨t, x, e⟩
theorem WantF.now {w : World} {b : Nat} {v : Value} {o : Fr} (h : WantF w b v o) : WantV w v o := Foot.now h
theorem WantF.below {w w1 : World} {b : Nat} {v : Value} {o : Fr} (h : WantF w b v o) (hb : Below w.heap.size w w1) : WantF w1 b v o := Foot.step h (fun k _ hlt => hb.block k hlt)
theorem WantF.lower {w : World} {b b' : Nat} {v : Value} {o : Fr} (h : WantF w b v o) (hb : b' ≤ b) : WantF w b' v o := Foot.mono h (fun k hk => Nat.le_trans hb hk)
theorem WantF.far {w : World} {b : Nat} {v : Value} {o : Fr} (h : WantF w b v o) {p : Addr} (hp : p.block < b) (u : Value) : WantF (w.setCell p u) b v o :=
  Foot.step h (fun k hk _ => Below.heap_setCell w p u k (by omega))
theorem WantF.nil (w : World) (b : Nat) : WantF w b (.agg #[.int .i64 0, .slice none 0 0, .slice none 0 0]) none := fun _ _ => rfl
theorem WantV.form {w : World} {v : Value} {o : Fr} (h : WantV w v o) : ∃ n A1 n1 c1 A2 n2 c2, v = .agg #[.int .i64 n, .slice A1 n1 c1, .slice A2 n2 c2] ∧ (n = match o with | none => 0 | some (n, _) => n) := by
  cases o with
  | none => exact ⟨0, none, 0, 0, none, 0, 0, h, rfl⟩
  | some p =>
    obtain ⟨n, l⟩ := p
    obtain ⟨Ao, co, Aa, ca, e, _⟩ := h
    exact ⟨n, Ao, l.length, co, Aa, l.length, ca, e, rfl⟩

theorem new_F (op : ByteArray) (pos n : Int) (w : World) :
    Calls Tryd.prog 18 #[.string op, .int .i64 pos, .int .i64 n] w fun e w' => ∃ v, e = .returned v ∧ WantF w' w.heap.size v (some (n, [(op, pos)])) ∧ Below w.heap.size w w' := by
  refine (GNat.edenraw_New.calls op pos n n [op] [pos] w rfl).mono ?_
  rintro e w' ⟨v1, v2, rfl, h1, h2, hb⟩
  obtain ⟨A1, c1, rfl, k1, r1⟩ := Kd.R_reads h1
  obtain ⟨A2, c2, rfl, k2, r2⟩ := Kd.R_reads h2
  refine ⟨_, rfl, fun W' hW => ?_, hb⟩
  have r1' := Kd.R_reads' (Kd.R_step (Kd.R_mono (Kd.R_bound h1) (fun k hk => (show w.heap.size ≤ k from hk.2.1))) hW)
  have r2' := Kd.R_reads' (Kd.R_step (Kd.R_mono (Kd.R_bound h2) (fun k hk => (show w.heap.size ≤ k from hk.2.1))) hW)
  exact ⟨A1, c1, A2, c2, rfl, r1'.2.2, r2'.2.2, k1, k2⟩

set_option maxHeartbeats 1000000 in
set_option maxRecDepth 100000 in
theorem is_nil (w : World) (u v : Value) (hu : u.oneCell' = true) (hv : v.oneCell' = true) : Calls Tryd.prog 16 #[.nilIface, .agg #[.int .i64 0, u, v]] w fun e w' => e = .returned (.bool true) ∧ Below w.heap.size w w' := by
  go_enter Tryd.func16, Tryd.ntmps16
  go_wp2_with fail
  go_ret
  exact ⟨rfl, below_alloc (Below.refl _ _) _⟩
theorem both_is (S : Nat → Addr) (o : Fr) (v want : Value) (w : World) (hE : Env S w) (h : ErrV S w v o) (hw : WantV w want o) :
    Calls Tryd.prog 16 #[v, want] w fun e w' => e = .returned (.bool true) ∧ Below w.heap.size w w' := by
  cases o with
  | none =>
    have h1 : v = .nilIface := h
    have h2 : want = .agg #[.int .i64 0, .slice none 0 0, .slice none 0 0] := hw
    subst h1; subst h2
    exact is_nil w _ _ rfl rfl
  | some p => exact isf_calls S p.1 h.1 p.2 v want w hE h.2.2 hw h.2.1

theorem sc_other {w : World} {a b : Addr} {v : Value} (h : a ≠ b) : (w.setCell a v).cell? b = w.cell? b := by
  first | exact World.cell?_setCell_other _ _ _ _ h | exact World.cell?_setCell_other _ _ _ h | exact World.cell?_setCell_other h
abbrev tErr : Nat := 31
/-- a block of three cells: a document's error -/
def Box3 (w : World) (b : Nat) (x y z : Value) : Prop := w.heap[b]? = some (.cells #[x, y, z] tErr (0, 0))
theorem Box3.new (w : World) (x y z : Value) : Box3 (w.alloc (.cells #[x, y, z] tErr)) w.heap.size x y z := heap_alloc_new w _
theorem Box3.lt {w : World} {b : Nat} {x y z : Value} (h : Box3 w b x y z) : b < w.heap.size := blk_lt h
theorem Box3.below {w w1 : World} {b : Nat} {x y z : Value} (h : Box3 w b x y z) (hb : Below w.heap.size w w1) : Box3 w1 b x y z := (hb.block b h.lt).trans h
theorem Box3.far {w : World} {b : Nat} {x y z : Value} (h : Box3 w b x y z) {p : Addr} (hp : p.block ≠ b) (u : Value) : Box3 (w.setCell p u) b x y z := (Below.heap_setCell w p u b (Ne.symm hp)).trans h
theorem Box3.cells {w : World} {b : Nat} {x y z : Value} (h : Box3 w b x y z) : w.cell? ⟨b, 0, none⟩ = some x ∧ w.cell? ⟨b, 1, none⟩ = some y ∧ w.cell? ⟨b, 2, none⟩ = some z ∧ w.frozen? ⟨b, 0, none⟩ = false ∧ w.frozen? ⟨b, 1, none⟩ = false ∧ w.frozen? ⟨b, 2, none⟩ = false := by
  unfold Box3 at h
  refine ⟨?_, ?_, ?_, ?_, ?_, ?_⟩ <;> simp [World.cell?, World.frozen?, h]
/-- the world with the three cells written -/
abbrev put3 (w : World) (b : Nat) (x y z : Value) : World := ((w.setCell ⟨b, 0, none⟩ x).setCell ⟨b, 1, none⟩ y).setCell ⟨b, 2, none⟩ z
theorem Box3.put {w : World} {b : Nat} {x y z : Value} (h : Box3 w b x y z) (x' y' z' : Value) : Box3 (put3 w b x' y' z') b x' y' z' := by
  have h1 : (w.setCell ⟨b, 0, none⟩ x').heap[b]? = some (.cells #[x', y, z] tErr (0, 0)) := blk_set h 0 x'
  have h2 : ((w.setCell ⟨b, 0, none⟩ x').setCell ⟨b, 1, none⟩ y').heap[b]? = some (.cells #[x', y', z] tErr (0, 0)) := blk_set h1 1 y'
  exact blk_set h2 2 z'
theorem info_err : (Tryd.prog.info? tErr).map (·.size) = some 3 := by kernel_rfl
theorem res1 {fn : Func} {p : Tmp} {tmps : Array Value} {w : World} {b : Nat} {x y z : Value} (hB : Box3 w b x y z) (h : fn.results = #[.cell p tErr]) (hp : tmps.getD p undef = .pointer (some ⟨b, 0, none⟩)) :
    (results fn tmps).run Tryd.prog w = .ok (.agg #[x, y, z]) w :=
  results_cell_row h tmps w b tErr #[x, y, z] (0, 0) _ hp hB Tryd.underlying31 rfl info_err
theorem res2 {fn : Func} {p t : Tmp} {tmps : Array Value} {w : World} {b : Nat} {x y z : Value} (hB : Box3 w b x y z) (h : fn.results = #[.tmp t, .cell p tErr]) (hp : tmps.getD p undef = .pointer (some ⟨b, 0, none⟩)) :
    (results fn tmps).run Tryd.prog w = .ok (.tuple #[tmps.getD t undef, .agg #[x, y, z]]) w := by
  have hp' : tmps[p]?.getD undef = .pointer (some ⟨b, 0, none⟩) := by simpa using hp
  simp [results, h, hp', asAddr, run_loadVar_row w b tErr tErr #[x, y, z] (0, 0) _ hB Tryd.underlying31 rfl info_err]
theorem res3 {fn : Func} {p t t' : Tmp} {tmps : Array Value} {w : World} {b : Nat} {x y z : Value} (hB : Box3 w b x y z) (h : fn.results = #[.tmp t, .tmp t', .cell p tErr]) (hp : tmps.getD p undef = .pointer (some ⟨b, 0, none⟩)) :
    (results fn tmps).run Tryd.prog w = .ok (.tuple #[tmps.getD t undef, tmps.getD t' undef, .agg #[x, y, z]]) w := by
  have hp' : tmps[p]?.getD undef = .pointer (some ⟨b, 0, none⟩) := by simpa using hp
  simp [results, h, hp', asAddr, run_loadVar_row w b tErr tErr #[x, y, z] (0, 0) _ hB Tryd.underlying31 rfl info_err]
theorem below_put3 {w0 w : World} {b B : Nat} (h : Below B w0 w) (hb : B ≤ b) (x y z : Value) : Below B w0 (put3 w b x y z) :=
  ((h.setCell (p := ⟨b, 0, none⟩) hb _).setCell (p := ⟨b, 1, none⟩) hb _).setCell (p := ⟨b, 2, none⟩) hb _
theorem WantF.put3 {w : World} {b c : Nat} {v : Value} {o : Fr} (h : WantF w c v o) (hb : b < c) (x y z : Value) : WantF (put3 w b x y z) c v o :=
  ((h.far (p := ⟨b, 0, none⟩) hb _).far (p := ⟨b, 1, none⟩) hb _).far (p := ⟨b, 2, none⟩) hb _
end Go.Proofs.YtmnmmalffpimeaaDoor

/- RowsM of slices in memory of the call's own, each row with its own footprint. -/
namespace Go.Proofs.YtmnmmalffpimeaaDoor
open Go.RowKit Go.Proofs.YtmnmmalffpimeaaDoorW.PrintWords Go.Proofs.YtmnmmalffpimeaaDoorW.PrintLast Go.Proofs.YtmnmmalffpimeaaDoorW.PrintMore
set_option linter.unusedVariables false
set_option linter.unusedSimpArgs false
section
variable {α : Type} {d : Kd α} {e e' g n : Nat} {w w1 : World} {xs : List (List α)} {ok : Nat → Nat → Prop}

theorem FK_slice {c : List Value} {x : List α} {okp : Nat → Prop} (h : Kd.FK (Kd.slice e d) w okp x c) : ∃ A cc, c = [.slice A x.length cc] ∧ x.length ≤ cc ∧ Kd.F d w okp A x.length x := by
  obtain ⟨A, cc, rfl, hl, hC⟩ := Kd.FK_now h
  refine ⟨A, cc, rfl, hl, fun W' hW => ?_⟩
  obtain ⟨A', cc', he, _, hC'⟩ := h W' hW
  injection he with h1
  injection h1 with h2
  subst h2
  exact hC'

/-- block g holds n slices, the rows xs; what row j leads to lies in ok j, and not in g -/
def RowsM (d : Kd α) (w : World) (g n : Nat) (xs : List (List α)) (ok : Nat → Nat → Prop) : Prop :=
  xs.length = n ∧ n ≤ 9223372036854775807 ∧ g < w.heap.size ∧ ∀ j (h : j < xs.length), ∃ A c, w.cell? ⟨g, j, none⟩ = some (.slice A xs[j].length c) ∧ w.frozen? ⟨g, j, none⟩ = false ∧ xs[j].length ≤ c ∧ Kd.F d w (fun k => ok j k ∧ k ≠ g) A xs[j].length xs[j]
theorem RowsM.of_N {base cap : Nat} {okn : Nat → Prop} (h : Kd.N (Kd.slice e' d) e w base okn (.slice (some ⟨g, 0, none⟩) n cap) xs) : RowsM d w g n xs (fun _ k => okn k) := by
  have h1 := Kd.N_reads' h
  have hg : g < w.heap.size := Kd.N_lt h g (by simp [Value.ownBlock])
  refine ⟨h1.1.symm, by rw [h1.1]; exact Kd.C_max h1.2.2, hg, fun j hj => ?_⟩
  obtain ⟨c, hcl, hF, hcc, hfr⟩ := Kd.N_elem h [] (j : Int) (by omega) (by omega)
  rw [Int.toNat_natCast] at hF hcc hfr
  have e1 : xs.getD j [] = xs[j] := by rw [List.getD_eq_getElem?_getD, List.getElem?_eq_getElem hj]; rfl
  rw [e1] at hF
  obtain ⟨A, cc, rfl, hl, hF2⟩ := FK_slice hF
  have h3 := hcc 0 _ rfl
  have h4 := hfr 0
  rw [show j * (Kd.slice e' d).sz + 0 = j from by show j * 1 + 0 = j; omega] at h3 h4
  exact ⟨A, cc, h3, h4, hl, hF2⟩
theorem RowsM.C (h : RowsM d w g n xs ok) : Kd.C (Kd.slice e d) w (some ⟨g, 0, none⟩) n xs := by
  obtain ⟨h1, h2, h3, h4⟩ := h
  subst h1
  refine ⟨rfl, h2, fun _ => ⟨_, rfl, fun j p hj => ?_⟩⟩
  obtain ⟨hj1, hj2⟩ := List.getElem?_eq_some_iff.1 hj
  subst hj2
  obtain ⟨A, c, hc, _, hl, hF⟩ := h4 j hj1
  refine ⟨[.slice A xs[j].length c], rfl, ⟨A, c, rfl, hl, Kd.F_now hF⟩, fun i u hu => ?_⟩
  cases i with
  | zero =>
    have : u = .slice A xs[j].length c := by simpa using hu.symm
    subst this
    rw [show j * (Kd.slice e d).sz + 0 = j from by show j * 1 + 0 = j; omega, add_plain]
    exact hc
  | succ i => simp at hu
theorem RowsM.step (h : RowsM d w g n xs ok) (hg : w1.heap[g]? = w.heap[g]?) (hm : ∀ j k, j < n → ok j k → k ≠ g → k < w.heap.size → w1.heap[k]? = w.heap[k]?) : RowsM d w1 g n xs ok := by
  obtain ⟨h1, h2, h3, h4⟩ := h
  subst h1
  refine ⟨rfl, h2, heap_lt hg h3, fun j hj => ?_⟩
  obtain ⟨A, c, hc, hf, hl, hF⟩ := h4 j hj
  exact ⟨A, c, (World.cell?_of_block (a := ⟨g, j, none⟩) hg).trans hc, (World.frozen?_of_block (a := ⟨g, j, none⟩) hg).trans hf, hl, Kd.F_step hF (fun k hk hlt => hm j k hj hk.1 hk.2 hlt)⟩
theorem RowsM.below (h : RowsM d w g n xs ok) (hb : Below w.heap.size w w1) : RowsM d w1 g n xs ok := h.step (hb.block g h.2.2.1) (fun _ k _ _ _ hlt => hb.block k hlt)
theorem RowsM.mono {ok' : Nat → Nat → Prop} (h : RowsM d w g n xs ok) (hm : ∀ j k, j < n → ok j k → k < w.heap.size → k ≠ g → ok' j k) : RowsM d w g n xs ok' := by
  obtain ⟨h1, h2, h3, h4⟩ := h
  subst h1
  refine ⟨rfl, h2, h3, fun j hj => ?_⟩
  obtain ⟨A, c, hc, hf, hl, hF⟩ := h4 j hj
  exact ⟨A, c, hc, hf, hl, Kd.F_mono (Kd.F_bound hF) (fun k hk => ⟨hm j k hj hk.1.1 hk.2 hk.1.2, hk.1.2⟩)⟩
/-- a store elsewhere -/
theorem RowsM.far (h : RowsM d w g n xs ok) {p : Addr} (hg : p.block ≠ g) (hm : ∀ j k, j < n → ok j k → k ≠ p.block) (u : Value) : RowsM d (w.setCell p u) g n xs ok :=
  h.step (Below.heap_setCell w p u g (Ne.symm hg)) (fun j k hj hk _ _ => Below.heap_setCell w p u k (hm j k hj hk))
/-- a store of a slice into the row of rows -/
theorem RowsM.put (h : RowsM d w g n xs ok) (i : Nat) (hi : i < n) {A : Option Addr} {c : Nat} {l : List α} {okp : Nat → Prop} (hl : l.length ≤ c) (hF : Kd.F d w okp A l.length l) (hne : ∀ k, okp k → k ≠ g) :
    RowsM d (w.setCell ⟨g, i, none⟩ (.slice A l.length c)) g n (xs.set i l) (fun j => if j = i then okp else ok j) := by
  obtain ⟨h1, h2, h3, h4⟩ := h
  subst h1
  have hsz : (w.setCell ⟨g, i, none⟩ (.slice A l.length c)).heap.size = w.heap.size := by simp [World.setCell]
  refine ⟨List.length_set, h2, by rw [hsz]; exact h3, fun j hj => ?_⟩
  have hj' : j < xs.length := by simpa using hj
  by_cases e : j = i
  · subst e
    obtain ⟨A0, c0, hc, hf, _, _⟩ := h4 j hj'
    refine ⟨A, c, ?_, ?_, ?_, ?_⟩
    · rw [List.getElem_set_self]; exact setCell_same_ hc
    · rw [World.frozen?_setCell]; exact hf
    · rw [List.getElem_set_self]; exact hl
    · rw [List.getElem_set_self]
      exact Kd.F_mono (Kd.F_far hF (p := ⟨g, j, none⟩) hne _) (fun k hk => ⟨by simpa using hk, hne k hk⟩)
  · obtain ⟨A0, c0, hc, hf, hl0, hF0⟩ := h4 j hj'
    rw [List.getElem_set_ne (by omega)]
    refine ⟨A0, c0, ?_, ?_, hl0, ?_⟩
    · rw [sc_other (by intro he; injection he with _ he _; omega)]; exact hc
    · rw [World.frozen?_setCell]; exact hf
    · have := Kd.F_far hF0 (p := ⟨g, i, none⟩) (fun k hk => hk.2) (.slice A l.length c)
      exact Kd.F_mono this (fun k hk => ⟨by simpa [e] using hk.1, hk.2⟩)
theorem RowsM.get (h : RowsM d w g n xs ok) (i : Nat) (hi : i < n) : ∃ A c, w.cell? ⟨g, i, none⟩ = some (.slice A (xs.getD i []).length c) ∧ w.frozen? ⟨g, i, none⟩ = false ∧ (xs.getD i []).length ≤ c ∧ Kd.F d w (fun k => ok i k ∧ k ≠ g) A (xs.getD i []).length (xs.getD i []) := by
  obtain ⟨h1, h2, h3, h4⟩ := h
  subst h1
  have e1 : xs.getD i [] = xs[i] := by rw [List.getD_eq_getElem?_getD, List.getElem?_eq_getElem hi]; rfl
  rw [e1]
  exact h4 i hi
/-- the whole, as a value that is read -/
theorem RowsM.F (h : RowsM d w g n xs ok) {okall : Nat → Prop} (hg : okall g) (hm : ∀ j k, j < n → ok j k → k < w.heap.size → okall k) : Kd.F (Kd.slice e d) w okall (some ⟨g, 0, none⟩) n xs := fun W' hW =>
  (h.step (hW g hg h.2.2.1) (fun j k hj hk _ hlt => hW k (hm j k hj hk hlt) hlt)).C
theorem RowsM.V (h : RowsM d w g n xs ok) {c base : Nat} {okall : Nat → Prop} (hc : n ≤ c) (hg : okall g) (hm : ∀ j k, j < n → ok j k → k < w.heap.size → okall k) : Kd.V (Kd.slice e d) e' w base okall (.slice (some ⟨g, 0, none⟩) n c) xs := by
  have h0 := h.1
  subst h0
  exact Kd.V_mk hc (h.F hg hm)
end
end Go.Proofs.YtmnmmalffpimeaaDoor

/- Errors told further: fault.Under, edenraw.Under, with what they hold; a fault's frames. -/
namespace Go.Proofs.YtmnmmalffpimeaaDoor
open Go.RowKit Go.Extern.Stop Go.Stop Go.Extern Go.Proofs.YtmnmmalffpimeaaDoorW.PrintWords Go.Proofs.YtmnmmalffpimeaaDoorW.PrintLast Go.Proofs.YtmnmmalffpimeaaDoorW.PrintMore
set_option linter.unusedVariables false
set_option linter.unusedSimpArgs false

/-- what a call that answers an error, or none, leaves -/
def ErrO (S : Nat → Addr) (w : World) (o : Fr) (e : Ending) (w' : World) : Prop := ∃ v, e = .returned v ∧ ErrV S w' v o ∧ Below w.heap.size w w'
/-- .. a document's error -/
def WantO (w : World) (o : Fr) (e : Ending) (w' : World) : Prop := ∃ v, e = .returned v ∧ WantF w' w.heap.size v o ∧ Below w.heap.size w w'
/-- the error, told further -/
def undF (op : ByteArray) (pos : Int) : Fr → Fr
  | none => none
  | some (n, l) => some (n, (op, pos) :: l)
/-- few frames -/
def Few (m : Nat) : Fr → Prop
  | none => True
  | some (_, l) => l.length ≤ m
theorem Few.und {m : Nat} {o : Fr} (h : Few m o) (op : ByteArray) (pos : Int) : Few (m + 1) (undF op pos o) := by
  cases o with
  | none => trivial
  | some p => exact Nat.succ_le_succ h
theorem under_calls (S : Nat → Addr) (op : ByteArray) (pos : Int) (o : Fr) (ho : Few 1000 o) (v : Value) (w : World) (h : ErrV S w v o) :
    Calls Tryd.prog 84 #[.string op, .int .i64 pos, v] w (ErrO S w (undF op pos o)) := by
  cases o with
  | none =>
    have hv : v = .nilIface := h
    subst hv
    refine (funder_nil op pos w).mono ?_
    rintro e w' ⟨rfl, rfl⟩
    exact ⟨_, rfl, rfl, Below.refl _ _⟩
  | some p =>
    refine (funder_calls S op pos p.1.toNat p.2 v w h.2.2).mono ?_
    rintro e w' ⟨v', rfl, hv, hb⟩
    have ho' : p.2.length ≤ 1000 := ho
    exact ⟨v', rfl, ⟨h.1, by simp only [List.length_cons]; omega, hv⟩, hb⟩
end Go.Proofs.YtmnmmalffpimeaaDoor

/- mat.Check and edenref16.Check: what is a square matrix. -/
namespace Go.Proofs.YtmnmmalffpimeaaDoor
open Go.RowKit Go.Extern.Stop Go.Stop Go.Extern Go.Proofs.YtmnmmalffpimeaaDoorW.PrintWords Go.Proofs.YtmnmmalffpimeaaDoorW.PrintLast Go.Proofs.YtmnmmalffpimeaaDoorW.PrintMore
set_option linter.unusedVariables false
set_option linter.unusedSimpArgs false

abbrev KM : Kd (List (List Int)) := Kd.slice 44 KN
abbrev matS : ByteArray := ⟨#[109, 97, 116]⟩
/-- what Check says of lines of these lengths -/
def chk (lens : List Nat) : Fr :=
  if 96 < lens.length then some (4, [(matS, 0)]) else
  match lens.findIdx? (fun n => n != lens.length) with
  | none => none
  | some i => some (1, [(matS, (i : Int))])
theorem chk_big {lens : List Nat} (h : 96 < lens.length) : chk lens = some (4, [(matS, 0)]) := by unfold chk; rw [if_pos h]
theorem chk_ok {lens : List Nat} (h : ¬ 96 < lens.length) (hall : ∀ j (hj : j < lens.length), lens[j] = lens.length) : chk lens = none := by
  unfold chk
  rw [if_neg h]
  have : lens.findIdx? (fun n => n != lens.length) = none := by
    rw [List.findIdx?_eq_none_iff]
    intro x hx
    obtain ⟨j, hj, rfl⟩ := List.mem_iff_getElem.1 hx
    simp [hall j hj]
  rw [this]
theorem chk_at {lens : List Nat} (h : ¬ 96 < lens.length) {i : Nat} (hi : i < lens.length) (hne : lens[i] ≠ lens.length) (hall : ∀ j (hj : j < lens.length), j < i → lens[j] = lens.length) : chk lens = some (1, [(matS, (i : Int))]) := by
  unfold chk
  rw [if_neg h]
  have : lens.findIdx? (fun n => n != lens.length) = some i := by
    rw [List.findIdx?_eq_some_iff_getElem]
    refine ⟨hi, by simpa using hne, fun j hj => ?_⟩
    have := hall j (by omega) hj
    simp [this]
  rw [this]

set_option maxHeartbeats 1000000 in
set_option maxRecDepth 100000 in
theorem wrong_calls (S : Nat → Addr) (pos n : Int) (hn : Num n) (w : World) (h : Env S w) :
    Calls Tryd.prog 66 #[.int .i64 pos, .int .i64 n] w (ErrRes S w n.toNat [(matS, pos)]) := by
  have H := Aside0.mk h
  clear h
  go_enter Tryd.func66, Tryd.ntmps66
  go_wp2_with fail
  refine (fnew_calls S _ pos n hn _ H.out).mono ?_
  rintro e w1 ⟨v, rfl, hv, hb⟩
  have HV := Aside0.mk hv
  have HB := Aside0.mk hb
  clear hv hb
  go_wp2_with fail
  go_ret
  exact ⟨v, rfl, HV.out, HB.out⟩

set_option maxHeartbeats 4000000 in
set_option maxRecDepth 100000 in
theorem mcheck_calls (S : Nat → Addr) (A : Option Addr) (c : Nat) (m : List (List (List Int))) (w : World) (hE : Env S w) (hr : Kd.C KM w A m.length m) :
    Calls Tryd.prog 17 #[.slice A m.length c] w (ErrO S w (chk (m.map List.length))) := by
  have HE := Aside0.mk hE
  have HR := Aside0.mk hr
  have hm := Kd.C_max hr
  clear hE hr
  by_cases hbig : 96 < m.length
  · have hd : decide (96 < (m.length : Int)) = true := decide_eq_true (by omega)
    rw [chk_big (by simpa using hbig)]
    go_enter Tryd.func17, Tryd.ntmps17
    go_wp2_with fail
    refine (wrong_calls S 0 4 (by unfold Num; omega) _ HE.out).mono ?_
    rintro e w1 ⟨v, rfl, hv, hb⟩
    have HV := Aside0.mk hv
    have HB := Aside0.mk hb
    clear hv hb
    go_wp2_with fail
    go_ret
    exact ⟨v, rfl, ⟨by unfold Num; omega, by simp, HV.out⟩, HB.out⟩
  · have hd : decide (96 < (m.length : Int)) = false := decide_eq_false (by omega)
    have HBIG := Aside0.mk hbig
    clear hbig
    go_enter Tryd.func17, Tryd.ntmps17
    go_wp2_with fail
    go_loop [11] (fun v11 => ∃ i : Nat, v11 = .int .i64 i ∧ i ≤ m.length ∧ Aside0 (∀ j (h : j < m.length), j < i → m[j].length = m.length)) (fun v11 => m.length - (intOf v11).toNat)
    case atStart => exact ⟨0, rfl, Nat.zero_le _, ⟨fun j _ h => by omega⟩⟩
    case round =>
      obtain ⟨i, rfl, hi, HI⟩ := hrel
      by_cases hlt : i < m.length
      · obtain ⟨ad, A0, c0, e, hx, hl, hC⟩ := atRow HR.out i hlt
        subst e
        obtain ⟨n, hn⟩ : ∃ n, m[i].length = n := ⟨_, rfl⟩
        rw [hn] at hx
        have hnm : n ≤ 9223372036854775807 := by rw [← hn]; exact Kd.C_max hC
        have HN := Aside0.mk hn
        clear hl hC hn
        by_cases h4 : n = m.length
        · have hd : ((n : Int) != (m.length : Int)) = false := by rw [bne_eq_false_iff_eq]; omega
          have HH := Aside0.mk h4
          clear h4
          go_wp2_with fail
          go_round
          case rel => exact ⟨i + 1, by go_num, by omega, ⟨fun j h hj => by
            by_cases e : j = i
            · subst e; rw [HN.out]; exact HH.out
            · exact HI.out j h (by omega)⟩⟩
          case measure => simp [intOf]; omega
        · have hd : ((n : Int) != (m.length : Int)) = true := by rw [bne_iff_ne]; omega
          have HCK := chk_at (lens := m.map List.length) (by simpa using HBIG.out) (i := i) (by simpa using hlt) (by simp [HN.out]; exact h4) (fun j hj hji => by simp; exact HI.out j (by simpa using hj) hji)
          rw [HCK]
          clear h4
          go_wp2_with fail
          refine (wrong_calls S (i : Int) 1 (by unfold Num; omega) _ HE.out).mono ?_
          rintro e w1 ⟨v, rfl, hv, hb⟩
          have HV := Aside0.mk hv
          have HB := Aside0.mk hb
          clear hv hb
          go_wp2_with fail
          go_ret
          exact ⟨v, rfl, ⟨by unfold Num; omega, by simp, HV.out⟩, HB.out⟩
      · have HALL : ∀ j (h : j < m.length), m[j].length = m.length := fun j h => HI.out j h (by omega)
        have HCK := chk_ok (lens := m.map List.length) (by simpa using HBIG.out) (fun j hj => by simp; exact HALL j (by simpa using hj))
        rw [HCK]
        go_wp2_with fail
        go_ret
        exact ⟨_, rfl, rfl, Below.refl _ _⟩

set_option maxHeartbeats 4000000 in
set_option maxRecDepth 100000 in
theorem rcheck_calls (A : Option Addr) (c : Nat) (m : List (List (List Int))) (w : World) (hr : Kd.C KM w A m.length m) :
    Calls Tryd.prog 81 #[.slice A m.length c] w (WantO w (chk (m.map List.length))) := by
  obtain ⟨w0, hw0⟩ : ∃ w0, w.alloc (.cells #[.int .i64 0, .slice none 0 0, .slice none 0 0] tErr) = w0 := ⟨_, rfl⟩
  obtain ⟨b, hb0⟩ : ∃ b, w.heap.size = b := ⟨_, rfl⟩
  have hB0 : Below w.heap.size w w0 := by rw [← hw0]; exact below_alloc (Below.refl _ _) _
  have hbox : Box3 w0 b (.int .i64 0) (.slice none 0 0) (.slice none 0 0) := by rw [← hw0, ← hb0]; exact Box3.new _ _ _ _
  have hsz : w0.heap.size = b + 1 := by rw [← hw0, ← hb0]; simp
  have HR := Aside0.mk (Kd.C_below hr hB0)
  have HB0 := Aside0.mk hB0
  have HBX := Aside0.mk hbox
  have HSZ := Aside0.mk hsz
  have HBE := Aside0.mk hb0
  have HW0 := Aside0.mk hw0
  have hm := Kd.C_max hr
  clear hr hB0 hbox hsz
  by_cases hbig : 96 < m.length
  · have hd : decide (96 < (m.length : Int)) = true := decide_eq_true (by omega)
    rw [chk_big (by simpa using hbig)]
    go_enter Tryd.func81, Tryd.ntmps81
    go_wp2_with fail
    clear hw0 hb0
    refine (new_F _ 0 4 w0).mono ?_
    rintro e w1 ⟨v, rfl, hf, hb⟩
    obtain ⟨n, A1, n1, c1, A2, n2, c2, rfl, hn⟩ := hf.now.form
    obtain ⟨k0, k1, k2, z0, z1, z2⟩ := (HBX.out.below hb).cells
    have HX2 := Aside0.mk ((HBX.out.below hb).put (.int .i64 n) (.slice A1 n1 c1) (.slice A2 n2 c2))
    have HF := Aside0.mk ((hf.put3 (b := b) (by rw [HSZ.out]; omega) (.int .i64 n) (.slice A1 n1 c1) (.slice A2 n2 c2)).lower (b' := w.heap.size) (by rw [HSZ.out, HBE.out]; omega))
    have HB1 := Aside0.mk (below_put3 (below_step HB0.out hb) (Nat.le_of_eq HBE.out) (.int .i64 n) (.slice A1 n1 c1) (.slice A2 n2 c2))
    clear hf hb hn
    go_wp2_with fail
    (try simp only [Exit.inBlock, Exit.then]); refine bodyPost_ret (res1 HX2.out rfl rfl) rfl ?_
    exact ⟨_, rfl, HF.out, HB1.out⟩
  · have hd : decide (96 < (m.length : Int)) = false := decide_eq_false (by omega)
    have HBIG := Aside0.mk hbig
    clear hbig
    go_enter Tryd.func81, Tryd.ntmps81
    go_wp2_with fail
    clear hw0 hb0
    go_loop [3] (fun v3 => ∃ i : Nat, v3 = .int .i64 i ∧ i ≤ m.length ∧ Aside0 (∀ j (h : j < m.length), j < i → m[j].length = m.length)) (fun v3 => m.length - (intOf v3).toNat)
    case atStart => exact ⟨0, rfl, Nat.zero_le _, ⟨fun j _ h => by omega⟩⟩
    case round =>
      obtain ⟨i, rfl, hi, HI⟩ := hrel
      by_cases hlt : i < m.length
      · obtain ⟨ad, A0, c0, e, hx, hl, hC⟩ := atRow HR.out i hlt
        subst e
        obtain ⟨n, hn⟩ : ∃ n, m[i].length = n := ⟨_, rfl⟩
        rw [hn] at hx
        have hnm : n ≤ 9223372036854775807 := by rw [← hn]; exact Kd.C_max hC
        have HN := Aside0.mk hn
        clear hl hC hn
        by_cases h4 : n = m.length
        · have hd : ((n : Int) != (m.length : Int)) = false := by rw [bne_eq_false_iff_eq]; omega
          have HH := Aside0.mk h4
          clear h4
          go_wp2_with fail
          go_round
          case rel => exact ⟨i + 1, by go_num, by omega, ⟨fun j h hj => by
            by_cases e : j = i
            · subst e; rw [HN.out]; exact HH.out
            · exact HI.out j h (by omega)⟩⟩
          case measure => simp [intOf]; omega
        · have hd : ((n : Int) != (m.length : Int)) = true := by rw [bne_iff_ne]; omega
          have HCK := chk_at (lens := m.map List.length) (by simpa using HBIG.out) (i := i) (by simpa using hlt) (by simp [HN.out]; exact h4) (fun j hj hji => by simp; exact HI.out j (by simpa using hj) hji)
          rw [HCK]
          clear h4
          go_wp2_with fail
          refine (new_F _ (i : Int) 1 w0).mono ?_
          rintro e w1 ⟨v, rfl, hf, hb⟩
          obtain ⟨n, A1, n1, c1, A2, n2, c2, rfl, hn⟩ := hf.now.form
          obtain ⟨k0, k1, k2, z0, z1, z2⟩ := (HBX.out.below hb).cells
          have HX2 := Aside0.mk ((HBX.out.below hb).put (.int .i64 n) (.slice A1 n1 c1) (.slice A2 n2 c2))
          have HF := Aside0.mk ((hf.put3 (b := b) (by rw [HSZ.out]; omega) (.int .i64 n) (.slice A1 n1 c1) (.slice A2 n2 c2)).lower (b' := w.heap.size) (by rw [HSZ.out, HBE.out]; omega))
          have HB1 := Aside0.mk (below_put3 (below_step HB0.out hb) (Nat.le_of_eq HBE.out) (.int .i64 n) (.slice A1 n1 c1) (.slice A2 n2 c2))
          clear hf hb hn
          go_wp2_with fail
          (try simp only [Exit.inBlock, Exit.then]); refine bodyPost_ret (res1 HX2.out rfl rfl) rfl ?_
          exact ⟨_, rfl, HF.out, HB1.out⟩
      · have HALL : ∀ j (h : j < m.length), m[j].length = m.length := fun j h => HI.out j h (by omega)
        have HCK := chk_ok (lens := m.map List.length) (by simpa using HBIG.out) (fun j hj => by simp; exact HALL j (by simpa using hj))
        rw [HCK]
        obtain ⟨k0, k1, k2, z0, z1, z2⟩ := HBX.out.cells
        have HX2 := Aside0.mk (HBX.out.put (.int .i64 0) (.slice none 0 0) (.slice none 0 0))
        have HB1 := Aside0.mk (below_put3 HB0.out (Nat.le_of_eq HBE.out) (.int .i64 0) (.slice none 0 0) (.slice none 0 0))
        go_wp2_with fail
        (try simp only [Exit.inBlock, Exit.then]); refine bodyPost_ret (res1 HX2.out rfl rfl) rfl ?_
        exact ⟨_, rfl, WantF.nil _ _, HB1.out⟩
end Go.Proofs.YtmnmmalffpimeaaDoor

/- A matrix of numbers in memory of the call's own: a row of rows, each row in a block of its own. -/
namespace Go.Proofs.YtmnmmalffpimeaaDoor
open Go.RowKit Go.Extern.Stop Go.Stop Go.Extern Go.Proofs.YtmnmmalffpimeaaDoorW.PrintWords Go.Proofs.YtmnmmalffpimeaaDoorW.PrintLast Go.Proofs.YtmnmmalffpimeaaDoorW.PrintMore
set_option linter.unusedVariables false
set_option linter.unusedSimpArgs false

abbrev tNat : Nat := 44
abbrev tNats : Nat := 86
theorem FK_nil {α : Type} (e : Nat) (d : Kd α) (W : World) (okp : Nat → Prop) : Kd.FK (Kd.slice e d) W okp [] [.slice none 0 0] := fun W' _ => ⟨none, 0, rfl, Nat.le_refl _, Kd.C_nil _ _⟩

/-- a slice stored into a row of slices -/
theorem N_put1 {α : Type} {d : Kd α} {e e' g n cap base : Nat} {w : World} {ok okp : Nat → Prop} {xs : List (List α)} (h : Kd.N (Kd.slice e' d) e w base ok (.slice (some ⟨g, 0, none⟩) n cap) xs) (i : Nat) (hi : i < n) {A : Option Addr} {c : Nat} {l : List α}
    (hl : l.length ≤ c) (hF : Kd.F d w okp A l.length l) (hokp : ∀ k, okp k → ok k ∧ k ≠ g) : Kd.N (Kd.slice e' d) e (w.setCell ⟨g, i, none⟩ (.slice A l.length c)) base ok (.slice (some ⟨g, 0, none⟩) n cap) (xs.set i l) := by
  obtain ⟨c0, hcl, hF0, hcc, hfr⟩ := Kd.N_elem h [] (i : Int) (by omega) (by omega)
  rw [Int.toNat_natCast] at hcc
  have hcl1 : c0.length = 1 := hcl
  have hM : Kd.FK (Kd.slice e' d) w okp l (c0.take 0 ++ [Value.slice A l.length c] ++ c0.drop (0 + 1)) := by
    rw [List.drop_eq_nil_of_le (by omega)]
    exact fun W' hW => ⟨A, c, rfl, hl, hF W' hW⟩
  have h2 := (Kd.N_seg h (i : Int) (by omega) (by omega) (c := c0) (seg := [Value.slice A l.length c]) (j := 0) hcl (by rw [Int.toNat_natCast]; exact hcc) (by show 0 + 1 ≤ 1; omega) hM hokp).1
  rw [Int.toNat_natCast] at h2
  rw [show i * (Kd.slice e' d).sz + 0 = i from by show i * 1 + 0 = i; omega] at h2
  exact h2
theorem N_cell1 {α : Type} {d : Kd α} {e e' g n cap base : Nat} {w : World} {ok : Nat → Prop} {xs : List (List α)} (h : Kd.N (Kd.slice e' d) e w base ok (.slice (some ⟨g, 0, none⟩) n cap) xs) (i : Nat) (hi : i < n) :
    ∃ A c, w.cell? ⟨g, i, none⟩ = some (.slice A (xs.getD i []).length c) ∧ w.frozen? ⟨g, i, none⟩ = false ∧ (xs.getD i []).length ≤ c ∧ Kd.F d w (fun k => ok k ∧ k ≠ g) A (xs.getD i []).length (xs.getD i []) := by
  obtain ⟨c0, hcl, hF0, hcc, hfr⟩ := Kd.N_elem h [] (i : Int) (by omega) (by omega)
  rw [Int.toNat_natCast] at hF0 hcc hfr
  obtain ⟨A, c, rfl, hl, hF⟩ := FK_slice hF0
  have h1 := hcc 0 _ rfl
  have h2 := hfr 0
  rw [show i * (Kd.slice e' d).sz + 0 = i from by show i * 1 + 0 = i; omega] at h1 h2
  exact ⟨A, c, h1, h2, hl, hF⟩

/-- n cells that may be written -/
def OutC (w : World) (g n : Nat) : Prop := ∀ j, j < n → ∃ v, w.cell? ⟨g, j, none⟩ = some v ∧ w.frozen? ⟨g, j, none⟩ = false
theorem OutC.below {w w1 : World} {g n : Nat} (h : OutC w g n) (hb : Below w.heap.size w w1) : OutC w1 g n := by
  intro j hj
  obtain ⟨v, h1, h2⟩ := h j hj
  have hlt : g < w.heap.size := World.block_lt_of_cell? w _ h1
  exact ⟨v, (hb.cell (p := ⟨g, j, none⟩) hlt).trans h1, (hb.frozen (p := ⟨g, j, none⟩) hlt).trans h2⟩
theorem OutC.set {w : World} {g n : Nat} (h : OutC w g n) (p : Addr) (u : Value) : OutC (w.setCell p u) g n := by
  intro j hj
  obtain ⟨v, h1, h2⟩ := h j hj
  by_cases e : p = ⟨g, j, none⟩
  · subst e
    exact ⟨u, setCell_same_ h1, by rw [World.frozen?_setCell]; exact h2⟩
  · exact ⟨v, (sc_other e).trans h1, by rw [World.frozen?_setCell]; exact h2⟩
theorem OutC.of_N {α : Type} {d : Kd α} {e e' g n cap base : Nat} {w : World} {ok : Nat → Prop} {xs : List (List α)} (h : Kd.N (Kd.slice e' d) e w base ok (.slice (some ⟨g, 0, none⟩) n cap) xs) : OutC w g n := by
  intro j hj
  obtain ⟨A, c, h1, h2, _⟩ := N_cell1 h j hj
  exact ⟨_, h1, h2⟩

/-- the first m rows -/
def MatR (w : World) (g n : Nat) (G : Nat → Nat) (ok : Nat → Nat → Prop) (rows : Nat → List (List Int)) (m : Nat) : Prop :=
  ∀ j, j < m → (rows j).length = n ∧ ∃ c, w.cell? ⟨g, j, none⟩ = some (.slice (some ⟨G j, 0, none⟩) n c) ∧ n ≤ c ∧ w.frozen? ⟨g, j, none⟩ = false ∧ Kd.N KN tNat w 0 (ok j) (.slice (some ⟨G j, 0, none⟩) n c) (rows j)
section
variable {w w1 : World} {g n m : Nat} {G : Nat → Nat} {ok : Nat → Nat → Prop} {rows : Nat → List (List Int)}
theorem MatR.zero : MatR w g n G ok rows 0 := fun j hj => by omega
theorem MatR.below (h : MatR w g n G ok rows m) (hb : Below w.heap.size w w1) : MatR w1 g n G ok rows m := by
  intro j hj
  obtain ⟨h0, c, h1, h2, h3, h4⟩ := h j hj
  have hlt : g < w.heap.size := World.block_lt_of_cell? w _ h1
  exact ⟨h0, c, (hb.cell (p := ⟨g, j, none⟩) hlt).trans h1, h2, (hb.frozen (p := ⟨g, j, none⟩) hlt).trans h3, Kd.N_below h4 hb⟩
theorem MatR.mono {ok' : Nat → Nat → Prop} (h : MatR w g n G ok rows m) (hm : ∀ j k, j < m → ok j k → k < w.heap.size → ok' j k) : MatR w g n G ok' rows m := by
  intro j hj
  obtain ⟨h0, c, h1, h2, h3, h4⟩ := h j hj
  exact ⟨h0, c, h1, h2, h3, Kd.N_mono (Kd.N_bound h4) (fun k hk => hm j k hj hk.1 hk.2)⟩
/-- a store that meets none of the rows -/
theorem MatR.far (h : MatR w g n G ok rows m) {p : Addr} (hp : p.block ≠ g ∨ m ≤ p.off) (hm : ∀ j k, j < m → ok j k → k ≠ p.block) (u : Value) : MatR (w.setCell p u) g n G ok rows m := by
  intro j hj
  obtain ⟨h0, c, h1, h2, h3, h4⟩ := h j hj
  have hne : p ≠ ⟨g, j, none⟩ := by
    intro e
    subst e
    rcases hp with hp | hp
    · exact hp rfl
    · exact absurd hp (by show ¬ m ≤ j; omega)
  exact ⟨h0, c, (sc_other hne).trans h1, h2, by rw [World.frozen?_setCell]; exact h3, Kd.N_far h4 (fun k hk => hm j k hj hk) u⟩
/-- the next row is stored -/
theorem MatR.add (h : MatR w g n G ok rows m) (ho : OutC w g (m + 1)) {b c : Nat} (hc : n ≤ c) {okb : Nat → Prop} {row : List (List Int)} (hl : row.length = n) (hN : Kd.N KN tNat w 0 okb (.slice (some ⟨b, 0, none⟩) n c) row)
    (hm : ∀ j k, j < m → ok j k → k ≠ g) (hb : ∀ k, okb k → k ≠ g) :
    MatR (w.setCell ⟨g, m, none⟩ (.slice (some ⟨b, 0, none⟩) n c)) g n (fun j => if j = m then b else G j) (fun j => if j = m then okb else ok j) (fun j => if j = m then row else rows j) (m + 1) := by
  intro j hj
  by_cases e : j = m
  · subst e
    obtain ⟨v, h1, h2⟩ := ho j (by omega)
    refine ⟨by simpa using hl, c, ?_, hc, by rw [World.frozen?_setCell]; exact h2, ?_⟩
    · rw [setCell_same_ h1]; simp
    · simp only [if_true]
      exact Kd.N_far hN (fun k hk => hb k hk) _
  · have := (h.far (p := ⟨g, m, none⟩) (.inr (Nat.le_refl _)) (fun j k hj hk => hm j k hj hk) (.slice (some ⟨b, 0, none⟩) n c)) j (by omega)
    simpa [e] using this
/-- a number is stored into row i -/
theorem MatR.put (h : MatR w g n G ok rows m) (i t : Nat) (hi : i < m) (ht : t < n) {A : Option Addr} {c : Nat} {l : List Int} {okp : Nat → Prop} (hl : l.length ≤ c) (hF : Kd.F (Kd.int .u32) w okp A l.length l) (hokp : ∀ k, okp k → ok i k ∧ k ≠ G i) (hgi : G i ≠ g)
    (hm : ∀ j k, j < m → j ≠ i → ok j k → k ≠ G i) :
    MatR (w.setCell ⟨G i, t, none⟩ (.slice A l.length c)) g n G ok (fun j => if j = i then (rows i).set t l else rows j) m := by
  intro j hj
  obtain ⟨h0, c0, h1, h2, h3, h4⟩ := h j hj
  have hne : (⟨G i, t, none⟩ : Addr) ≠ ⟨g, j, none⟩ := by
    intro e
    injection e with e1
    exact hgi e1
  have hcell := (sc_other (v := .slice A l.length c) hne).trans h1
  have hfr : (w.setCell ⟨G i, t, none⟩ (.slice A l.length c)).frozen? ⟨g, j, none⟩ = false := by rw [World.frozen?_setCell]; exact h3
  by_cases e : j = i
  · subst e
    refine ⟨by simp [h0], c0, hcell, h2, hfr, ?_⟩
    simp only [if_true]
    exact N_put1 h4 t ht hl hF hokp
  · refine ⟨by simp [e, h0], c0, hcell, h2, hfr, ?_⟩
    simp only [e, if_false]
    exact Kd.N_far h4 (p := ⟨G i, t, none⟩) (fun k hk => hm j k hj e hk) _
/-- the whole, as a value that is read -/
theorem MatR.V {xs : List (List (List Int))} {cap base : Nat} {okall : Nat → Prop} (h : MatR w g n G ok rows xs.length) (hx : ∀ j (hj : j < xs.length), xs[j] = rows j) (hmax : xs.length ≤ 9223372036854775807) (hc : xs.length ≤ cap) (hg : okall g) (hm : ∀ j k, j < xs.length → ok j k → k < w.heap.size → okall k) :
    Kd.V KM tNats w base okall (.slice (some ⟨g, 0, none⟩) xs.length cap) xs := by
  refine Kd.V_mk hc (fun W' hW => ⟨rfl, hmax, fun _ => ⟨_, rfl, fun j p hj => ?_⟩⟩)
  obtain ⟨hj1, hj2⟩ := List.getElem?_eq_some_iff.1 hj
  subst hj2
  obtain ⟨h0, c, h1, h2, h3, h4⟩ := h j hj1
  have hlt : g < w.heap.size := World.block_lt_of_cell? w _ h1
  have hN := Kd.N_reads' (Kd.N_step (Kd.N_bound h4) (fun k hk hl => hW k (hm j k hj1 hk.1 hk.2) hl))
  rw [← hx j hj1] at h0 hN
  refine ⟨[.slice (some ⟨G j, 0, none⟩) n c], rfl, ⟨_, c, by rw [h0], by omega, hN.2.2⟩, fun i u hu => ?_⟩
  cases i with
  | zero =>
    have : u = .slice (some ⟨G j, 0, none⟩) n c := by simpa using hu.symm
    subst this
    rw [show j * KM.sz + 0 = j from by show j * 1 + 0 = j; omega, add_plain]
    exact (World.cell?_of_block (a := ⟨g, j, none⟩) (hW g hg hlt)).trans h1
  | succ i => simp at hu
end
end Go.Proofs.YtmnmmalffpimeaaDoor

/- mat.zero, mat.One; edenref16.unit, edenref16.One. -/
namespace Go.Proofs.YtmnmmalffpimeaaDoor
open Go.RowKit Go.Extern.Stop Go.Stop Go.Extern Go.Proofs.YtmnmmalffpimeaaDoorW.PrintWords Go.Proofs.YtmnmmalffpimeaaDoorW.PrintLast Go.Proofs.YtmnmmalffpimeaaDoorW.PrintMore
set_option linter.unusedVariables false
set_option linter.unusedSimpArgs false

theorem info_nats : (Tryd.prog.info? tNats).map (fun i => (i.zero, i.size, i.bytes)) = some (some (.slice none 0 0), 1, 24) := by kernel_rfl
theorem info_nat : (Tryd.prog.info? tNat).map (fun i => (i.zero, i.size, i.bytes)) = some (some (.slice none 0 0), 1, 24) := by kernel_rfl
theorem nrm_one : Nrm [1] := ⟨Limbs.cons ⟨by decide, by decide⟩ Limbs.nil, by simp [Tip]⟩

theorem norm_spec : ∀ (n k : Nat) (l : List Int), l.length = n → n < k → n ≤ 9223372036854775807 → GNat.nat_norm.l0 k l = some (trim l)
  | 0, k, l, hl, hk, _ => by
    obtain ⟨k, rfl⟩ : ∃ j, k = j + 1 := ⟨k - 1, by omega⟩
    have : l = [] := List.length_eq_zero_iff.1 hl
    subst this
    simp [GNat.nat_norm.l0, trim]
  | n + 1, k, l, hl, hk, hm => by
    obtain ⟨k, rfl⟩ : ∃ j, k = j + 1 := ⟨k - 1, by omega⟩
    have hw : wrap64 ((l.length : Int) - 1) = (n : Int) := by rw [IntWalk.wrap64_in _ (by omega)]; omega
    simp only [GNat.nat_norm.l0]
    rw [if_pos (by omega), hw, if_pos (by omega), if_pos (by omega)]
    have hn1 : trim (l.take (n + 1)) = trim l := by rw [← hl, List.take_length]
    by_cases h0 : rd l (n : Int) = 0
    · rw [if_pos h0, if_pos (by omega), Int.toNat_natCast, norm_spec n k (l.take n) (by simp; omega) (by omega) (by omega), ← trim_step (l := l) (k := n) (by omega) (by simpa [rd] using h0), hn1]
    · rw [if_neg h0]
      have h1 := trim_done (l := l) (k := n) (by omega) (by simpa [rd] using h0)
      rw [hn1, ← hl, List.take_length] at h1
      rw [h1]
theorem from_calls (x : Int) (w : World) (h0 : 0 ≤ x) (h1 : x < 18446744073709551616) : Calls Tryd.prog 46 #[.int .u64 x] w (NatRes w x) := by
  have hs : GNat.nat_From.f 3 x = some (trim [x % 4294967296, x / 4294967296 % 4294967296]) := by
    unfold GNat.nat_From.f GNat.nat_norm.f
    rw [norm_spec 2 3 _ rfl (by decide) (by decide)]
    rfl
  refine (GNat.nat_From.calls 3 x _ w hs).mono ?_
  rintro e w' ⟨v, rfl, hv, hb⟩
  refine ⟨v, _, rfl, hv, trim_nrm (Limbs.cons ⟨by omega, by omega⟩ (Limbs.cons ⟨by omega, by omega⟩ Limbs.nil)), ?_, hb⟩
  rw [trim_val]
  simp only [val]
  omega

def ZeroRes (w : World) (n : Nat) (e : Ending) (w' : World) : Prop :=
  ∃ (g cap : Nat) (G : Nat → Nat), e = .returned (.slice (some ⟨g, 0, none⟩) n cap) ∧ n ≤ cap ∧ MatR w' g n G (fun j k => k = G j) (fun _ => List.replicate n []) n ∧ OutC w' g n ∧ w.heap.size ≤ g ∧ g < w'.heap.size ∧
    (∀ j, j < n → g < G j ∧ G j < w'.heap.size) ∧ (∀ j j', j < n → j' < n → j ≠ j' → G j ≠ G j') ∧ Below w.heap.size w w'
set_option maxHeartbeats 4000000 in
set_option maxRecDepth 100000 in
theorem zero_calls (n : Nat) (w : World) (h0 : 0 < n) (hn : n ≤ 96) : Calls Tryd.prog 67 #[.int .i64 n] w (ZeroRes w n) := by
  have P0 : Aside0 (0 ≤ (n : Int)) := ⟨by omega⟩
  have HN : Aside0 (0 < n ∧ n ≤ 96) := ⟨h0, hn⟩
  have HB := Aside0.mk (Below.refl w.heap.size w)
  have hn9 : n ≤ 9223372036854775807 := by omega
  clear h0 hn
  go_enter Tryd.func67, Tryd.ntmps67
  go_wp2_with ((with_reducible refine gate_dst (N := 6) rfl ?_); refine print_hold ?_)
  unfold Hold
  refine Kd.N_make KM _ tNats rfl (N' := 6) rfl 23 _ _ rfl (n : Int) rfl rfl Tryd.underlying23 (.slice none 0 0) 24 info_nats rfl (by decide) (by omega) [] (ok := fun _ => True) (okp := fun _ => False) (FK_nil _ _ _ _) (fun _ hk => hk.elim) trivial P0.out (by have := HN.out; omega) HB.out (Nat.le_refl _) ?_
  intro vo w1 ho hb hg_ hnew_
  clear hg_ hnew_ HB
  have HB := Aside0.mk hb
  have HO := Aside0.mk ho
  clear hb ho
  rw [Int.toNat_natCast] at HO
  obtain ⟨g, cap, eo, gb, gl, _⟩ := Kd.N_form HO.out (by simp; exact HN.out.1)
  rw [List.length_replicate] at eo
  subst eo
  have HOC := Aside0.mk (OutC.of_N HO.out)
  have HCAP := Aside0.mk (Kd.N_reads' HO.out).2.1
  have HGB := Aside0.mk gb
  have HGL := Aside0.mk gl
  clear HO gb gl
  go_wp2_with fail
  go_loopg [9] n (fun kq v9 w' => ∃ (i : Nat) (G : Nat → Nat), v9 = .int .i64 i ∧ Aside0 (kq + i = n) ∧ Aside0 (MatR w' g n G (fun j k => k = G j) (fun _ => List.replicate n []) i) ∧ Aside0 (OutC w' g n) ∧ Aside0 (g < w'.heap.size) ∧ Aside0 (∀ j, j < i → g < G j ∧ G j < w'.heap.size) ∧ Aside0 (∀ j j', j < i → j' < i → j ≠ j' → G j ≠ G j') ∧ Aside0 (Below w.heap.size w w'))
  case atStart => exact ⟨0, fun _ => 0, rfl, ⟨rfl⟩, ⟨MatR.zero⟩, HOC, HGL, ⟨fun j hj => by omega⟩, ⟨fun j j' hj => by omega⟩, HB⟩
  case round =>
    clear HOC HGL HB
    obtain ⟨i, G, rfl, HK, HM, HOC, HGL, HG, HI, HB⟩ := hrel
    by_cases hlt : i < n
    · obtain ⟨k1, rfl⟩ : ∃ k1, gk = k1 + 1 := ⟨gk - 1, by have := HK.out; omega⟩
      obtain ⟨b, hbb⟩ : ∃ b, b = wr.heap.size := ⟨_, rfl⟩
      go_wp2_with ((with_reducible refine gate_dst (N := 15) rfl ?_); refine print_hold ?_)
      unfold Hold
      refine Kd.N_make KN _ tNat rfl (N' := 15) rfl tNats _ _ rfl (n : Int) rfl rfl Tryd.underlying86 (.slice none 0 0) 24 info_nat rfl (by decide) (by omega) [] (ok := fun k => k = b) (okp := fun _ => False) (FK_nil _ _ _ _) (fun _ hk => hk.elim) hbb.symm P0.out (by have := HN.out; omega) HB.out HB.out.size ?_
      intro v1 w2 ho hb hg_ hnew_
      rw [Int.toNat_natCast] at ho
      obtain ⟨b', cb, eo, gb, gl, _⟩ := Kd.N_form ho (by simp; exact HN.out.1)
      rw [List.length_replicate] at eo
      subst eo
      have hbe : b' = b := ho.1 b' (by simp [Value.ownBlock])
      subst hbe
      have HCB := Aside0.mk (Kd.N_reads' ho).2.1
      have hbl : Below wr.heap.size wr w2 := (Below.refl _ _).grown hg_ (Nat.le_refl _) (fun k hk => by cases hk)
      have HM2 := Aside0.mk (HM.out.below hbl)
      have HOC2 := Aside0.mk (HOC.out.below hbl)
      have HROW := Aside0.mk (Kd.N_lower ho (Nat.zero_le _))
      have HB2 := Aside0.mk hb
      have HGL2 := Aside0.mk (Nat.lt_of_lt_of_le HGL.out hbl.size)
      have HBL := Aside0.mk (And.intro hbl.size gl)
      have HBB := Aside0.mk hbb
      obtain ⟨vi, hci, hfi⟩ := HOC2.out i hlt
      clear ho hb hg_ hnew_ hbl gb gl hbb
      go_wp2_with fail
      go_roundg k1
      case measure => omega
      case rel =>
        have hgb : g < b' := by rw [HBB.out]; exact HGL.out
        refine ⟨i + 1, fun j => if j = i then b' else G j, by go_num, ⟨by have := HK.out; omega⟩, ⟨?_⟩, ⟨HOC2.out.set _ _⟩, ⟨by simpa [World.setCell] using HGL2.out⟩, ⟨?_⟩, ⟨?_⟩, ⟨HB2.out.setCell (p := ⟨g, i, none⟩) HGB.out _⟩⟩
        · have hA := HM2.out.add (fun j hj => HOC2.out j (by omega)) (b := b') (c := cb) HCB.out (okb := fun k => k = b') (row := List.replicate n []) (by simp) HROW.out (fun j k hj hk => by have := (HG.out j hj).1; omega) (fun k hk => by omega)
          intro j hj
          obtain ⟨h0, c, h1, h2, h3, h4⟩ := hA j hj
          refine ⟨by simp, c, h1, h2, h3, ?_⟩
          by_cases e : j = i
          · subst e; simpa using h4
          · simpa [e] using h4
        · intro j hj
          by_cases e : j = i
          · subst e; simp only [if_true]; refine ⟨hgb, ?_⟩; have := HBL.out.2; simpa [World.setCell] using this
          · simp only [e, if_false]
            have := HG.out j (by omega)
            refine ⟨this.1, ?_⟩
            have h5 := HBL.out.1
            have : G j < w2.heap.size := by omega
            simpa [World.setCell] using this
        · intro j j' hj hj' hne
          by_cases e : j = i
          · subst e
            have e' : j' ≠ j := fun h => hne h.symm
            simp only [if_true, e', if_false]
            have := (HG.out j' (by omega)).2
            rw [HBB.out]; omega
          · by_cases e' : j' = i
            · subst e'
              simp only [e, if_false, if_true]
              have := (HG.out j (by omega)).2
              rw [HBB.out]; omega
            · simp only [e, e', if_false]
              exact HI.out j j' (by omega) (by omega) hne
    · obtain rfl : i = n := by have := HK.out; omega
      go_wp2_with fail
      go_ret
      exact ⟨g, cap, G, rfl, HCAP.out, HM.out, HOC.out, HGB.out, HGL.out, HG.out, HI.out, HB.out⟩
end Go.Proofs.YtmnmmalffpimeaaDoor
